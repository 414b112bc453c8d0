/- Proved: cut to bounds a number stands between them, one that did stays, cut again it stays, for every input. Conditions: none. -/
import Derived.Test.YtjecaenloilkcaaPFixedClampsx1
namespace Go.Proofs.Ytjecaenloilkcaa.Pure
open Go.RowKit Go.Proofs.Ytjecaenloilkcaa.PFixedClamps Go.Proofs.YtjecaenloilkcaaW.PrintWords Go.Proofs.YtjecaenloilkcaaW.PrintLast Go.Proofs.YtjecaenloilkcaaW.PrintMore
set_option linter.unusedSimpArgs false
set_option linter.unusedVariables false
theorem i64_wf {a : Int} (h : (Lit.int .i64 a).wf = true) : -9223372036854775808 ≤ a ∧ a ≤ 9223372036854775807 := by
  simp [Lit.wf] at h
  simp [IntKind.min, IntKind.signed, IntKind.bits] at h
  omega
theorem downArith (a b : Int) (hb : 1 ≤ b) : (if Int.tmod a b < 0 then Int.tdiv a b - 1 else Int.tdiv a b) = a / b := by
  rw [Int.tmod_eq_emod, Int.tdiv_eq_ediv]
  have h1 := Int.emod_nonneg a (show b ≠ 0 by omega)
  have h2 := Int.emod_lt_of_pos a (show 0 < b by omega)
  have hs : b.sign = 1 := Int.sign_eq_one_of_pos (by omega)
  by_cases h : 0 ≤ a ∨ b ∣ a
  · simp only [h, if_true]; rw [if_neg (by omega)]; omega
  · simp only [h, if_false, hs]; rw [if_pos (by omega)]; omega
theorem upArith (a b : Int) (hb : 1 ≤ b) : (if Int.tmod a b > 0 then Int.tdiv a b + 1 else Int.tdiv a b) = -((-a) / b) := by
  rw [Int.tmod_eq_emod, Int.tdiv_eq_ediv]
  have h1 := Int.emod_nonneg a (show b ≠ 0 by omega)
  have h2 := Int.emod_lt_of_pos a (show 0 < b by omega)
  have hs : b.sign = 1 := Int.sign_eq_one_of_pos (by omega)
  have hd : b ∣ a ↔ a % b = 0 := Int.dvd_iff_emod_eq_zero
  have he := Int.mul_ediv_add_emod a b
  by_cases h0 : a % b = 0
  · have : (-a) / b = -(a / b) := by
      have := (Int.ediv_emod_unique (a := -a) (b := b) (r := 0) (q := -(a/b)) (by omega)).2 ⟨by rw [Int.mul_neg]; omega, by omega, by omega⟩
      exact this.1
    simp only [hd, h0]; simp; omega
  · have : (-a) / b = -(a / b) - 1 := by
      have := (Int.ediv_emod_unique (a := -a) (b := b) (r := b - a % b) (q := -(a/b) - 1) (by omega)).2 ⟨by rw [Int.mul_sub, Int.mul_neg]; omega, by omega, by omega⟩
      exact this.1
    rw [this]
    by_cases ha : 0 ≤ a
    · simp [ha]; rw [if_pos (by omega)]; omega
    · have hno : ¬ (0 ≤ a ∨ b ∣ a) := by rw [hd]; omega
      simp only [hno, if_false, hs]; rw [if_neg (by omega)]; omega
theorem ediv_range (a b : Int) (hb : 1 ≤ b) (h1 : -9223372036854775808 ≤ a) (h2 : a ≤ 9223372036854775807) : -9223372036854775808 ≤ a / b ∧ a / b ≤ 9223372036854775807 := by
  constructor
  · rw [Int.le_ediv_iff_mul_le (by omega)]
    have := Int.mul_le_mul_of_nonneg_left hb (show (0:Int) ≤ 9223372036854775808 by omega); omega
  · have : a / b < 9223372036854775808 := by
      rw [Int.ediv_lt_iff_lt_mul (by omega)]
      have := Int.mul_le_mul_of_nonneg_left hb (show (0:Int) ≤ 9223372036854775808 by omega); omega
    omega

def sat (x : Int) : Int := if 9223372036854775807 < x then 9223372036854775807 else if x < -9223372036854775808 then -9223372036854775808 else x
abbrev R64 (x : Int) : Prop := -9223372036854775808 ≤ x ∧ x ≤ 9223372036854775807
theorem sat_R (x : Int) : R64 (sat x) := by unfold sat; split; omega; split <;> omega
theorem sat_of {x : Int} (h : R64 x) : sat x = x := by unfold sat; split; omega; split <;> omega

theorem add_eq (k : Nat) (a b : Int) (ha : R64 a) (hb : R64 b) : fixed_Add.f (k + 1) a b = some (sat (a + b)) := by
  unfold fixed_Add.f sat wrap64
  simp only [fixed_Add.j0, decide_eq_true_eq]; unfold wrap64
  repeat' split
  all_goals first | rfl | (exfalso; omega) | (exfalso; simp_all; done) | (congr 1; omega)

theorem tdiv_range (a b : Int) (ha : R64 a) (hb : 1 ≤ b) : R64 (Int.tdiv a b) := by
  have hdm := Int.tdiv_eq_ediv (a := a) (b := b)
  have hs : b.sign = 1 := Int.sign_eq_one_of_pos (by omega)
  have hr := ediv_range a b (by omega) ha.1 ha.2
  rw [hs] at hdm
  by_cases ha0 : 0 ≤ a
  · simp only [ha0, true_or, if_true] at hdm; omega
  · have hneg : a / b < 0 := by rw [Int.ediv_lt_iff_lt_mul (by omega)]; omega
    split at hdm <;> omega
theorem down_eq (a b : Int) (ha : R64 a) (hb : R64 b) : fixed_Down.f a b = some (if b < 1 then 0 else a / b) := by
  unfold fixed_Down.f
  by_cases h : b < 1
  · simp [h]
  · have hd := downArith a b (by omega)
    have hr := ediv_range a b (by omega) ha.1 ha.2
    have hw : wrap64 (Int.tdiv a b) = Int.tdiv a b := by have := tdiv_range a b ha (by omega); unfold wrap64; omega
    rw [if_neg h, if_neg h, if_neg (by omega), hw, ← hd]
    split
    · congr 1; unfold wrap64; rename_i hlt; rw [if_pos hlt] at hd; omega
    · rfl
theorem up_eq (a b : Int) (ha : R64 a) (hb : R64 b) : fixed_Up.f a b = some (if b < 1 then 0 else -((-a) / b)) := by
  unfold fixed_Up.f
  by_cases h : b < 1
  · simp [h]
  · have hd := upArith a b (by omega)
    have hr : R64 (-((-a) / b)) := by
      have hlo : -9223372036854775807 ≤ (-a) / b := by
        rw [Int.le_ediv_iff_mul_le (by omega)]
        have := Int.mul_le_mul_of_nonneg_left (show (1:Int) ≤ b by omega) (show (0:Int) ≤ 9223372036854775807 by omega); omega
      have hhi : (-a) / b ≤ 9223372036854775808 := by
        have : (-a) / b < 9223372036854775809 := by
          rw [Int.ediv_lt_iff_lt_mul (by omega)]
          have := Int.mul_le_mul_of_nonneg_left (show (1:Int) ≤ b by omega) (show (0:Int) ≤ 9223372036854775808 by omega); omega
        omega
      omega
    have hw : wrap64 (Int.tdiv a b) = Int.tdiv a b := by have := tdiv_range a b ha (by omega); unfold wrap64; omega
    rw [if_neg h, if_neg h, if_neg (by omega), hw, ← hd]
    split
    · congr 1; unfold wrap64; rename_i hlt; rw [if_pos hlt] at hd; omega
    · rfl

theorem first_eq (k : Nat) : dynamolaw1_first.f (k + 1) = some true := by
  unfold dynamolaw1_first.f
  rw [down_eq _ _ (by omega) (by omega), up_eq _ _ (by omega) (by omega), add_eq _ _ _ (by omega) (by omega)]
  simp [sat]

theorem clamp_spec (x lo hi : Int) : ∃ y, fixed_Clamp.f x lo hi = some y ∧ (lo ≤ hi → lo ≤ y ∧ y ≤ hi ∧ (lo ≤ x → x ≤ hi → y = x) ∧ (x < lo → y = lo) ∧ (hi < x → y = hi)) ∧ (hi < lo → y = lo) := by
  refine ⟨_, rfl, ?_⟩
  unfold mx mn
  repeat' split
  all_goals (refine ⟨fun h => ⟨?_, ?_, fun _ _ => ?_, fun _ => ?_, fun _ => ?_⟩, fun h => ?_⟩ <;> omega)
theorem FixedClamps : dynamolaw1_FixedClamps.Pure := by
  intro x lo hi h0 h1 h2
  have h0 := i64_wf h0
  have h1 := i64_wf h1
  have h2 := i64_wf h2
  refine ⟨2, ?_⟩
  unfold dynamolaw1_FixedClamps.f
  rw [first_eq]
  simp only [Option.bind_some, if_true]
  obtain ⟨y, hy, hc, hn⟩ := clamp_spec x lo hi
  obtain ⟨z, hz, hc2, hn2⟩ := clamp_spec y lo hi
  rw [hy]; simp only [Option.bind_some]; rw [hz]; simp only [Option.bind_some]
  by_cases h : lo > hi
  · rw [if_pos h]; simp [hn h]
  · rw [if_neg h]
    obtain ⟨c1, c2, c3, c4, c5⟩ := hc (by omega)
    obtain ⟨d1, d2, d3, d4, d5⟩ := hc2 (by omega)
    have hzy := d3 c1 c2
    by_cases hl : x ≥ lo
    · rw [if_pos hl, if_pos c1, if_pos c2]
      by_cases hh : x ≤ hi
      · rw [if_pos hh, if_pos (c3 hl hh), if_pos hzy]
      · rw [if_neg hh, if_pos hzy]
        have := c5 (by omega)
        split
        · rfl
        · simp [this]
    · rw [if_neg hl, if_pos c1, if_pos c2, if_pos hzy, if_pos (c4 (by omega))]

end Go.Proofs.Ytjecaenloilkcaa.Pure
