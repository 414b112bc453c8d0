/- Proved: numbers of two spans have their sum, difference, multiple, part in the spans' sum, difference, multiple, part, for every input. Conditions: none. -/
import Derived.Test.YtjecaenloilkcaaPSpanHoldsx4
namespace Go.Proofs.Ytjecaenloilkcaa.Pure
open Go.RowKit Go.Proofs.Ytjecaenloilkcaa.PSpanHolds Go.Proofs.YtjecaenloilkcaaW.PrintWords Go.Proofs.YtjecaenloilkcaaW.PrintLast Go.Proofs.YtjecaenloilkcaaW.PrintMore
set_option linter.unusedSimpArgs false
set_option linter.unusedVariables false
theorem i64_wf {a : Int} (h : (Lit.int .i64 a).wf = true) : -9223372036854775808 ≤ a ∧ a ≤ 9223372036854775807 := by
  simp [Lit.wf] at h
  simp [IntKind.min, IntKind.signed, IntKind.bits] at h
  omega
theorem downArith (a b : Int) (hb : 1 ≤ b) : (if Int.tmod a b < 0 then Int.tdiv a b - 1 else Int.tdiv a b) = a / b := by
  rw [Int.tmod_eq_emod, Int.tdiv_eq_ediv]
  have h1 := Int.emod_nonneg a (show b ≠ 0 by omega)
  have h2 := Int.emod_lt_of_pos a (show 0 < b by omega)
  have hs : b.sign = 1 := Int.sign_eq_one_of_pos (by omega)
  by_cases h : 0 ≤ a ∨ b ∣ a
  · simp only [h, if_true]; rw [if_neg (by omega)]; omega
  · simp only [h, if_false, hs]; rw [if_pos (by omega)]; omega
theorem upArith (a b : Int) (hb : 1 ≤ b) : (if Int.tmod a b > 0 then Int.tdiv a b + 1 else Int.tdiv a b) = -((-a) / b) := by
  rw [Int.tmod_eq_emod, Int.tdiv_eq_ediv]
  have h1 := Int.emod_nonneg a (show b ≠ 0 by omega)
  have h2 := Int.emod_lt_of_pos a (show 0 < b by omega)
  have hs : b.sign = 1 := Int.sign_eq_one_of_pos (by omega)
  have hd : b ∣ a ↔ a % b = 0 := Int.dvd_iff_emod_eq_zero
  have he := Int.mul_ediv_add_emod a b
  by_cases h0 : a % b = 0
  · have : (-a) / b = -(a / b) := by
      have := (Int.ediv_emod_unique (a := -a) (b := b) (r := 0) (q := -(a/b)) (by omega)).2 ⟨by rw [Int.mul_neg]; omega, by omega, by omega⟩
      exact this.1
    simp only [hd, h0]; simp; omega
  · have : (-a) / b = -(a / b) - 1 := by
      have := (Int.ediv_emod_unique (a := -a) (b := b) (r := b - a % b) (q := -(a/b) - 1) (by omega)).2 ⟨by rw [Int.mul_sub, Int.mul_neg]; omega, by omega, by omega⟩
      exact this.1
    rw [this]
    by_cases ha : 0 ≤ a
    · simp [ha]; rw [if_pos (by omega)]; omega
    · have hno : ¬ (0 ≤ a ∨ b ∣ a) := by rw [hd]; omega
      simp only [hno, if_false, hs]; rw [if_neg (by omega)]; omega
theorem ediv_range (a b : Int) (hb : 1 ≤ b) (h1 : -9223372036854775808 ≤ a) (h2 : a ≤ 9223372036854775807) : -9223372036854775808 ≤ a / b ∧ a / b ≤ 9223372036854775807 := by
  constructor
  · rw [Int.le_ediv_iff_mul_le (by omega)]
    have := Int.mul_le_mul_of_nonneg_left hb (show (0:Int) ≤ 9223372036854775808 by omega); omega
  · have : a / b < 9223372036854775808 := by
      rw [Int.ediv_lt_iff_lt_mul (by omega)]
      have := Int.mul_le_mul_of_nonneg_left hb (show (0:Int) ≤ 9223372036854775808 by omega); omega
    omega

def sat (x : Int) : Int := if 9223372036854775807 < x then 9223372036854775807 else if x < -9223372036854775808 then -9223372036854775808 else x
abbrev R64 (x : Int) : Prop := -9223372036854775808 ≤ x ∧ x ≤ 9223372036854775807
theorem sat_R (x : Int) : R64 (sat x) := by unfold sat; split; omega; split <;> omega
theorem sat_of {x : Int} (h : R64 x) : sat x = x := by unfold sat; split; omega; split <;> omega

theorem add_eq (k : Nat) (a b : Int) (ha : R64 a) (hb : R64 b) : fixed_Add.f (k + 1) a b = some (sat (a + b)) := by
  unfold fixed_Add.f sat wrap64
  simp only [fixed_Add.j0, decide_eq_true_eq]; unfold wrap64
  repeat' split
  all_goals first | rfl | (exfalso; omega) | (exfalso; simp_all; done) | (congr 1; omega)

theorem sub_eq (k : Nat) (a b : Int) (ha : R64 a) (hb : R64 b) : fixed_Sub.f (k + 1) a b = some (sat (a - b)) := by
  unfold fixed_Sub.f sat wrap64
  simp only [fixed_Sub.j0, decide_eq_true_eq]; unfold wrap64
  repeat' split
  all_goals first | rfl | (exfalso; omega) | (exfalso; simp_all; done) | (congr 1; omega)

theorem mul_wrap_ne (a b : Int) (hb : R64 b) (ha : R64 a) (hb0 : b ≠ 0) (hne : ¬ (a = -1 ∧ b = -9223372036854775808)) (hne' : ¬ (b = -1 ∧ a = -9223372036854775808)) :
    (wrap64 (Int.tdiv (wrap64 (a * b)) b) == a) = decide (R64 (a * b)) := by
  by_cases h : R64 (a * b)
  · have hw : wrap64 (a * b) = a * b := by unfold wrap64; omega
    rw [hw, Int.mul_tdiv_cancel _ hb0]
    have hw : wrap64 a = a := by unfold wrap64; omega
    rw [hw]; simp [h]
  · simp only [h, decide_false]
    rw [beq_eq_false_iff_ne]
    intro he
    -- the quotient times b is within |b| of the wrapped product, which differs from a * b by a multiple of 2^64
    generalize hn : wrap64 (a * b) = n at he
    have hnR : R64 n := by rw [← hn]; unfold wrap64; omega
    have hcong : ∃ t : Int, n = a * b + 18446744073709551616 * t := by
      refine ⟨-((a * b + 9223372036854775808) / 18446744073709551616), ?_⟩
      rw [← hn]; unfold wrap64; omega
    obtain ⟨t, ht⟩ := hcong
    have ht0 : t ≠ 0 := by rintro rfl; apply h; rw [show a * b = n by omega]; exact hnR
    -- |tdiv n b| ≤ |n| ≤ 2^63
    have hq := Int.mul_tdiv_add_tmod n b
    have hr := Int.tmod_lt_of_pos
    have habs : (Int.tmod n b).natAbs < b.natAbs := by
      rw [Int.natAbs_tmod]; exact Nat.mod_lt _ (by omega)
    generalize Int.tmod n b = r at hq habs
    generalize hqq : Int.tdiv n b = q at hq he
    have hqR : q.natAbs ≤ n.natAbs := by rw [← hqq, Int.natAbs_tdiv]; exact Nat.div_le_self _ _
    -- wrap64 q = a with q within ±2^63: q = a, or q = 2^63 and a = -2^63
    have hqa : q = a ∨ (q = 9223372036854775808 ∧ a = -9223372036854775808) := by unfold wrap64 at he; omega
    rcases hqa with rfl | ⟨h1, h2⟩
    · rw [Int.mul_comm] at hq; omega
    · -- then |n| = 2^63, so n = -2^63, and b = -1
      have hn' : n = -9223372036854775808 := by omega
      subst h1 h2
      have : b = -1 := by omega
      exact hne' ⟨this, rfl⟩
theorem mul_eq (k : Nat) (a b : Int) (ha : R64 a) (hb : R64 b) : fixed_Mul.f (k + 2) a b = some (sat (a * b)) := by
  unfold fixed_Mul.f
  by_cases ha0 : a = 0
  · subst ha0; simp [fixed_Mul.j0, sat]
  · rw [if_neg ha0]
    by_cases hb0 : b = 0
    · subst hb0; simp [fixed_Mul.j0, sat]
    · have hbb : (b == 0) = false := by simp [hb0]
      rw [hbb]
      have hsg : ∀ v : Bool, fixed_Mul.j1 (k + 1) a b (wrap64 (a * b)) v = if v then some (wrap64 (a * b)) else if decide (a < 0) = decide (b < 0) then some 9223372036854775807 else some (-9223372036854775808) := by
        intro v; simp [fixed_Mul.j1]
      have key : fixed_Mul.j1 (k + 1) a b (wrap64 (a * b)) (decide (R64 (a * b))) = some (sat (a * b)) := by
        rw [hsg]
        by_cases hR : R64 (a * b)
        · rw [sat_of hR]; simp [hR]; unfold wrap64; omega
        · have hs : decide (a < 0) = decide (b < 0) ↔ 0 < a * b := by
            by_cases h1 : a < 0 <;> by_cases h2 : b < 0
            · simp [h1, h2]; exact Int.mul_pos_of_neg_of_neg h1 h2
            · have := Int.mul_neg_of_neg_of_pos h1 (show 0 < b by omega); simp [h1, h2]; omega
            · have := Int.mul_neg_of_pos_of_neg (show 0 < a by omega) h2; simp [h1, h2]; omega
            · have := Int.mul_pos (show 0 < a by omega) (show 0 < b by omega); simp [h1, h2]; omega
          simp only [hR, decide_false, Bool.false_eq_true, if_false, hs]
          unfold sat
          by_cases hp : 0 < a * b
          · rw [if_pos hp, if_pos (by omega)]
          · rw [if_neg hp, if_neg (by omega), if_pos (by omega)]
      have special : (a = -1 ∧ b = -9223372036854775808) ∨ (b = -1 ∧ a = -9223372036854775808) → fixed_Mul.j1 (k + 1) a b (wrap64 (a * b)) false = some (sat (a * b)) := by
        rintro (⟨rfl, rfl⟩ | ⟨rfl, rfl⟩) <;> simp [fixed_Mul.j1, sat]
      simp only [fixed_Mul.j0, Bool.false_eq_true, if_false, hb0]
      by_cases hA : a = -1 ∧ b = -9223372036854775808
      · rw [if_pos hA.1, if_pos hA.2]; exact special (Or.inl hA)
      · by_cases hB : b = -1 ∧ a = -9223372036854775808
        · rw [if_neg (by omega), if_pos hB.1, if_pos hB.2]; exact special (Or.inr hB)
        · rw [mul_wrap_ne a b hb ha hb0 hA hB]
          repeat' split
          all_goals first | exact key | (exfalso; omega)

theorem tdiv_range (a b : Int) (ha : R64 a) (hb : 1 ≤ b) : R64 (Int.tdiv a b) := by
  have hdm := Int.tdiv_eq_ediv (a := a) (b := b)
  have hs : b.sign = 1 := Int.sign_eq_one_of_pos (by omega)
  have hr := ediv_range a b (by omega) ha.1 ha.2
  rw [hs] at hdm
  by_cases ha0 : 0 ≤ a
  · simp only [ha0, true_or, if_true] at hdm; omega
  · have hneg : a / b < 0 := by rw [Int.ediv_lt_iff_lt_mul (by omega)]; omega
    split at hdm <;> omega
theorem down_eq (a b : Int) (ha : R64 a) (hb : R64 b) : fixed_Down.f a b = some (if b < 1 then 0 else a / b) := by
  unfold fixed_Down.f
  by_cases h : b < 1
  · simp [h]
  · have hd := downArith a b (by omega)
    have hr := ediv_range a b (by omega) ha.1 ha.2
    have hw : wrap64 (Int.tdiv a b) = Int.tdiv a b := by have := tdiv_range a b ha (by omega); unfold wrap64; omega
    rw [if_neg h, if_neg h, if_neg (by omega), hw, ← hd]
    split
    · congr 1; unfold wrap64; rename_i hlt; rw [if_pos hlt] at hd; omega
    · rfl
theorem up_eq (a b : Int) (ha : R64 a) (hb : R64 b) : fixed_Up.f a b = some (if b < 1 then 0 else -((-a) / b)) := by
  unfold fixed_Up.f
  by_cases h : b < 1
  · simp [h]
  · have hd := upArith a b (by omega)
    have hr : R64 (-((-a) / b)) := by
      have hlo : -9223372036854775807 ≤ (-a) / b := by
        rw [Int.le_ediv_iff_mul_le (by omega)]
        have := Int.mul_le_mul_of_nonneg_left (show (1:Int) ≤ b by omega) (show (0:Int) ≤ 9223372036854775807 by omega); omega
      have hhi : (-a) / b ≤ 9223372036854775808 := by
        have : (-a) / b < 9223372036854775809 := by
          rw [Int.ediv_lt_iff_lt_mul (by omega)]
          have := Int.mul_le_mul_of_nonneg_left (show (1:Int) ≤ b by omega) (show (0:Int) ≤ 9223372036854775808 by omega); omega
        omega
      omega
    have hw : wrap64 (Int.tdiv a b) = Int.tdiv a b := by have := tdiv_range a b ha (by omega); unfold wrap64; omega
    rw [if_neg h, if_neg h, if_neg (by omega), hw, ← hd]
    split
    · congr 1; unfold wrap64; rename_i hlt; rw [if_pos hlt] at hd; omega
    · rfl

theorem widen_eq (k : Nat) (l h b : Int) (hl : R64 l) (hh : R64 h) (hb : R64 b) : span_Widen.f (k + 1) l h b = some (if b < 0 then (l, h) else (sat (l - b), sat (h + b))) := by
  unfold span_Widen.f
  rw [sub_eq _ _ _ hl hb, add_eq _ _ _ hh hb]
  split <;> simp

theorem sadd_eq (k : Nat) (a b c d : Int) (ha : R64 a) (hb : R64 b) (hc : R64 c) (hd : R64 d) : span_Add.f (k + 1) a b c d = some (sat (a + c), sat (b + d)) := by
  unfold span_Add.f; rw [add_eq _ _ _ ha hc, add_eq _ _ _ hb hd]; rfl
theorem ssub_eq (k : Nat) (a b c d : Int) (ha : R64 a) (hb : R64 b) (hc : R64 c) (hd : R64 d) : span_Sub.f (k + 1) a b c d = some (sat (a - d), sat (b - c)) := by
  unfold span_Sub.f; rw [sub_eq _ _ _ ha hd, sub_eq _ _ _ hb hc]; rfl
theorem sscale_eq (k : Nat) (a b c : Int) (ha : R64 a) (hb : R64 b) (hc : R64 c) : span_Scale.f (k + 2) a b c = some (mn (sat (a * c)) (sat (b * c)), mx (sat (a * c)) (sat (b * c))) := by
  unfold span_Scale.f span_Of.f; rw [mul_eq _ _ _ ha hc, mul_eq _ _ _ hb hc]; rfl
theorem sshrink_eq (a b c : Int) (ha : R64 a) (hb : R64 b) (hc : R64 c) : span_Shrink.f a b c = some (if c < 1 then 0 else a / c, if c < 1 then 0 else -((-b) / c)) := by
  unfold span_Shrink.f; rw [down_eq _ _ ha hc, up_eq _ _ hb hc]; rfl
theorem same_refl (a b : Int) : dynamoref_SameSpan.f a b a b = some true := by
  unfold dynamoref_SameSpan.f; simp
theorem mnmx (a b : Int) (ha : R64 a) (hb : R64 b) : R64 (mn a b) ∧ R64 (mx a b) ∧ mn a b ≤ mx a b := by
  unfold mn mx; repeat' split
  all_goals omega

theorem tmod_in (a w : Int) (hw : 0 < w) : -w < Int.tmod a w ∧ Int.tmod a w < w := by
  rw [Int.tmod_eq_emod]
  have h1 := Int.emod_nonneg a (show w ≠ 0 by omega)
  have h2 := Int.emod_lt_of_pos a hw
  have hd : w ∣ a ↔ a % w = 0 := Int.dvd_iff_emod_eq_zero
  split
  · omega
  · rename_i hn
    rw [hd] at hn
    omega
theorem tmod_pos (a w : Int) (hw : 0 < w) (ha : 0 ≤ a) : 0 ≤ Int.tmod a w := Int.tmod_nonneg w ha
theorem inside_eq (l h x : Int) (hl : -1073741824 < l ∧ l < 1073741824) (hh : -1073741824 < h ∧ h < 1073741824) (hlh : l ≤ h) : ∃ r, dynamolaw2_inside.f l h x = some r ∧ l ≤ r ∧ r ≤ h := by
  unfold dynamolaw2_inside.f
  have w1 : wrap64 (h - l) = h - l := by unfold wrap64; omega
  rw [w1]
  have w2 : wrap64 (h - l + 1) = h - l + 1 := by unfold wrap64; omega
  rw [w2, if_neg (by omega)]
  have t1 := tmod_in x (h - l + 1) (by omega)
  generalize Int.tmod x (h - l + 1) = t at t1
  have w3 : wrap64 (t + (h - l + 1)) = t + (h - l + 1) := by unfold wrap64; omega
  rw [w3]
  have t2 := tmod_in (t + (h - l + 1)) (h - l + 1) (by omega)
  have t3 := tmod_pos (t + (h - l + 1)) (h - l + 1) (by omega) (by omega)
  generalize Int.tmod (t + (h - l + 1)) (h - l + 1) = s at t2 t3
  refine ⟨_, rfl, ?_⟩
  unfold wrap64; omega
theorem has_true (l h x : Int) (h1 : l ≤ x) (h2 : x ≤ h) : span_Has.f l h x = some true := by unfold span_Has.f; rw [if_pos h1]; simp [h2]
theorem in_true (l h m n : Int) (h1 : m ≤ l) (h2 : h ≤ n) : span_In.f l h m n = some true := by unfold span_In.f; rw [if_pos h1]; simp [h2]
theorem prod_small (x k : Int) (hx : -1073741824 < x ∧ x < 1073741824) (hk : -1073741824 < k ∧ k < 1073741824) : -1152921504606846976 ≤ x * k ∧ x * k ≤ 1152921504606846976 := by
  have h1 : (x * k).natAbs = x.natAbs * k.natAbs := Int.natAbs_mul x k
  have h2 : x.natAbs * k.natAbs ≤ 1073741824 * 1073741824 := Nat.mul_le_mul (by omega) (by omega)
  omega
theorem scale_has (l h x k : Int) (h1 : l ≤ x) (h2 : x ≤ h) : mn (l * k) (h * k) ≤ x * k ∧ x * k ≤ mx (l * k) (h * k) := by
  by_cases hk : 0 ≤ k
  · have a1 := Int.mul_le_mul_of_nonneg_right h1 hk
    have a2 := Int.mul_le_mul_of_nonneg_right h2 hk
    unfold mn mx; repeat' split
    all_goals omega
  · have a1 := Int.mul_le_mul_of_nonpos_right h1 (show k ≤ 0 by omega)
    have a2 := Int.mul_le_mul_of_nonpos_right h2 (show k ≤ 0 by omega)
    unfold mn mx; repeat' split
    all_goals omega
theorem tdiv_between (x m : Int) (hm : 1 ≤ m) : x / m ≤ Int.tdiv x m ∧ Int.tdiv x m ≤ -((-x) / m) := by
  have hd := downArith x m hm
  have hu := upArith x m hm
  have := tmod_in x m (by omega)
  split at hd <;> split at hu <;> omega
theorem holds_j1 (k : Nat) (x y kk pl ph : Int) (hl : -1073741824 < pl ∧ pl < 1073741824) (hh : -1073741824 < ph ∧ ph < 1073741824) (hk : -1073741824 < kk ∧ kk < 1073741824) (hx : pl ≤ x ∧ x ≤ ph) (hy : -1073741824 < y ∧ y < 1073741824) :
    dynamolaw2_SpanHolds.j1 (k + 2) x y kk true false pl ph = some true := by
  simp only [dynamolaw2_SpanHolds.j1, Bool.false_eq_true, if_false, if_true]
  have hm : 1 ≤ mx kk 1 ∧ mx kk 1 < 1073741824 := by unfold mx; split <;> omega
  rw [sshrink_eq _ _ _ (by omega) (by omega) (by omega), if_neg (by omega), if_neg (by omega)]
  simp only [Option.bind_some]
  rw [if_neg (by omega)]
  have tr := tdiv_range x (mx kk 1) (by omega) (by omega)
  have tb := tdiv_between x (mx kk 1) (by omega)
  have d1 := Int.ediv_le_ediv (c := mx kk 1) (by omega) hx.1
  have d2 := Int.ediv_le_ediv (c := mx kk 1) (by omega) (show -ph ≤ -x by omega)
  have hw : wrap64 (Int.tdiv x (mx kk 1)) = Int.tdiv x (mx kk 1) := by unfold wrap64; omega
  rw [hw, has_true _ _ _ (by omega) (by omega)]
  simp only [Option.bind_some, if_true]
  rw [widen_eq _ _ _ _ (by omega) (by omega) (by omega)]
  simp only [Option.bind_some]
  have hin : span_In.f pl ph (if kk < 0 then (pl, ph) else (sat (pl - kk), sat (ph + kk))).1 (if kk < 0 then (pl, ph) else (sat (pl - kk), sat (ph + kk))).2 = some true := by
    split
    · exact in_true _ _ _ _ (by omega) (by omega)
    · rw [sat_of (show R64 (pl - kk) by omega), sat_of (show R64 (ph + kk) by omega)]; exact in_true _ _ _ _ (by omega) (by omega)
  rw [hin]
  unfold dynamolaw2_at.f
  simp only [Option.bind_some, if_true]
  rw [sadd_eq _ _ _ _ _ (by omega) (by omega) (by omega) (by omega), sat_of (show R64 (pl + y) by omega), sat_of (show R64 (ph + y) by omega)]
  simp only [Option.bind_some]
  rw [ssub_eq _ _ _ _ _ (by omega) (by omega) (by omega) (by omega), sat_of (show R64 (pl + y - y) by omega), sat_of (show R64 (ph + y - y) by omega)]
  simp only [Option.bind_some, Int.add_sub_cancel, same_refl]
theorem holds_j0 (k : Nat) (x y kk pl ph ql qh : Int) (hl : -1073741824 < pl ∧ pl < 1073741824) (hh : -1073741824 < ph ∧ ph < 1073741824) (hk : -1073741824 < kk ∧ kk < 1073741824) (hx : pl ≤ x ∧ x ≤ ph) (hy : -1073741824 < y ∧ y < 1073741824) (hp : pl ≤ ph) (hq : ql ≤ qh) :
    dynamolaw2_SpanHolds.j0 (k + 3) x y kk true false pl ph ql qh = some true := by
  have hj := holds_j1 k x y kk pl ph hl hh hk hx hy
  simp only [dynamolaw2_SpanHolds.j0, Bool.false_eq_true, if_false]
  unfold span_Meet.f
  have hmm : (mx pl ql > mn ph qh) ↔ ¬ (pl ≤ qh ∧ ql ≤ ph) := by
    unfold mx mn; repeat' split
    all_goals omega
  have hm1 : pl ≤ mx pl ql ∧ ql ≤ mx pl ql ∧ mn ph qh ≤ ph ∧ mn ph qh ≤ qh := by
    unfold mx mn; repeat' split
    all_goals omega
  by_cases hm : mx pl ql > mn ph qh
  · rw [if_pos hm]
    simp only [Option.bind_some]
    by_cases h1 : pl ≤ qh
    · have h2 : ¬ ql ≤ ph := fun h => (hmm.1 hm) ⟨h1, h⟩
      simp only [h1, h2, if_true, decide_false, bne_self_eq_false, Bool.false_eq_true, if_false]
      exact hj
    · simp only [h1, if_false, bne_self_eq_false, Bool.false_eq_true]
      exact hj
  · rw [if_neg hm]
    have h1 : pl ≤ qh ∧ ql ≤ ph := by
      by_cases h : pl ≤ qh ∧ ql ≤ ph
      · exact h
      · exact absurd (hmm.2 h) hm
    simp only [Option.bind_some, h1.1, h1.2, if_true, decide_true, bne_self_eq_false, Bool.false_eq_true, if_false]
    rw [in_true _ _ _ _ (by omega) (by omega), in_true _ _ _ _ (by omega) (by omega)]
    simp only [Option.bind_some, if_true, Bool.not_true]
    exact hj
theorem SpanHolds : dynamolaw2_SpanHolds.Pure := by
  intro a b c d x y k h0 h1 h2 h3 h4 h5 h6
  refine ⟨3, ?_⟩
  unfold dynamolaw2_SpanHolds.f
  have hf : dynamolaw2_first.f = some true := by unfold dynamolaw2_first.f span_Of.f mn mx; simp
  rw [hf]
  unfold span_Of.f
  simp only [Option.bind_some, if_true]
  have ta := tmod_in a 1073741824 (by omega)
  have tb := tmod_in b 1073741824 (by omega)
  have tc := tmod_in c 1073741824 (by omega)
  have td := tmod_in d 1073741824 (by omega)
  have tk := tmod_in k 1073741824 (by omega)
  generalize Int.tmod a 1073741824 = a at *
  generalize Int.tmod b 1073741824 = b at *
  generalize Int.tmod c 1073741824 = c at *
  generalize Int.tmod d 1073741824 = d at *
  generalize Int.tmod k 1073741824 = k at *
  have hp : -1073741824 < mn a b ∧ mn a b < 1073741824 ∧ -1073741824 < mx a b ∧ mx a b < 1073741824 ∧ mn a b ≤ mx a b := by
    unfold mn mx; repeat' split
    all_goals omega
  have hq : -1073741824 < mn c d ∧ mn c d < 1073741824 ∧ -1073741824 < mx c d ∧ mx c d < 1073741824 ∧ mn c d ≤ mx c d := by
    unfold mn mx; repeat' split
    all_goals omega
  generalize mn a b = pl at *
  generalize mx a b = ph at *
  generalize mn c d = ql at *
  generalize mx c d = qh at *
  obtain ⟨u, hu, u1, u2⟩ := inside_eq pl ph x (by omega) (by omega) (by omega)
  obtain ⟨v, hv, v1, v2⟩ := inside_eq ql qh y (by omega) (by omega) (by omega)
  rw [hu, hv]
  simp only [Option.bind_some]
  rw [has_true _ _ _ u1 u2, has_true _ _ _ v1 v2]
  simp only [Option.bind_some, if_true]
  rw [sadd_eq _ _ _ _ _ (by omega) (by omega) (by omega) (by omega), sat_of (show R64 (pl + ql) by omega), sat_of (show R64 (ph + qh) by omega), ssub_eq _ _ _ _ _ (by omega) (by omega) (by omega) (by omega), sat_of (show R64 (pl - qh) by omega), sat_of (show R64 (ph - ql) by omega)]
  simp only [Option.bind_some]
  have w1 : wrap64 (u + v) = u + v := by unfold wrap64; omega
  have w2 : wrap64 (u - v) = u - v := by unfold wrap64; omega
  have pr1 := prod_small u k (by omega) tk
  have pr2 := prod_small pl k (by omega) tk
  have pr3 := prod_small ph k (by omega) tk
  have w3 : wrap64 (u * k) = u * k := by unfold wrap64; omega
  rw [w1, w2, w3, has_true _ _ _ (by omega) (by omega), has_true _ _ _ (by omega) (by omega)]
  simp only [Option.bind_some, if_true]
  rw [sscale_eq _ _ _ _ (by omega) (by omega) (by omega), sat_of (show R64 (pl * k) by omega), sat_of (show R64 (ph * k) by omega)]
  simp only [Option.bind_some]
  have sh := scale_has pl ph u k u1 u2
  rw [has_true _ _ _ sh.1 sh.2]
  unfold span_Hull.f
  simp only [Option.bind_some, if_true]
  have hm : mn pl ql ≤ pl ∧ mn pl ql ≤ ql ∧ ph ≤ mx ph qh ∧ qh ≤ mx ph qh := by
    unfold mn mx; repeat' split
    all_goals omega
  rw [has_true _ _ _ (by omega) (by omega)]
  simp only [Option.bind_some, if_true]
  rw [has_true _ _ _ (by omega) (by omega)]
  simp only [Option.bind_some, Bool.not_true]
  exact holds_j0 0 u v k pl ph ql qh (by omega) (by omega) tk ⟨u1, u2⟩ (by omega) (by omega) (by omega)

end Go.Proofs.Ytjecaenloilkcaa.Pure
