/- Proved: what meets stands in both and nothing that stands in both is left out, the hull has all of both, order does not matter, for every input. Conditions: none. -/
import Derived.Test.YtjecaenloilkcaaPSpanMeetsg0
import Derived.Test.YtjecaenloilkcaaPSpanMeetsg1
import Derived.Test.YtjecaenloilkcaaPSpanMeetsg2
namespace Go.Proofs.Ytjecaenloilkcaa.Pure
open Go.RowKit Go.Proofs.Ytjecaenloilkcaa.PSpanMeets Go.Proofs.YtjecaenloilkcaaW.PrintWords Go.Proofs.YtjecaenloilkcaaW.PrintLast Go.Proofs.YtjecaenloilkcaaW.PrintMore
set_option linter.unusedSimpArgs false
set_option linter.unusedVariables false
theorem i64_wf {a : Int} (h : (Lit.int .i64 a).wf = true) : -9223372036854775808 ≤ a ∧ a ≤ 9223372036854775807 := by
  simp [Lit.wf] at h
  simp [IntKind.min, IntKind.signed, IntKind.bits] at h
  omega
theorem downArith (a b : Int) (hb : 1 ≤ b) : (if Int.tmod a b < 0 then Int.tdiv a b - 1 else Int.tdiv a b) = a / b := by
  rw [Int.tmod_eq_emod, Int.tdiv_eq_ediv]
  have h1 := Int.emod_nonneg a (show b ≠ 0 by omega)
  have h2 := Int.emod_lt_of_pos a (show 0 < b by omega)
  have hs : b.sign = 1 := Int.sign_eq_one_of_pos (by omega)
  by_cases h : 0 ≤ a ∨ b ∣ a
  · simp only [h, if_true]; rw [if_neg (by omega)]; omega
  · simp only [h, if_false, hs]; rw [if_pos (by omega)]; omega
theorem upArith (a b : Int) (hb : 1 ≤ b) : (if Int.tmod a b > 0 then Int.tdiv a b + 1 else Int.tdiv a b) = -((-a) / b) := by
  rw [Int.tmod_eq_emod, Int.tdiv_eq_ediv]
  have h1 := Int.emod_nonneg a (show b ≠ 0 by omega)
  have h2 := Int.emod_lt_of_pos a (show 0 < b by omega)
  have hs : b.sign = 1 := Int.sign_eq_one_of_pos (by omega)
  have hd : b ∣ a ↔ a % b = 0 := Int.dvd_iff_emod_eq_zero
  have he := Int.mul_ediv_add_emod a b
  by_cases h0 : a % b = 0
  · have : (-a) / b = -(a / b) := by
      have := (Int.ediv_emod_unique (a := -a) (b := b) (r := 0) (q := -(a/b)) (by omega)).2 ⟨by rw [Int.mul_neg]; omega, by omega, by omega⟩
      exact this.1
    simp only [hd, h0]; simp; omega
  · have : (-a) / b = -(a / b) - 1 := by
      have := (Int.ediv_emod_unique (a := -a) (b := b) (r := b - a % b) (q := -(a/b) - 1) (by omega)).2 ⟨by rw [Int.mul_sub, Int.mul_neg]; omega, by omega, by omega⟩
      exact this.1
    rw [this]
    by_cases ha : 0 ≤ a
    · simp [ha]; rw [if_pos (by omega)]; omega
    · have hno : ¬ (0 ≤ a ∨ b ∣ a) := by rw [hd]; omega
      simp only [hno, if_false, hs]; rw [if_neg (by omega)]; omega
theorem ediv_range (a b : Int) (hb : 1 ≤ b) (h1 : -9223372036854775808 ≤ a) (h2 : a ≤ 9223372036854775807) : -9223372036854775808 ≤ a / b ∧ a / b ≤ 9223372036854775807 := by
  constructor
  · rw [Int.le_ediv_iff_mul_le (by omega)]
    have := Int.mul_le_mul_of_nonneg_left hb (show (0:Int) ≤ 9223372036854775808 by omega); omega
  · have : a / b < 9223372036854775808 := by
      rw [Int.ediv_lt_iff_lt_mul (by omega)]
      have := Int.mul_le_mul_of_nonneg_left hb (show (0:Int) ≤ 9223372036854775808 by omega); omega
    omega

def sat (x : Int) : Int := if 9223372036854775807 < x then 9223372036854775807 else if x < -9223372036854775808 then -9223372036854775808 else x
abbrev R64 (x : Int) : Prop := -9223372036854775808 ≤ x ∧ x ≤ 9223372036854775807
theorem sat_R (x : Int) : R64 (sat x) := by unfold sat; split; omega; split <;> omega
theorem sat_of {x : Int} (h : R64 x) : sat x = x := by unfold sat; split; omega; split <;> omega

theorem same_refl (a b : Int) : dynamoref_SameSpan.f a b a b = some true := by
  unfold dynamoref_SameSpan.f; simp

theorem mnmx (a b : Int) (ha : R64 a) (hb : R64 b) : R64 (mn a b) ∧ R64 (mx a b) ∧ mn a b ≤ mx a b := by
  unfold mn mx; repeat' split
  all_goals omega

theorem has_dec (l h x : Int) : span_Has.f l h x = some (decide (l ≤ x ∧ x ≤ h)) := by
  unfold span_Has.f; split
  · rename_i h1; simp [h1]
  · rename_i h1; simp [h1]
theorem in_true (l h m n : Int) (h1 : m ≤ l) (h2 : h ≤ n) : span_In.f l h m n = some true := by unfold span_In.f; rw [if_pos h1]; simp [h2]
theorem hull_in (pl ph ql qh : Int) : mn pl ql ≤ pl ∧ mn pl ql ≤ ql ∧ ph ≤ mx ph qh ∧ qh ≤ mx ph qh := by
  unfold mn mx; repeat' split
  all_goals omega
theorem hull_end (pl ph ql qh : Int) : (mn pl ql = pl ∨ mn pl ql = ql) ∧ (mx ph qh = ph ∨ mx ph qh = qh) := by
  unfold mn mx; repeat' split
  all_goals omega
theorem hull_comm (pl ph ql qh : Int) : mn pl ql = mn ql pl := by
  unfold mn; repeat' split
  all_goals omega
theorem hull_comm2 (pl ph ql qh : Int) : mx ph qh = mx qh ph := by
  unfold mx; repeat' split
  all_goals omega
theorem meets_t0 (k : Nat) (x pl ph ql qh ml mh : Int) (b : Bool) (hb : b = decide (ml ≤ x ∧ x ≤ mh)) (hc : mn pl ql = pl ∨ mx ph qh = ph) :
    g0.dynamolaw2_SpanMeets.j0 (k + 1) x true true true b pl ph ql qh ml mh ml mh = some true := by
  have hm := hull_in pl ph ql qh
  have he := hull_end pl ph ql qh
  simp only [g0.dynamolaw2_SpanMeets.j0, span_Hull.f, Option.bind_some, if_true, beq_self_eq_true, same_refl]
  rw [has_dec, ← hb]
  simp only [Option.bind_some, beq_self_eq_true, if_true]
  rw [in_true _ _ _ _ (by omega) (by omega), in_true _ _ _ _ (by omega) (by omega)]
  simp only [Option.bind_some, if_true]
  rw [hull_comm ql qh pl ph, hull_comm2 ql qh pl ph, same_refl]
  simp only [Option.bind_some, if_true]
  by_cases h1 : mn pl ql = pl
  · rw [if_pos h1]
    by_cases h2 : mx ph qh = ph
    · rw [if_pos h2]
    · rw [if_neg h2, if_pos (he.2.resolve_left h2)]
  · have h2 := hc.resolve_left h1
    rw [if_neg h1, if_pos (he.1.resolve_left h1), if_pos h2]
theorem meets_t1 (k : Nat) (x pl ph ql qh ml mh : Int) (b : Bool) (hb : b = decide (ml ≤ x ∧ x ≤ mh)) (hc : ¬ mn pl ql = pl ∧ ¬ mx ph qh = ph) :
    g1.dynamolaw2_SpanMeets.j0 (k + 1) x true true true b pl ph ql qh ml mh ml mh = some true := by
  have hm := hull_in pl ph ql qh
  have he := hull_end pl ph ql qh
  simp only [g1.dynamolaw2_SpanMeets.j0, span_Hull.f, Option.bind_some, if_true, beq_self_eq_true, same_refl]
  rw [has_dec, ← hb]
  simp only [Option.bind_some, beq_self_eq_true, if_true]
  rw [in_true _ _ _ _ (by omega) (by omega), in_true _ _ _ _ (by omega) (by omega)]
  simp only [Option.bind_some, if_true]
  rw [hull_comm ql qh pl ph, hull_comm2 ql qh pl ph, same_refl]
  simp only [Option.bind_some, if_true]
  rw [if_neg hc.1, if_pos (he.1.resolve_left hc.1), if_neg hc.2, if_pos (he.2.resolve_left hc.2)]
theorem meets_f1 (k : Nat) (x pl ph ql qh : Int) (hc : mn pl ql = pl) :
    g1.dynamolaw2_SpanMeets.j0 (k + 1) x true false false false pl ph ql qh 0 0 0 0 = some true := by
  have hm := hull_in pl ph ql qh
  have he := hull_end pl ph ql qh
  simp only [g1.dynamolaw2_SpanMeets.j0, span_Hull.f, Option.bind_some, if_true, beq_self_eq_true, same_refl, Bool.false_eq_true, if_false]
  rw [in_true _ _ _ _ (by omega) (by omega), in_true _ _ _ _ (by omega) (by omega)]
  simp only [Option.bind_some, if_true]
  rw [hull_comm ql qh pl ph, hull_comm2 ql qh pl ph, same_refl]
  simp only [Option.bind_some, if_true]
  rw [if_pos hc]
  by_cases h2 : mx ph qh = ph
  · rw [if_pos h2]
  · rw [if_neg h2, if_pos (he.2.resolve_left h2)]
theorem meets_f2 (k : Nat) (x pl ph ql qh : Int) (hc : ¬ mn pl ql = pl) :
    g2.dynamolaw2_SpanMeets.j0 (k + 1) x true false false false pl ph ql qh 0 0 0 0 = some true := by
  have hm := hull_in pl ph ql qh
  have he := hull_end pl ph ql qh
  simp only [g2.dynamolaw2_SpanMeets.j0, span_Hull.f, Option.bind_some, if_true, beq_self_eq_true, same_refl, Bool.false_eq_true, if_false]
  rw [in_true _ _ _ _ (by omega) (by omega), in_true _ _ _ _ (by omega) (by omega)]
  simp only [Option.bind_some, if_true]
  rw [hull_comm ql qh pl ph, hull_comm2 ql qh pl ph, same_refl]
  simp only [Option.bind_some, if_true]
  rw [if_neg hc, if_pos (he.1.resolve_left hc)]
  by_cases h2 : mx ph qh = ph
  · rw [if_pos h2]
  · rw [if_neg h2, if_pos (he.2.resolve_left h2)]
theorem meets_f0_eq (a b c d x : Int) (pl ph ql qh : Int) (hp : span_Of.f a b = some (pl, ph)) (hq : span_Of.f c d = some (ql, qh)) (hf : dynamolaw2_first.f = some true) (ml mh : Int) (is : Bool) (hm : span_Meet.f pl ph ql qh = some (ml, mh, is)) (hn : span_Meet.f ql qh pl ph = some (ml, mh, is))
    (hj : g0.dynamolaw2_SpanMeets.j0 1 x true is is (decide (pl ≤ x ∧ x ≤ ph) && decide (ql ≤ x ∧ x ≤ qh)) pl ph ql qh ml mh ml mh = some true) : g0.dynamolaw2_SpanMeets.f 1 a b c d x = some true := by
  unfold g0.dynamolaw2_SpanMeets.f
  rw [hf, hp, hq]
  simp only [Option.bind_some, if_true]
  rw [hm, hn, has_dec, has_dec]
  simp only [Option.bind_some]
  by_cases h1 : pl ≤ x ∧ x ≤ ph
  · simp only [h1, decide_true, if_true, Option.bind_some, Bool.true_and, and_self] at hj ⊢; exact hj
  · simp only [h1, decide_false, if_false, Bool.false_and, Bool.false_eq_true] at hj ⊢; exact hj
theorem meets_f1_eq (a b c d x : Int) (pl ph ql qh : Int) (hp : span_Of.f a b = some (pl, ph)) (hq : span_Of.f c d = some (ql, qh)) (hf : dynamolaw2_first.f = some true) (ml mh : Int) (is : Bool) (hm : span_Meet.f pl ph ql qh = some (ml, mh, is)) (hn : span_Meet.f ql qh pl ph = some (ml, mh, is))
    (hj : g1.dynamolaw2_SpanMeets.j0 1 x true is is (decide (pl ≤ x ∧ x ≤ ph) && decide (ql ≤ x ∧ x ≤ qh)) pl ph ql qh ml mh ml mh = some true) : g1.dynamolaw2_SpanMeets.f 1 a b c d x = some true := by
  unfold g1.dynamolaw2_SpanMeets.f
  rw [hf, hp, hq]
  simp only [Option.bind_some, if_true]
  rw [hm, hn, has_dec, has_dec]
  simp only [Option.bind_some]
  by_cases h1 : pl ≤ x ∧ x ≤ ph
  · simp only [h1, decide_true, if_true, Option.bind_some, Bool.true_and, and_self] at hj ⊢; exact hj
  · simp only [h1, decide_false, if_false, Bool.false_and, Bool.false_eq_true] at hj ⊢; exact hj
theorem meets_f2_eq (a b c d x : Int) (pl ph ql qh : Int) (hp : span_Of.f a b = some (pl, ph)) (hq : span_Of.f c d = some (ql, qh)) (hf : dynamolaw2_first.f = some true) (ml mh : Int) (is : Bool) (hm : span_Meet.f pl ph ql qh = some (ml, mh, is)) (hn : span_Meet.f ql qh pl ph = some (ml, mh, is))
    (hj : g2.dynamolaw2_SpanMeets.j0 1 x true is is (decide (pl ≤ x ∧ x ≤ ph) && decide (ql ≤ x ∧ x ≤ qh)) pl ph ql qh ml mh ml mh = some true) : g2.dynamolaw2_SpanMeets.f 1 a b c d x = some true := by
  unfold g2.dynamolaw2_SpanMeets.f
  rw [hf, hp, hq]
  simp only [Option.bind_some, if_true]
  rw [hm, hn, has_dec, has_dec]
  simp only [Option.bind_some]
  by_cases h1 : pl ≤ x ∧ x ≤ ph
  · simp only [h1, decide_true, if_true, Option.bind_some, Bool.true_and, and_self] at hj ⊢; exact hj
  · simp only [h1, decide_false, if_false, Bool.false_and, Bool.false_eq_true] at hj ⊢; exact hj
theorem SpanMeets (a0 : Int) (a1 : Int) (a2 : Int) (a3 : Int) (a4 : Int) (h0 : (Lit.int .i64 a0).wf = true) (h1 : (Lit.int .i64 a1).wf = true) (h2 : (Lit.int .i64 a2).wf = true) (h3 : (Lit.int .i64 a3).wf = true) (h4 : (Lit.int .i64 a4).wf = true) :
    (∃ k, g0.dynamolaw2_SpanMeets.f k a0 a1 a2 a3 a4 = some true) ∨ (∃ k, g1.dynamolaw2_SpanMeets.f k a0 a1 a2 a3 a4 = some true) ∨ (∃ k, g2.dynamolaw2_SpanMeets.f k a0 a1 a2 a3 a4 = some true) := by
  have h0 := i64_wf h0
  have h1 := i64_wf h1
  have h2 := i64_wf h2
  have h3 := i64_wf h3
  have hf : dynamolaw2_first.f = some true := by unfold dynamolaw2_first.f span_Of.f mn mx; simp
  obtain ⟨p1, p2, p3⟩ := mnmx a0 a1 h0 h1
  obtain ⟨q1, q2, q3⟩ := mnmx a2 a3 h2 h3
  have hp : span_Of.f a0 a1 = some (mn a0 a1, mx a0 a1) := rfl
  have hq : span_Of.f a2 a3 = some (mn a2 a3, mx a2 a3) := rfl
  generalize mn a0 a1 = pl at *
  generalize mx a0 a1 = ph at *
  generalize mn a2 a3 = ql at *
  generalize mx a2 a3 = qh at *
  have e1 : mx ql pl = mx pl ql := hull_comm2 0 ql 0 pl
  have e2 : mn qh ph = mn ph qh := hull_comm qh 0 ph 0
  by_cases hi : mx pl ql > mn ph qh
  · have hm : span_Meet.f pl ph ql qh = some (0, 0, false) := by unfold span_Meet.f; rw [if_pos hi]
    have hn : span_Meet.f ql qh pl ph = some (0, 0, false) := by unfold span_Meet.f; rw [e1, e2, if_pos hi]
    have hb : (decide (pl ≤ a4 ∧ a4 ≤ ph) && decide (ql ≤ a4 ∧ a4 ≤ qh)) = false := by
      rw [Bool.and_eq_false_iff, decide_eq_false_iff_not, decide_eq_false_iff_not]
      unfold mx mn at hi
      split at hi <;> split at hi <;> omega
    by_cases hc : mn pl ql = pl
    · exact Or.inr (Or.inl ⟨1, meets_f1_eq _ _ _ _ _ pl ph ql qh hp hq hf 0 0 false hm hn (by rw [hb]; exact meets_f1 0 a4 pl ph ql qh hc)⟩)
    · exact Or.inr (Or.inr ⟨1, meets_f2_eq _ _ _ _ _ pl ph ql qh hp hq hf 0 0 false hm hn (by rw [hb]; exact meets_f2 0 a4 pl ph ql qh hc)⟩)
  · have hm : span_Meet.f pl ph ql qh = some (mx pl ql, mn ph qh, true) := by unfold span_Meet.f; rw [if_neg hi]
    have hn : span_Meet.f ql qh pl ph = some (mx pl ql, mn ph qh, true) := by unfold span_Meet.f; rw [e1, e2, if_neg hi]
    have hb : (decide (pl ≤ a4 ∧ a4 ≤ ph) && decide (ql ≤ a4 ∧ a4 ≤ qh)) = decide (mx pl ql ≤ a4 ∧ a4 ≤ mn ph qh) := by
      rw [← Bool.decide_and, decide_eq_decide]
      unfold mx mn; repeat' split
      all_goals omega
    by_cases hc : mn pl ql = pl ∨ mx ph qh = ph
    · exact Or.inl ⟨1, meets_f0_eq _ _ _ _ _ pl ph ql qh hp hq hf _ _ true hm hn (meets_t0 0 a4 pl ph ql qh _ _ _ hb hc)⟩
    · exact Or.inr (Or.inl ⟨1, meets_f1_eq _ _ _ _ _ pl ph ql qh hp hq hf _ _ true hm hn (meets_t1 0 a4 pl ph ql qh _ _ _ hb ⟨fun h => hc (Or.inl h), fun h => hc (Or.inr h)⟩)⟩)

end Go.Proofs.Ytjecaenloilkcaa.Pure
