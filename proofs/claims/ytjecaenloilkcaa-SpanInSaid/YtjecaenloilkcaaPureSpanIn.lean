/- Proved: wider by something a span has what it had, cut it has what stands between, one in another one in a third is in the third, for every input. Conditions: none. -/
import Derived.Test.YtjecaenloilkcaaPSpanIng0
import Derived.Test.YtjecaenloilkcaaPSpanIng1
namespace Go.Proofs.Ytjecaenloilkcaa.Pure
open Go.RowKit Go.Proofs.Ytjecaenloilkcaa.PSpanIn Go.Proofs.YtjecaenloilkcaaW.PrintWords Go.Proofs.YtjecaenloilkcaaW.PrintLast Go.Proofs.YtjecaenloilkcaaW.PrintMore
set_option linter.unusedSimpArgs false
set_option linter.unusedVariables false
theorem i64_wf {a : Int} (h : (Lit.int .i64 a).wf = true) : -9223372036854775808 ≤ a ∧ a ≤ 9223372036854775807 := by
  simp [Lit.wf] at h
  simp [IntKind.min, IntKind.signed, IntKind.bits] at h
  omega
theorem downArith (a b : Int) (hb : 1 ≤ b) : (if Int.tmod a b < 0 then Int.tdiv a b - 1 else Int.tdiv a b) = a / b := by
  rw [Int.tmod_eq_emod, Int.tdiv_eq_ediv]
  have h1 := Int.emod_nonneg a (show b ≠ 0 by omega)
  have h2 := Int.emod_lt_of_pos a (show 0 < b by omega)
  have hs : b.sign = 1 := Int.sign_eq_one_of_pos (by omega)
  by_cases h : 0 ≤ a ∨ b ∣ a
  · simp only [h, if_true]; rw [if_neg (by omega)]; omega
  · simp only [h, if_false, hs]; rw [if_pos (by omega)]; omega
theorem upArith (a b : Int) (hb : 1 ≤ b) : (if Int.tmod a b > 0 then Int.tdiv a b + 1 else Int.tdiv a b) = -((-a) / b) := by
  rw [Int.tmod_eq_emod, Int.tdiv_eq_ediv]
  have h1 := Int.emod_nonneg a (show b ≠ 0 by omega)
  have h2 := Int.emod_lt_of_pos a (show 0 < b by omega)
  have hs : b.sign = 1 := Int.sign_eq_one_of_pos (by omega)
  have hd : b ∣ a ↔ a % b = 0 := Int.dvd_iff_emod_eq_zero
  have he := Int.mul_ediv_add_emod a b
  by_cases h0 : a % b = 0
  · have : (-a) / b = -(a / b) := by
      have := (Int.ediv_emod_unique (a := -a) (b := b) (r := 0) (q := -(a/b)) (by omega)).2 ⟨by rw [Int.mul_neg]; omega, by omega, by omega⟩
      exact this.1
    simp only [hd, h0]; simp; omega
  · have : (-a) / b = -(a / b) - 1 := by
      have := (Int.ediv_emod_unique (a := -a) (b := b) (r := b - a % b) (q := -(a/b) - 1) (by omega)).2 ⟨by rw [Int.mul_sub, Int.mul_neg]; omega, by omega, by omega⟩
      exact this.1
    rw [this]
    by_cases ha : 0 ≤ a
    · simp [ha]; rw [if_pos (by omega)]; omega
    · have hno : ¬ (0 ≤ a ∨ b ∣ a) := by rw [hd]; omega
      simp only [hno, if_false, hs]; rw [if_neg (by omega)]; omega
theorem ediv_range (a b : Int) (hb : 1 ≤ b) (h1 : -9223372036854775808 ≤ a) (h2 : a ≤ 9223372036854775807) : -9223372036854775808 ≤ a / b ∧ a / b ≤ 9223372036854775807 := by
  constructor
  · rw [Int.le_ediv_iff_mul_le (by omega)]
    have := Int.mul_le_mul_of_nonneg_left hb (show (0:Int) ≤ 9223372036854775808 by omega); omega
  · have : a / b < 9223372036854775808 := by
      rw [Int.ediv_lt_iff_lt_mul (by omega)]
      have := Int.mul_le_mul_of_nonneg_left hb (show (0:Int) ≤ 9223372036854775808 by omega); omega
    omega

def sat (x : Int) : Int := if 9223372036854775807 < x then 9223372036854775807 else if x < -9223372036854775808 then -9223372036854775808 else x
abbrev R64 (x : Int) : Prop := -9223372036854775808 ≤ x ∧ x ≤ 9223372036854775807
theorem sat_R (x : Int) : R64 (sat x) := by unfold sat; split; omega; split <;> omega
theorem sat_of {x : Int} (h : R64 x) : sat x = x := by unfold sat; split; omega; split <;> omega

theorem add_eq (k : Nat) (a b : Int) (ha : R64 a) (hb : R64 b) : fixed_Add.f (k + 1) a b = some (sat (a + b)) := by
  unfold fixed_Add.f sat wrap64
  simp only [fixed_Add.j0, decide_eq_true_eq]; unfold wrap64
  repeat' split
  all_goals first | rfl | (exfalso; omega) | (exfalso; simp_all; done) | (congr 1; omega)

theorem sub_eq (k : Nat) (a b : Int) (ha : R64 a) (hb : R64 b) : fixed_Sub.f (k + 1) a b = some (sat (a - b)) := by
  unfold fixed_Sub.f sat wrap64
  simp only [fixed_Sub.j0, decide_eq_true_eq]; unfold wrap64
  repeat' split
  all_goals first | rfl | (exfalso; omega) | (exfalso; simp_all; done) | (congr 1; omega)

theorem widen_eq (k : Nat) (l h b : Int) (hl : R64 l) (hh : R64 h) (hb : R64 b) : span_Widen.f (k + 1) l h b = some (if b < 0 then (l, h) else (sat (l - b), sat (h + b))) := by
  unfold span_Widen.f
  rw [sub_eq _ _ _ hl hb, add_eq _ _ _ hh hb]
  split <;> simp

theorem clamp_spec (x lo hi : Int) : ∃ y, fixed_Clamp.f x lo hi = some y ∧ (lo ≤ hi → lo ≤ y ∧ y ≤ hi ∧ (lo ≤ x → x ≤ hi → y = x) ∧ (x < lo → y = lo) ∧ (hi < x → y = hi)) ∧ (hi < lo → y = lo) := by
  refine ⟨_, rfl, ?_⟩
  unfold mx mn
  repeat' split
  all_goals (refine ⟨fun h => ⟨?_, ?_, fun _ _ => ?_, fun _ => ?_, fun _ => ?_⟩, fun h => ?_⟩ <;> omega)

theorem mnmx (a b : Int) (ha : R64 a) (hb : R64 b) : R64 (mn a b) ∧ R64 (mx a b) ∧ mn a b ≤ mx a b := by
  unfold mn mx; repeat' split
  all_goals omega

theorem in_j1_0 (k : Nat) (l h b lo hi x : Int) (hl : R64 l) (hh : R64 h) (hb : R64 b) (hb0 : 0 ≤ b) (hlh : l ≤ h) (hlo : lo ≤ hi) (hx : lo ≤ x ∧ x ≤ hi) : g0.dynamolaw2_SpanIn.j1 (k + 2) b lo hi x true l h = some true := by
  simp only [g0.dynamolaw2_SpanIn.j1]
  rw [widen_eq _ _ _ _ hl hh hb, if_neg (by omega)]
  simp only [Option.bind_some]
  have s1 := sat_R (l - b)
  have s2 := sat_R (h + b)
  have s3 : sat (l - b) ≤ l := by unfold sat; repeat' split
                                  all_goals omega
  have s4 : h ≤ sat (h + b) := by unfold sat; repeat' split
                                  all_goals omega
  generalize sat (l - b) = wl at *
  generalize sat (h + b) = wh at *
  rw [widen_eq _ _ _ _ s1 s2 hb, if_neg (by omega), widen_eq _ _ _ _ hl hh (by omega), if_pos (by omega)]
  simp only [Option.bind_some]
  have t3 : sat (wl - b) ≤ wl := by unfold sat; repeat' split
                                    all_goals omega
  have t4 : wh ≤ sat (wh + b) := by unfold sat; repeat' split
                                    all_goals omega
  generalize sat (wl - b) = vl at *
  generalize sat (wh + b) = vh at *
  obtain ⟨c, hc, c1, _⟩ := clamp_spec l lo hi
  obtain ⟨d, hd, d1, _⟩ := clamp_spec h lo hi
  obtain ⟨c2, c3, c4, c5, c6⟩ := c1 hlo
  obtain ⟨d2, d3, d4, d5, d6⟩ := d1 hlo
  unfold span_Clamp.f span_In.f dynamoref_SameSpan.f span_Has.f
  rw [hc, hd]
  simp only [Option.bind_some, if_true]
  rw [if_pos s3, if_pos t3, if_pos (by omega)]
  simp only [Option.bind_some, decide_eq_true_eq]
  rw [if_pos s4, if_pos t4, if_pos (by omega)]
  simp only [Option.bind_some, beq_self_eq_true, if_true]
  rw [if_pos (by omega), if_pos c2, if_pos d3]
  rw [if_pos hx.1, if_pos hx.2]
  by_cases x3 : l ≤ x
  · rw [if_pos x3]
    simp only [Option.bind_some, decide_eq_true_eq]
    by_cases x4 : x ≤ h
    · rw [if_pos x4, if_pos (by omega)]; simp; omega
    · rw [if_neg x4]
  · rw [if_neg x3]; simp
theorem in_j1_1 (k : Nat) (l h b lo hi x : Int) (hl : R64 l) (hh : R64 h) (hb : R64 b) (hb0 : 0 ≤ b) (hlh : l ≤ h) (hlo : lo ≤ hi) (hx : ¬ (lo ≤ x ∧ x ≤ hi)) : g1.dynamolaw2_SpanIn.j1 (k + 2) b lo hi x true l h = some true := by
  simp only [g1.dynamolaw2_SpanIn.j1]
  rw [widen_eq _ _ _ _ hl hh hb, if_neg (by omega)]
  simp only [Option.bind_some]
  have s1 := sat_R (l - b)
  have s2 := sat_R (h + b)
  have s3 : sat (l - b) ≤ l := by unfold sat; repeat' split
                                  all_goals omega
  have s4 : h ≤ sat (h + b) := by unfold sat; repeat' split
                                  all_goals omega
  generalize sat (l - b) = wl at *
  generalize sat (h + b) = wh at *
  rw [widen_eq _ _ _ _ s1 s2 hb, if_neg (by omega), widen_eq _ _ _ _ hl hh (by omega), if_pos (by omega)]
  simp only [Option.bind_some]
  have t3 : sat (wl - b) ≤ wl := by unfold sat; repeat' split
                                    all_goals omega
  have t4 : wh ≤ sat (wh + b) := by unfold sat; repeat' split
                                    all_goals omega
  generalize sat (wl - b) = vl at *
  generalize sat (wh + b) = vh at *
  obtain ⟨c, hc, c1, _⟩ := clamp_spec l lo hi
  obtain ⟨d, hd, d1, _⟩ := clamp_spec h lo hi
  obtain ⟨c2, c3, c4, c5, c6⟩ := c1 hlo
  obtain ⟨d2, d3, d4, d5, d6⟩ := d1 hlo
  unfold span_Clamp.f span_In.f dynamoref_SameSpan.f span_Has.f
  rw [hc, hd]
  simp only [Option.bind_some, if_true]
  rw [if_pos s3, if_pos t3, if_pos (by omega)]
  simp only [Option.bind_some, decide_eq_true_eq]
  rw [if_pos s4, if_pos t4, if_pos (by omega)]
  simp only [Option.bind_some, beq_self_eq_true, if_true]
  rw [if_pos (by omega), if_pos c2, if_pos d3]
  by_cases x1 : x ≥ lo
  · rw [if_pos x1, if_neg (fun h => hx ⟨x1, h⟩)]
  · rw [if_neg x1]
theorem in_j0 (k : Nat) (l h b lo hi x : Int) (hl : R64 l) (hh : R64 h) (hb : R64 b) (hb0 : 0 ≤ b) (hlh : l ≤ h) :
    g0.dynamolaw2_SpanIn.j0 (k + 3) b lo hi x true l h = some true ∨ g1.dynamolaw2_SpanIn.j0 (k + 3) b lo hi x true l h = some true := by
  simp only [g0.dynamolaw2_SpanIn.j0, g1.dynamolaw2_SpanIn.j0]
  split
  · by_cases hx : hi ≤ x ∧ x ≤ lo
    · exact Or.inl (in_j1_0 k l h b hi lo x hl hh hb hb0 hlh (by omega) hx)
    · exact Or.inr (in_j1_1 k l h b hi lo x hl hh hb hb0 hlh (by omega) hx)
  · by_cases hx : lo ≤ x ∧ x ≤ hi
    · exact Or.inl (in_j1_0 k l h b lo hi x hl hh hb hb0 hlh (by omega) hx)
    · exact Or.inr (in_j1_1 k l h b lo hi x hl hh hb hb0 hlh (by omega) hx)
theorem SpanIn (a0 : Int) (a1 : Int) (a2 : Int) (a3 : Int) (a4 : Int) (a5 : Int) (h0 : (Lit.int .i64 a0).wf = true) (h1 : (Lit.int .i64 a1).wf = true) (h2 : (Lit.int .i64 a2).wf = true) (_ : (Lit.int .i64 a3).wf = true) (_ : (Lit.int .i64 a4).wf = true) (_ : (Lit.int .i64 a5).wf = true) :
    (∃ k, g0.dynamolaw2_SpanIn.f k a0 a1 a2 a3 a4 a5 = some true) ∨ (∃ k, g1.dynamolaw2_SpanIn.f k a0 a1 a2 a3 a4 a5 = some true) := by
  have h0 := i64_wf h0
  have h1 := i64_wf h1
  have h2 := i64_wf h2
  have hf : dynamolaw2_first.f = some true := by unfold dynamolaw2_first.f span_Of.f mn mx; simp
  have hm := mnmx a0 a1 h0 h1
  by_cases hb : a2 < 0
  · have hj := in_j0 0 (mn a0 a1) (mx a0 a1) (wrap64 (-(wrap64 (a2 + 1)))) a3 a4 a5 hm.1 hm.2.1 (by unfold wrap64; omega) (by unfold wrap64; omega) hm.2.2
    rcases hj with hj | hj
    · refine Or.inl ⟨3, ?_⟩
      unfold g0.dynamolaw2_SpanIn.f; rw [hf]; unfold span_Of.f; simp only [Option.bind_some, if_true]; rw [if_pos hb]; exact hj
    · refine Or.inr ⟨3, ?_⟩
      unfold g1.dynamolaw2_SpanIn.f; rw [hf]; unfold span_Of.f; simp only [Option.bind_some, if_true]; rw [if_pos hb]; exact hj
  · have hj := in_j0 0 (mn a0 a1) (mx a0 a1) a2 a3 a4 a5 hm.1 hm.2.1 h2 (by omega) hm.2.2
    rcases hj with hj | hj
    · refine Or.inl ⟨3, ?_⟩
      unfold g0.dynamolaw2_SpanIn.f; rw [hf]; unfold span_Of.f; simp only [Option.bind_some, if_true]; rw [if_neg hb]; exact hj
    · refine Or.inr ⟨3, ?_⟩
      unfold g1.dynamolaw2_SpanIn.f; rw [hf]; unfold span_Of.f; simp only [Option.bind_some, if_true]; rw [if_neg hb]; exact hj

end Go.Proofs.Ytjecaenloilkcaa.Pure
