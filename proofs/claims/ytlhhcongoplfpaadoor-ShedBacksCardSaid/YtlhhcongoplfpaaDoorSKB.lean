/- What functions of this program do, each as a contract that its callers use, and what follows of it in plain numbers.
   By an AI agent. -/
import Derived.Test.YtlhhcongoplfpaaDoorDLO
import Derived.Test.YtlhhcongoplfpaaDoorSK6
namespace Go.Proofs.YtlhhcongoplfpaaDoor
open Go Go.Proofs.YtlhhcongoplfpaaDoorAB
set_option linter.unusedSimpArgs false
set_option linter.unusedVariables false

theorem allX : ∀ n : Fin 7, IntKind.i64.wrap (IntKind.i64.wrap (1 * 2 ^ min (IntKind.u64.wrap ((n.val : Nat) : Int)).toNat IntKind.i64.bits) - 1) = ((2 ^ n.val - 1 : Nat) : Int) := by decide +kernel
theorem u64nn : ∀ n : Fin 7, 0 ≤ IntKind.u64.wrap ((n.val : Nat) : Int) := by decide +kernel
theorem all_lt {n : Nat} (h : n ≤ 6) : 2 ^ n - 1 < 128 := by
  have : 2 ^ n ≤ 2 ^ 6 := Nat.pow_le_pow_right (by decide) h
  have h64 : (2 : Nat) ^ 6 = 64 := rfl
  omega
theorem tB_all {n i : Nat} (hn : n ≤ 6) (hi : i < n) : tB ((2 ^ n - 1 : Nat) : Int) i = true := by
  rw [tB_nat (all_lt hn), Nat.testBit_two_pow_sub_one, decide_eq_true hi]
theorem ones_or (o i : Nat) : (o ||| (2 ^ i - 1)) ||| 2 ^ i = o ||| (2 ^ (i + 1) - 1) := by
  refine Nat.eq_of_testBit_eq fun k => ?_
  simp only [Nat.testBit_or, Nat.testBit_two_pow_sub_one, Nat.testBit_two_pow]
  by_cases h : k < i
  · rw [decide_eq_true h, decide_eq_true (show k < i + 1 by omega)]; cases o.testBit k <;> rfl
  · by_cases h2 : i = k
    · subst h2; simp
    · rw [decide_eq_false h, decide_eq_false h2, decide_eq_false (show ¬ k < i + 1 by omega)]; simp
theorem kMin_up {j : Int} (h1 : 0 ≤ j) (h2 : j < 1000) : kMin j = j + 1 := by
  unfold kMin
  rw [wrap_in (by omega) (by omega)]
  unfold mn
  rw [if_neg (by omega)]
/-- All are wanted, all were wanted so long. -/
theorem up_n {h j : Int} (h1 : 0 ≤ j) (h2 : j < 1000) {n : Nat} (hn : n ≤ 6) (N : Nat → Int) (o : Nat) (hN : ∀ k, k < n → N k = j) : ∀ i : Nat, i ≤ n →
    (∀ k, k < i → (kTurns h (tB ((2 ^ n - 1 : Nat) : Int)) (N, o) i).1 k = j + 1) ∧ (∀ k, i ≤ k → (kTurns h (tB ((2 ^ n - 1 : Nat) : Int)) (N, o) i).1 k = N k) ∧
    (kTurns h (tB ((2 ^ n - 1 : Nat) : Int)) (N, o) i).2 = if j + 1 ≥ h then o ||| (2 ^ i - 1) else o
  | 0, _ => ⟨fun k h => absurd h (Nat.not_lt_zero k), fun k _ => rfl, by show o = _; split <;> simp⟩
  | i + 1, hi => by
    obtain ⟨a, b, c⟩ := up_n h1 h2 hn N o hN i (by omega)
    obtain ⟨st, hst⟩ : ∃ st, kTurns h (tB ((2 ^ n - 1 : Nat) : Int)) (N, o) i = st := ⟨_, rfl⟩
    rw [hst] at a b c
    obtain ⟨M, q⟩ := st
    have hM : M i = j := (b i (Nat.le_refl i)).trans (hN i (by omega))
    have hk : kMin (M i) = j + 1 := by rw [hM]; exact kMin_up h1 h2
    have c : q = if j + 1 ≥ h then o ||| (2 ^ i - 1) else o := c
    have hb := tB_all hn (show i < n by omega)
    have e : ∃ q2, kTurns h (tB ((2 ^ n - 1 : Nat) : Int)) (N, o) (i + 1) = (upd1 M i (j + 1), q2) ∧ q2 = if j + 1 ≥ h then o ||| (2 ^ (i + 1) - 1) else o := by
      by_cases hg : j + 1 ≥ h
      · exact ⟨_, by rw [kT_ge hst hb (by rw [hk]; exact hg), hk], by rw [if_pos hg] at c ⊢; rw [c, ones_or]⟩
      · exact ⟨_, by rw [kT_lt hst hb (by rw [hk]; exact hg), hk], by rw [if_neg hg] at c ⊢; exact c⟩
    obtain ⟨q2, e, hq⟩ := e
    rw [e]
    refine ⟨fun k hk => ?_, fun k hk => ?_, hq⟩
    · show (if k = i then _ else M k) = _
      by_cases hki : k = i
      · rw [if_pos hki]
      · rw [if_neg hki]; exact a k (by omega)
    · show (if k = i then _ else M k) = _
      rw [if_neg (by omega)]; exact b k (by omega)
theorem tB_zero {i : Nat} : tB 0 i = false := by
  unfold tB; rw [show ((0 : Int) % 18446744073709551616).toNat = 0 from rfl, Nat.zero_testBit]
/-- None is wanted. -/
theorem dn_n (h : Int) (N : Nat → Int) : ∀ i : Nat, (∀ k, k < i → (kTurns h (tB 0) (N, 0) i).1 k = 0) ∧ (kTurns h (tB 0) (N, 0) i).2 = 0
  | 0 => ⟨fun k h => absurd h (Nat.not_lt_zero k), rfl⟩
  | i + 1 => by
    obtain ⟨a, c⟩ := dn_n h N i
    obtain ⟨st, hst⟩ : ∃ st, kTurns h (tB 0) (N, 0) i = st := ⟨_, rfl⟩
    rw [hst] at a c
    obtain ⟨M, q⟩ := st
    obtain rfl : q = 0 := c
    rw [kT_no hst tB_zero]
    refine ⟨fun k hk => ?_, Nat.zero_and _⟩
    show (if k = i then _ else M k) = _
    by_cases hki : k = i
    · rw [if_pos hki]
    · rw [if_neg hki]; exact a k (by omega)
/-- All are wanted so many times. -/
def kRun (h : Int) (n : Nat) (s : (Nat → Int) × Nat) : Nat → (Nat → Int) × Nat
  | 0 => s
  | j + 1 => kTurns h (tB ((2 ^ n - 1 : Nat) : Int)) (kRun h n s j) n
theorem run_n {h : Int} (hh : 1 ≤ h) {n : Nat} (hn : n ≤ 6) (N : Nat → Int) (hN : ∀ k, k < n → N k = 0) : ∀ j : Nat, j ≤ 900 →
    (∀ k, k < n → (kRun h n (N, 0) j).1 k = j) ∧ (kRun h n (N, 0) j).2 = if (j : Int) ≥ h then 2 ^ n - 1 else 0
  | 0, _ => ⟨hN, by rw [if_neg (by omega)]; rfl⟩
  | j + 1, hj => by
    obtain ⟨a, b⟩ := run_n hh hn N hN j (by omega)
    obtain ⟨st, hst⟩ : ∃ st, kRun h n (N, 0) j = st := ⟨_, rfl⟩
    rw [hst] at a b
    obtain ⟨M, q⟩ := st
    obtain ⟨x, _, z⟩ := up_n (h := h) (j := (j : Int)) (by omega) (by omega) hn M q a n (Nat.le_refl n)
    have e : kRun h n (N, 0) (j + 1) = kTurns h (tB ((2 ^ n - 1 : Nat) : Int)) (M, q) n := by rw [← hst]; rfl
    rw [e]
    refine ⟨fun k hk => (x k hk).trans (by omega), ?_⟩
    rw [z]
    have b : q = if (j : Int) ≥ h then 2 ^ n - 1 else 0 := b
    by_cases h1 : (j : Int) ≥ h
    · rw [if_pos h1] at b
      rw [if_pos (by omega), if_pos (by omega), b, Nat.or_self]
    · rw [if_neg h1] at b
      subst b
      by_cases h2 : (j : Int) + 1 ≥ h
      · rw [if_pos h2, if_pos (by omega), Nat.zero_or]
      · rw [if_neg h2, if_neg (by omega)]
theorem run_lt {h : Int} {n : Nat} (hn : n ≤ 6) {s : (Nat → Int) × Nat} (hs : s.2 < 128) : ∀ j : Nat, (kRun h n s j).2 < 128
  | 0 => hs
  | j + 1 => kTurns_lt (run_lt hn hs j) n (by omega)
theorem nAn_bit {o i k : Nat} (ho : o < 128) (hi : i < 7) : (nAn o (2 ^ i)).testBit k = (o.testBit k && !decide (i = k)) := by
  unfold nAn
  have e127 : (127 : Nat).testBit k = decide (k < 7) := Nat.testBit_two_pow_sub_one 7 k
  rw [Nat.testBit_and, Nat.testBit_xor, Nat.testBit_two_pow, e127]
  rcases Nat.lt_or_ge k 7 with hk | hk
  · rw [decide_eq_true hk]; cases o.testBit k <;> cases decide (i = k) <;> rfl
  · rw [small_bit ho hk, Bool.false_and, Bool.false_and]
theorem tB_one {i : Nat} : tB 1 (i + 1) = false := by
  unfold tB; rw [show ((1 : Int) % 18446744073709551616).toNat = 1 from rfl]
  exact Nat.testBit_lt_two_pow (Nat.one_lt_two_pow (by omega))
/-- The first one alone is wanted. -/
theorem one_n (h : Int) (N : Nat → Int) (o : Nat) (ho : o < 128) : ∀ i : Nat, i ≤ 7 → (∀ k, 1 ≤ k → k < i → (kTurns h (tB 1) (N, o) i).2.testBit k = false) ∧ (∀ k, i ≤ k → (kTurns h (tB 1) (N, o) i).2.testBit k = o.testBit k)
  | 0, _ => ⟨fun k _ h => absurd h (Nat.not_lt_zero k), fun k _ => rfl⟩
  | i + 1, hi => by
    obtain ⟨a, c⟩ := one_n h N o ho i (by omega)
    have hlt := kTurns_lt (h := h) (b := tB 1) (st := (N, o)) ho i (by omega)
    obtain ⟨st, hst⟩ : ∃ st, kTurns h (tB 1) (N, o) i = st := ⟨_, rfl⟩
    rw [hst] at a c hlt
    obtain ⟨M, q⟩ := st
    match i, hi, a, c, hst with
    | 0, _, a, c, hst =>
      have e : (kTurns h (tB 1) (N, o) 1).2 = q ∨ (kTurns h (tB 1) (N, o) 1).2 = q ||| 2 ^ 0 := by
        have hb : tB 1 0 = true := by decide
        by_cases hg : kMin (M 0) ≥ h
        · exact .inr (by rw [kT_ge hst hb hg])
        · exact .inl (by rw [kT_lt hst hb hg])
      refine ⟨fun k h1 h2 => by omega, fun k hk => ?_⟩
      rw [← c k (by omega)]
      rcases e with e | e
      · rw [e]
      · rw [e]; show (q ||| 2 ^ 0).testBit k = q.testBit k
        rw [Nat.testBit_or, Nat.testBit_two_pow, decide_eq_false (by omega), Bool.or_false]
    | i + 1, hi, a, c, hst =>
      rw [kT_no hst tB_one]
      refine ⟨fun k h1 h2 => ?_, fun k hk => ?_⟩
      · show (nAn q (2 ^ (i + 1))).testBit k = false
        rw [nAn_bit hlt (by omega)]
        by_cases e : i + 1 = k
        · rw [decide_eq_true e]; simp
        · have := a k h1 (by omega); have this : q.testBit k = false := this; rw [this]; rfl
      · show (nAn q (2 ^ (i + 1))).testBit k = _
        rw [nAn_bit hlt (by omega), decide_eq_false (by omega), ← c k (by omega)]; simp
theorem one_end {h : Int} {N : Nat → Int} {o n : Nat} (hn : n ≤ 6) (ho : o < 2 ^ n) : anX (((kTurns h (tB 1) (N, o) n).2 : Nat) : Int) 1 = 0 := by
  have ho7 : o < 128 := Nat.lt_of_lt_of_le ho (Nat.le_trans (Nat.pow_le_pow_right (by decide) hn) (show 2 ^ 6 ≤ 128 by decide))
  obtain ⟨a, c⟩ := one_n h N o ho7 n (by omega)
  have hlt := kTurns_lt (h := h) (b := tB 1) (st := (N, o)) ho7 n (by omega)
  have e : anX (((kTurns h (tB 1) (N, o) n).2 : Nat) : Int) ((1 : Nat) : Int) = ((nAn (kTurns h (tB 1) (N, o) n).2 1 : Nat) : Int) := anX_eq hlt (by decide)
  refine e.trans ?_
  rw [nAn_sub hlt fun i hi => ?_]
  · rfl
  · match i, hi with
    | 0, _ => rfl
    | i + 1, hi =>
      rcases Nat.lt_or_ge (i + 1) n with h | h
      · rw [a (i + 1) (by omega) h] at hi; cases hi
      · rw [c (i + 1) h, Nat.testBit_lt_two_pow (Nat.lt_of_lt_of_le ho (Nat.pow_le_pow_right (by decide) h))] at hi; cases hi
theorem cfgH (n : Int) : 1 ≤ w64 (1 + (w64 ((n20 n).tdiv 432)).tmod 5) ∧ w64 (1 + (w64 ((n20 n).tdiv 432)).tmod 5) ≤ 5 := by
  obtain ⟨h1, h2⟩ := n20_in n
  have d : 0 ≤ (n20 n).tdiv 432 := Int.tdiv_nonneg h1 (by decide)
  have d2 : (n20 n).tdiv 432 ≤ n20 n := by rw [Int.tdiv_eq_ediv_of_nonneg h1]; omega
  have w1 : w64 ((n20 n).tdiv 432) = (n20 n).tdiv 432 := wrap_in (by omega) (by omega)
  rw [w1]
  have a1 := Int.tmod_nonneg 5 d
  have a2 := Int.tmod_lt_of_pos ((n20 n).tdiv 432) (show (0 : Int) < 5 by decide)
  have w2 : w64 (1 + ((n20 n).tdiv 432).tmod 5) = 1 + ((n20 n).tdiv 432).tmod 5 := wrap_in (by omega) (by omega)
  rw [w2]; omega
end Go.Proofs.YtlhhcongoplfpaaDoor
