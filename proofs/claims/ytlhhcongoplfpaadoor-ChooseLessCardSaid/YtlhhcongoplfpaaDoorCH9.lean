/- What functions of this program do, each as a contract that its callers use, and what follows of it in plain numbers.
   By an AI agent. -/
import Derived.Test.YtlhhcongoplfpaaDoorDLO
import Derived.Test.YtlhhcongoplfpaaDoorCHC
namespace Go.Proofs.YtlhhcongoplfpaaDoor
open Go Go.Proofs.YtlhhcongoplfpaaDoorAB
set_option linter.unusedSimpArgs false
set_option linter.unusedVariables false

theorem nAn_mono : ∀ a : Fin 128, ∀ b : Fin 7, nAn (nAn a.val (2 ^ b.val)) a.val = 0 := by decide +kernel
theorem nAn_trans {m a b : Nat} (hm : m < 128) (hb : b < 128) (h1 : nAn m a = 0) (h2 : nAn a b = 0) (ha : a < 128) : nAn m b = 0 := by
  refine Nat.eq_of_testBit_eq fun i => ?_
  have e1 := congrArg (fun x => x.testBit i) h1
  have e2 := congrArg (fun x => x.testBit i) h2
  have e127 : (127 : Nat).testBit i = decide (i < 7) := Nat.testBit_two_pow_sub_one 7 i
  simp only [nAn, Nat.testBit_and, Nat.testBit_xor, Nat.zero_testBit, e127] at e1 e2 ⊢
  rcases Nat.lt_or_ge i 7 with hi | hi
  · rw [decide_eq_true hi] at *
    cases hmi : m.testBit i <;> cases hai : a.testBit i <;> cases hbi : b.testBit i <;> simp_all
  · have : m.testBit i = false := Nat.testBit_lt_two_pow (Nat.lt_of_lt_of_le hm (Nat.pow_le_pow_right (show 2 > 0 by decide) hi))
    rw [this, Bool.false_and]
/-- Less may be closed, more is shorted. -/
theorem fit_less {F K : Fc} (hc : nAn K.can F.can = 0) (hl1 : K.can < 128) (hl2 : F.can < 128) (hm : K.must = F.must) (hm2 : F.must < 128) (hs : ∀ k, F.s k = true → K.s k = true) {y : Nat} (hy : y < 128) (h : fitB K y = true) : fitB F y = true := by
  unfold fitB at h ⊢
  rw [Bool.and_eq_true, Bool.and_eq_true, Bool.and_eq_true] at h ⊢
  obtain ⟨a, b, c, d⟩ := h
  rw [hm] at a b
  refine ⟨a, ?_, c, ?_⟩
  · have b := of_decide_eq_true b
    refine decide_eq_true (nAn_trans hy (Nat.or_lt_two_pow (n := 7) hl2 hm2) b ?_ (Nat.or_lt_two_pow (n := 7) hl1 hm2))
    refine Nat.eq_of_testBit_eq fun i => ?_
    have e := congrArg (fun x => x.testBit i) hc
    simp only [nAn, Nat.testBit_and, Nat.testBit_or, Nat.testBit_xor, Nat.zero_testBit] at e ⊢
    cases h1 : K.can.testBit i <;> cases h2 : F.can.testBit i <;> cases h3 : F.must.testBit i <;> cases h4 : (127 : Nat).testBit i <;> simp_all
    all_goals
      rcases Nat.lt_or_ge i 7 with hi | hi
      · have e127 : (127 : Nat).testBit i = decide (i < 7) := Nat.testBit_two_pow_sub_one 7 i
        rw [decide_eq_true hi] at e127; simp_all
      · have z : ∀ x : Nat, x < 128 → x.testBit i = false := fun x hx => Nat.testBit_lt_two_pow (Nat.lt_of_lt_of_le hx (Nat.pow_le_pow_right (show 2 > 0 by decide) hi))
        have z1 := z _ hl1; have z3 := z _ hm2
        simp_all
  · have d' : shortB K (bitB ((y : Nat) : Int)) = false := by simpa using d
    have : shortB F (bitB ((y : Nat) : Int)) = false := by
      refine shortB_f fun i hi => ?_
      cases hb : shB F (bitB ((y : Nat) : Int)) i with
      | false => rfl
      | true =>
        unfold shB at hb
        rw [Bool.and_eq_true] at hb
        have := shortB_t (F := K) (β := bitB ((y : Nat) : Int)) hi (by unfold shB; rw [hs i hb.1, hb.2]; rfl)
        rw [d'] at this; cases this
    rw [this]; rfl
theorem found_iff (F K : Fc) (h : ∀ m, m < 128 → fitB F m = true → fitB K m = true) (hf : (bestF F 128).2.1 = true) : (bestF K 128).2.1 = true := by
  obtain ⟨a, b, c⟩ := (bestOk F 128).yes hf
  exact ((bestOk K 128).all _ a (h _ a b)).1
theorem sc0_less {F K : Fc} (h : ∀ k, K.l k = true → F.l k = true) (β : Nat → Bool) (b : Nat) : sc0 (lvO K β b) ≤ sc0 (lvO F β b) := by
  unfold lvO
  split
  · exact Int.le_refl _
  · by_cases hk : K.l (feedN β b).toNat = true
    · rw [if_pos hk, if_pos (h _ hk)]; exact Int.le_refl _
    · rw [if_neg hk]; split <;> (simp only [sc0]; omega)
theorem best_less {F K : Fc} (hl : ∀ k, K.l k = true → F.l k = true) (hfit : ∀ m, fitB K m = fitB F m) (hF : (bestF F 128).2.1 = true) (hK : (bestF K 128).2.1 = true) : (s4 K (bestF K 128).1).1 ≤ (s4 F (bestF F 128).1).1 := by
  obtain ⟨a, b, c⟩ := (bestOk K 128).yes hK
  obtain ⟨a', b', c'⟩ := (bestOk F 128).yes hF
  rw [hfit] at b
  have g := ((bestOk F 128).all _ a b).2.1
  rw [c'] at g
  have s : (s4 K (bestF K 128).1).1 ≤ (s4 F (bestF K 128).1).1 := sc0_less hl _ _
  unfold gtS at g
  omega
end Go.Proofs.YtlhhcongoplfpaaDoor
