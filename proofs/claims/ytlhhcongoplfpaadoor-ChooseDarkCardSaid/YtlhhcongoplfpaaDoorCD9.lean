/- What functions of this program do, each as a contract that its callers use, and what follows of it in plain numbers.
   By an AI agent. -/
import Derived.Test.YtlhhcongoplfpaaDoorDLO
import Derived.Test.YtlhhcongoplfpaaDoorCHC
namespace Go.Proofs.YtlhhcongoplfpaaDoor
open Go Go.Proofs.YtlhhcongoplfpaaDoorAB
set_option linter.unusedSimpArgs false
set_option linter.unusedVariables false

/-- A rank without its sign. -/
def ab (r : Int) : Int := if r < 0 then IntKind.i64.wrap (0 - r) else r
def absF (F : Fc) : Fc := { F with r0 := ab F.r0, r1 := ab F.r1, r2 := ab F.r2, r3 := ab F.r3 }
def absL (F : Fc) : Nat → List Value
  | 0 => [.bool F.l0, .bool F.l1, .bool F.l2, .bool F.l3, I64 F.r0, I64 F.r1, I64 F.r2, I64 F.r3, .bool F.s0, .bool F.s1, .bool F.s2, I64 ((F.can : Nat) : Int), I64 ((F.must : Nat) : Int), I64 ((F.now : Nat) : Int)]
  | 1 => [.bool F.l0, .bool F.l1, .bool F.l2, .bool F.l3, I64 (ab F.r0), I64 F.r1, I64 F.r2, I64 F.r3, .bool F.s0, .bool F.s1, .bool F.s2, I64 ((F.can : Nat) : Int), I64 ((F.must : Nat) : Int), I64 ((F.now : Nat) : Int)]
  | 2 => [.bool F.l0, .bool F.l1, .bool F.l2, .bool F.l3, I64 (ab F.r0), I64 (ab F.r1), I64 F.r2, I64 F.r3, .bool F.s0, .bool F.s1, .bool F.s2, I64 ((F.can : Nat) : Int), I64 ((F.must : Nat) : Int), I64 ((F.now : Nat) : Int)]
  | 3 => [.bool F.l0, .bool F.l1, .bool F.l2, .bool F.l3, I64 (ab F.r0), I64 (ab F.r1), I64 (ab F.r2), I64 F.r3, .bool F.s0, .bool F.s1, .bool F.s2, I64 ((F.can : Nat) : Int), I64 ((F.must : Nat) : Int), I64 ((F.now : Nat) : Int)]
  | _ => [.bool F.l0, .bool F.l1, .bool F.l2, .bool F.l3, I64 (ab F.r0), I64 (ab F.r1), I64 (ab F.r2), I64 (ab F.r3), .bool F.s0, .bool F.s1, .bool F.s2, I64 ((F.can : Nat) : Int), I64 ((F.must : Nat) : Int), I64 ((F.now : Nat) : Int)]
theorem absL_4 (F : Fc) : absL F 4 = (absF F).cells := rfl
theorem ab_nonneg {r : Int} (h1 : -100 < r) (h2 : r < 100) : 0 ≤ ab r := by
  unfold ab
  split
  · rw [wrap_in (by omega) (by omega)]; omega
  · omega
theorem tmod100 (x : Int) : -100 < x.tmod 100 ∧ x.tmod 100 < 100 := by
  have a := Int.tmod_lt_of_pos x (show (0 : Int) < 100 by decide)
  have b := Int.tmod_lt_of_pos (-x) (show (0 : Int) < 100 by decide)
  rw [Int.neg_tmod] at b
  omega
/-- The most that a source which feeds E by some of the first masks ranks; -1: none does. -/
def mostF (F : Fc) : Nat → Int
  | 0 => -1
  | m + 1 => if fitB F m = true then (match lvO F (bitB ((m : Nat) : Int)) 6 with | none => mostF F m | some s => mx (mostF F m) (F.r s)) else mostF F m
theorem most_no {F : Fc} {m : Nat} (h : fitB F m = false) : mostF F (m + 1) = mostF F m := by
  show (if fitB F m = true then _ else _) = _
  rw [if_neg (by rw [h]; decide)]
theorem most_none {F : Fc} {m : Nat} (h : lvO F (bitB ((m : Nat) : Int)) 6 = none) : mostF F (m + 1) = mostF F m := by
  show (if fitB F m = true then (match lvO F (bitB ((m : Nat) : Int)) 6 with | none => mostF F m | some s => mx (mostF F m) (F.r s)) else _) = _
  rw [h]; split <;> rfl
theorem most_some {F : Fc} {m s : Nat} (hf : fitB F m = true) (h : lvO F (bitB ((m : Nat) : Int)) 6 = some s) : mostF F (m + 1) = mx (mostF F m) (F.r s) := by
  show (if fitB F m = true then (match lvO F (bitB ((m : Nat) : Int)) 6 with | none => mostF F m | some s => mx (mostF F m) (F.r s)) else _) = _
  rw [h, if_pos hf]
structure MostOk (F : Fc) (n : Nat) (t : Int) : Prop where
  le : ∀ m, m < n → fitB F m = true → ∀ s, lvO F (bitB ((m : Nat) : Int)) 6 = some s → F.r s ≤ t
  is : t = -1 ∨ ∃ m, m < n ∧ fitB F m = true ∧ ∃ s, lvO F (bitB ((m : Nat) : Int)) 6 = some s ∧ t = F.r s
theorem mostOk (F : Fc) : ∀ n : Nat, MostOk F n (mostF F n)
  | 0 => ⟨fun m h => absurd h (Nat.not_lt_zero m), .inl rfl⟩
  | n + 1 => by
    have ih := mostOk F n
    have keep : (∀ s, fitB F n = true → lvO F (bitB ((n : Nat) : Int)) 6 = some s → False) → mostF F (n + 1) = mostF F n → MostOk F (n + 1) (mostF F (n + 1)) := by
      intro hno he
      rw [he]
      refine ⟨fun m hm hf s hs => ?_, ?_⟩
      · rcases Nat.lt_or_ge m n with h | h
        · exact ih.le m h hf s hs
        · obtain rfl : m = n := by omega
          exact (hno s hf hs).elim
      · rcases ih.is with h | ⟨m, h, r⟩
        · exact .inl h
        · exact .inr ⟨m, Nat.lt_succ_of_lt h, r⟩
    cases hf : fitB F n with
    | false => exact keep (fun s h => by rw [hf] at h; cases h) (most_no hf)
    | true =>
      cases hl : lvO F (bitB ((n : Nat) : Int)) 6 with
      | none => exact keep (fun s _ h => by rw [hl] at h; cases h) (most_none hl)
      | some s =>
        rw [most_some hf hl]
        generalize mostF F n = t at ih ⊢
        refine ⟨fun m hm hf' s' hs => ?_, ?_⟩
        · rcases Nat.lt_or_ge m n with h | h
          · have := ih.le m h hf' s' hs
            unfold mx; split <;> omega
          · obtain rfl : m = n := by omega
            rw [hl] at hs; cases hs
            unfold mx; split <;> omega
        · unfold mx
          split
          · exact .inr ⟨n, Nat.lt_succ_self n, hf, s, hl, rfl⟩
          · rcases ih.is with h | ⟨m, h, r⟩
            · exact .inl h
            · exact .inr ⟨m, Nat.lt_succ_of_lt h, r⟩
/-- Nothing fits: none feeds E. -/
theorem most_dark {F : Fc} (h : (bestF F 128).2.1 = false) : mostF F 128 = -1 := by
  rcases (mostOk F 128).is with h' | ⟨m, hm, hf, _⟩
  · exact h'
  · rw [((bestOk F 128).no h).2 m hm] at hf; cases hf
/-- The best feeds E by none that is live: no other does. -/
theorem most_best_no {F : Fc} (h : (bestF F 128).2.1 = true) (hl : lvO F (bitB (((bestF F 128).1 : Nat) : Int)) 6 = none) : mostF F 128 = -1 := by
  rcases (mostOk F 128).is with h' | ⟨m, hm, hf, s, hs, _⟩
  · exact h'
  · exfalso
    have g := ((bestOk F 128).all m hm hf).2.1
    rw [((bestOk F 128).yes h).2.2] at g
    have e1 : (s4 F m).1 = 1 := by show sc0 (lvO F (bitB ((m : Nat) : Int)) 6) = 1; rw [hs]; rfl
    have e2 : (s4 F (bestF F 128).1).1 = 0 := by show sc0 (lvO F (bitB (((bestF F 128).1 : Nat) : Int)) 6) = 0; rw [hl]; rfl
    unfold gtS at g
    omega
/-- The best feeds E by one that is live: no other one ranks more. -/
theorem most_best {F : Fc} (h : (bestF F 128).2.1 = true) {k : Nat} (hl : lvO F (bitB (((bestF F 128).1 : Nat) : Int)) 6 = some k) (hk : 0 ≤ F.r k) : mostF F 128 = F.r k := by
  obtain ⟨a, b, c⟩ := (bestOk F 128).yes h
  have l := (mostOk F 128).le _ a b k hl
  rcases (mostOk F 128).is with h' | ⟨m, hm, hf, s, hs, e⟩
  · omega
  · have g := ((bestOk F 128).all m hm hf).2.1
    rw [c] at g
    have e1 : (s4 F m).1 = 1 := by show sc0 (lvO F (bitB ((m : Nat) : Int)) 6) = 1; rw [hs]; rfl
    have e2 : (s4 F (bestF F 128).1).1 = 1 := by show sc0 (lvO F (bitB (((bestF F 128).1 : Nat) : Int)) 6) = 1; rw [hl]; rfl
    have e3 : (s4 F m).2.1 = F.r s := by show sc1 F (lvO F (bitB ((m : Nat) : Int)) 6) = F.r s; rw [hs]; rfl
    have e4 : (s4 F (bestF F 128).1).2.1 = F.r k := by show sc1 F (lvO F (bitB (((bestF F 128).1 : Nat) : Int)) 6) = F.r k; rw [hl]; rfl
    unfold gtS at g
    omega
theorem absF_r {F : Fc} (h : ∀ k, -100 < F.r k ∧ F.r k < 100) : ∀ k, 0 ≤ (absF F).r k
  | 0 => ab_nonneg (h 0).1 (h 0).2
  | 1 => ab_nonneg (h 1).1 (h 1).2
  | 2 => ab_nonneg (h 2).1 (h 2).2
  | 3 => ab_nonneg (h 3).1 (h 3).2
  | k + 4 => Int.le_refl 0
end Go.Proofs.YtlhhcongoplfpaaDoor
