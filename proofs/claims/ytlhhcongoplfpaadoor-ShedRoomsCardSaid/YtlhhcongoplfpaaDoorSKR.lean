/- What functions of this program do, each as a contract that its callers use, and what follows of it in plain numbers.
   By an AI agent. -/
import Derived.Test.YtlhhcongoplfpaaDoorDLO
import Derived.Test.YtlhhcongoplfpaaDoorSK7
import Derived.Test.YtlhhcongoplfpaaDoorSHS
namespace Go.Proofs.YtlhhcongoplfpaaDoor
open Go Go.Proofs.YtlhhcongoplfpaaDoorAB
set_option linter.unusedSimpArgs false
set_option linter.unusedVariables false

/-- What those that are dearer take, as the law sums it. -/
def dearW (w : Nat) (fz W R : Nat → Int) (i : Nat) : Nat → Int
  | 0 => 0
  | j + 1 => if w.testBit j = true ∧ fz j = fz i ∧ dearer R j i then IntKind.i64.wrap (dearW w fz W R i j + W j) else dearW w fz W R i j
theorem dearW_yes {w : Nat} {fz W R : Nat → Int} {i j : Nat} (h : w.testBit j = true ∧ fz j = fz i ∧ dearer R j i) : dearW w fz W R i (j + 1) = IntKind.i64.wrap (dearW w fz W R i j + W j) := if_pos h
theorem dearW_no {w : Nat} {fz W R : Nat → Int} {i j : Nat} (h : ¬ (w.testBit j = true ∧ fz j = fz i ∧ dearer R j i)) : dearW w fz W R i (j + 1) = dearW w fz W R i j := if_neg h
theorem src_some' {B : Nat → Nat} {shut : Int} {i s : Nat} (h : feedN (bitB shut) (B i) = ((s : Nat) : Int)) : srcF B shut i = some s := by
  unfold srcF; rw [if_neg (by omega), h]; rfl
theorem src_is' {B : Nat → Nat} {shut : Int} {i s : Nat} (h : srcF B shut i = some s) : feedN (bitB shut) (B i) = ((s : Nat) : Int) := by
  unfold srcF at h
  split at h
  · cases h
  · have := Option.some.inj h
    rcases feed_cases (bitB shut) (B i) with q | q | q | q | q <;> omega
theorem dear_sum {w : Nat} {B : Nat → Nat} {shut : Int} {W R : Nat → Int} (hW : ∀ i, 0 ≤ W i ∧ W i ≤ 290) {i s : Nat} (hs : fzF B shut i = ((s : Nat) : Int)) : ∀ n : Nat, n ≤ 7 →
    dearW w (fzF B shut) W R i n = sumN (dearF w (srcF B shut) W R s i) n ∧ 0 ≤ dearW w (fzF B shut) W R i n ∧ dearW w (fzF B shut) W R i n ≤ 290 * n
  | 0, _ => ⟨rfl, Int.le_refl _, by show (0 : Int) ≤ 290 * ((0 : Nat) : Int); omega⟩
  | n + 1, hn => by
    obtain ⟨a, b, c⟩ := dear_sum (w := w) (R := R) hW hs n (by omega)
    have h := hW n
    by_cases hc : w.testBit n = true ∧ fzF B shut n = fzF B shut i ∧ dearer R n i
    · rw [dearW_yes hc, wrap_in (by omega) (by omega), a]
      have e : dearF w (srcF B shut) W R s i n = W n := if_pos ⟨hc.1, src_some' (hc.2.1.trans hs), hc.2.2⟩
      refine ⟨by simp only [sumN]; rw [e], by omega, by omega⟩
    · rw [dearW_no hc, a]
      have e : dearF w (srcF B shut) W R s i n = 0 := if_neg (fun q => hc ⟨q.1, by
        have e1 : fzF B shut n = ((s : Nat) : Int) := src_is' q.2.1
        rw [e1, hs], q.2.2⟩)
      refine ⟨by simp only [sumN]; rw [e]; omega, by omega, by omega⟩
theorem ask_sum {w : Nat} (hw : w < 128) {B : Nat → Nat} {shut : Int} {W : Nat → Int} (hW : ∀ i, 0 ≤ W i ∧ W i ≤ 290) (s : Nat) {n : Nat} (hn : n ≤ 7) : loadF (bitB ((w : Nat) : Int)) (fzF B shut) W ((s : Nat) : Int) n = sumN (askF w (srcF B shut) W s) n := by
  rw [(load_sum hW n hn).1]
  refine sum_eq n fun i hi => ?_
  unfold partF askF
  have hb : bitB ((w : Nat) : Int) i = w.testBit i := by rw [bitB_eq _ (by omega), tB_nat hw]
  by_cases h : w.testBit i = true ∧ srcF B shut i = some s
  · have e : fzF B shut i = ((s : Nat) : Int) := src_is' h.2
    rw [if_pos h, if_pos ⟨by rw [hb]; exact h.1, by omega, e⟩]
  · rw [if_neg h, if_neg (fun q => h ⟨by rw [← hb]; exact q.1, src_some' q.2.2⟩)]
theorem capIn0 (n m k : Int) (oc fa : Option Addr) (fl fc : Nat) : ∀ s : Nat, 0 ≤ capOf (cfgOf n m k oc fa fl fc) s ∧ capOf (cfgOf n m k oc fa fl fc) s ≤ 1000000
  | 0 => ⟨show (0 : Int) ≤ 3000 by decide, show (3000 : Int) ≤ 1000000 by decide⟩
  | 1 => ⟨show (0 : Int) ≤ 500 by decide, show (500 : Int) ≤ 1000000 by decide⟩
  | 2 => ⟨show (0 : Int) ≤ 500 by decide, show (500 : Int) ≤ 1000000 by decide⟩
  | 3 => ⟨show (0 : Int) ≤ 3000 by decide, show (3000 : Int) ≤ 1000000 by decide⟩
  | s + 4 => ⟨show (0 : Int) ≤ 500 by decide, show (500 : Int) ≤ 1000000 by decide⟩
theorem cap_at (c : Cfg) (ty : TypeId) : ∀ s : Nat, s < 4 → AObj.at (.cells [I64 c.GenMax, I64 c.BatMax, I64 c.BatMax, I64 c.ExtMax] ty) (0 + s * 1) = some (I64 (capOf c s))
  | 0, _ => rfl
  | 1, _ => rfl
  | 2, _ => rfl
  | 3, _ => rfl
  | s + 4, h => by omega
/-- A mask behind its last bit. -/
theorem behind : ∀ n : Fin 7, ∀ w : Fin 128, w.val < 2 ^ n.val → (((w.val : Nat) : Int).fdiv (2 ^ min (IntKind.u64.wrap ((n.val : Nat) : Int)).toNat IntKind.i64.bits)) = 0 := by decide +kernel
end Go.Proofs.YtlhhcongoplfpaaDoor
