/- What functions of this program do, each as a contract that its callers use, and what follows of it in plain numbers.
   By an AI agent. -/
import Derived.Test.YtlhhcongoplfpaaDoorAB
import Derived.Test.YtlhhcongoplfpaaDoorDLO
import Derived.Test.YtlhhcongoplfpaaDoorDM1
import Derived.Test.YtlhhcongoplfpaaDoorABM
namespace Go.Proofs.YtlhhcongoplfpaaDoor
open Go Go.Proofs.YtlhhcongoplfpaaDoorAB
variable {G : Nat}
set_option linter.unusedSimpArgs false
set_option linter.unusedVariables false

theorem mXY_in {z : List Int} {x y : Int} (x1 : -1000000 < x) (x2 : x < 1000000) (y1 : -777 < y) (y2 : y < 777) : ∀ i : Nat, i ≤ 64 → (-1000000 < (mXY z x y i).1 ∧ (mXY z x y i).1 < 1000000 + 5000 * (i : Int)) ∧ (-777 < (mXY z x y i).2 ∧ (mXY z x y i).2 < 777 + 5000 * (i : Int))
  | 0, _ => by show (-1000000 < x ∧ x < _) ∧ (-777 < y ∧ y < _); omega
  | i + 1, h => by
    obtain ⟨⟨a, b⟩, c, d⟩ := mXY_in x1 x2 y1 y2 (z := z) i (by omega)
    have e := num_nonneg (z.getD (2 * i) 0) 5000 (by decide) (by decide)
    have g := num_nonneg (z.getD (2 * i + 1) 0) 5000 (by decide) (by decide)
    show (-1000000 < IntKind.i64.wrap (IntKind.i64.wrap ((mXY z x y i).1 + 1) + num (z.getD (2 * i) 0) 5000) ∧ IntKind.i64.wrap (IntKind.i64.wrap ((mXY z x y i).1 + 1) + num (z.getD (2 * i) 0) 5000) < _) ∧ (-777 < IntKind.i64.wrap ((mXY z x y i).2 + num (z.getD (2 * i + 1) 0) 5000) ∧ IntKind.i64.wrap ((mXY z x y i).2 + num (z.getD (2 * i + 1) 0) 5000) < _)
    rw [wrap_in (x := (mXY z x y i).1 + 1) (by omega) (by omega), wrap_in (x := (mXY z x y i).1 + 1 + num (z.getD (2 * i) 0) 5000) (by omega) (by omega), wrap_in (x := (mXY z x y i).2 + _) (by omega) (by omega)]
    omega
theorem mXY_step {z : List Int} {x y : Int} (x1 : -1000000 < x) (x2 : x < 1000000) (y1 : -777 < y) (y2 : y < 777) {i : Nat} (h : i ≤ 64) : (mXY z x y i).1 < (mXY z x y (i + 1)).1 ∧ (mXY z x y i).2 ≤ (mXY z x y (i + 1)).2 := by
  obtain ⟨⟨a, b⟩, c, d⟩ := mXY_in x1 x2 y1 y2 (z := z) i h
  have e := num_nonneg (z.getD (2 * i) 0) 5000 (by decide) (by decide)
  have g := num_nonneg (z.getD (2 * i + 1) 0) 5000 (by decide) (by decide)
  show _ < IntKind.i64.wrap (IntKind.i64.wrap ((mXY z x y i).1 + 1) + num (z.getD (2 * i) 0) 5000) ∧ _ ≤ IntKind.i64.wrap ((mXY z x y i).2 + num (z.getD (2 * i + 1) 0) 5000)
  rw [wrap_in (x := (mXY z x y i).1 + 1) (by omega) (by omega), wrap_in (x := (mXY z x y i).1 + 1 + num (z.getD (2 * i) 0) 5000) (by omega) (by omega), wrap_in (x := (mXY z x y i).2 + _) (by omega) (by omega)]
  omega
theorem made_ok {z : List Int} {x y : Int} {n : Nat} (x1 : -1000000 < x) (x2 : x < 1000000) (y1 : -777 < y) (y2 : y < 777) (h1 : 2 ≤ n) (h2 : n ≤ 64) : TOk n (fun i => (mXY z x y i).1) (fun i => (mXY z x y i).2) :=
  have k := fun i (h : i < n) => mXY_in x1 x2 y1 y2 (z := z) i (by omega)
  ⟨h1, h2, fun i h => by have := k i h; omega, fun i h => by have := k i h; omega, fun i h => by have := k i h; omega, fun i h => by have := k i h; omega,
   fun i h => (mXY_step x1 x2 y1 y2 (by omega)).1, fun i h => (mXY_step x1 x2 y1 y2 (by omega)).2⟩
theorem mpts_flat (z : List Int) (x y : Int) : ∀ n : Nat, mpts z x y n = ((List.range n).map (mXY z x y)).flatMap pp
  | 0 => rfl
  | n + 1 => by rw [mpts, mpts_flat z x y n, List.range_succ, List.map_append, List.flatMap_append]; rfl
theorem made_tb (z : List Int) (x y : Int) (n : Nat) (ty : TypeId) : Tb (.row (mpts z x y n) ty 2) 0 n (fun i => (mXY z x y i).1) (fun i => (mXY z x y i).2) := by
  have hl : ((List.range n).map (mXY z x y)).length = n := by simp
  have hg : ∀ i (h : i < n), ((List.range n).map (mXY z x y))[i]'(by rw [hl]; exact h) = mXY z x y i := fun i h => by simp
  rw [mpts_flat]
  refine ⟨fun i h => ?_, fun i h => ?_, fun i h => ?_⟩
  · show segO _ (0 + i * 2) 2 = _
    rw [Nat.zero_add, flat_seg (g := pp) (sz := 2) (fun _ => rfl) (zs := (List.range n).map (mXY z x y)) (i := i) (by rw [hl]; exact h), hg i h]
  · show (((List.range n).map (mXY z x y)).flatMap pp)[0 + i * 2]? = _
    have := flat_get (g := pp) (sz := 2) (fun _ => rfl) (zs := (List.range n).map (mXY z x y)) (i := i) (j := 0) (by rw [hl]; exact h) (by decide)
    rw [Nat.zero_add]; rw [Nat.add_zero] at this; rw [this, hg i h]; rfl
  · show (((List.range n).map (mXY z x y)).flatMap pp)[0 + i * 2 + 1]? = _
    have := flat_get (g := pp) (sz := 2) (fun _ => rfl) (zs := (List.range n).map (mXY z x y)) (i := i) (j := 1) (by rw [hl]; exact h) (by decide)
    rw [Nat.zero_add, this, hg i h]; rfl
/-- At its points a table is what they are. -/
theorem at_point {n : Nat} {X Y : Nat → Int} (ok : TOk n X Y) {i : Nat} (h : i < n) : tLo n X Y (X i) = Y i ∧ tHi n X Y (X i) = Y i := by
  rcases Nat.lt_or_ge (i + 1) n with h1 | h1
  · have := ok.seg h1 (Int.le_refl _) (by have := ok.xs i h1; omega)
    rw [this.1, this.2, Int.sub_self, Int.mul_zero, dn_zero, up_zero]; omega
  · have e : i = n - 1 := by omega
    subst e
    exact ok.right (Int.le_refl _)
end Go.Proofs.YtlhhcongoplfpaaDoor
