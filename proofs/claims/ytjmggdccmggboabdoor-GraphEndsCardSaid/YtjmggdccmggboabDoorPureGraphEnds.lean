/- Proved: each contactor alone joins its two nodes and no others, sources and buses alone are one group each, for every input. Conditions: math/bits' two tables hold what the program's text lays in them (the tied card). -/
import Derived.Test.YtjmggdccmggboabDoorPGraphEndsx2
namespace Go.Proofs.YtjmggdccmggboabDoor.Pure
open Go.RowKit Go.Proofs.YtjmggdccmggboabDoor.PGraphEnds Go.Proofs.YtjmggdccmggboabDoorW.PrintWords Go.Proofs.YtjmggdccmggboabDoorW.PrintLast Go.Proofs.YtjmggdccmggboabDoorW.PrintMore
set_option linter.unusedSimpArgs false
set_option linter.unusedVariables false
theorem number_eq (a n : Int) (hn : 0 < n) (hs : n ≤ 4611686018427387904) : dynamoworld_Number.f a n = some (a % n) := by
  unfold dynamoworld_Number.f
  rw [if_neg (by omega), Int.tmod_eq_emod]
  have h1 := Int.emod_nonneg a (show n ≠ 0 by omega)
  have h2 := Int.emod_lt_of_pos a hn
  have hd : n ∣ a ↔ a % n = 0 := Int.dvd_iff_emod_eq_zero
  by_cases h : 0 ≤ a ∨ n ∣ a
  · simp only [h, if_true]; rw [if_neg (by omega)]; congr 1; omega
  · simp only [h, if_false]; rw [hd] at h; rw [if_pos (by omega)]; congr 1; unfold wrap64; omega
theorem number_nat (a n : Int) (hn : 0 < n) (hs : n ≤ 4611686018427387904) : ∃ m : Nat, (m : Int) < n ∧ dynamoworld_Number.f a n = some (m : Int) := by
  have h1 := Int.emod_nonneg a (show n ≠ 0 by omega)
  have h2 := Int.emod_lt_of_pos a hn
  refine ⟨(a % n).toNat, by omega, ?_⟩
  rw [number_eq a n hn hs]; congr 1; omega

theorem tail_free (x1 : Int) {α : Type} (F : Int × Int → Option α) : ((dynamoworld_Number.f x1 1000).bind fun t => (graph_Ends.f (wrap64 (7 + t))).bind F) = F (-1, -1) := by
  have h1 := Int.emod_nonneg x1 (show (1000 : Int) ≠ 0 by omega)
  have h2 := Int.emod_lt_of_pos x1 (show (0 : Int) < 1000 by omega)
  rw [number_eq _ _ (by omega) (by omega)]
  generalize x1 % 1000 = t at *
  have hw : wrap64 (7 + t) = 7 + t := by unfold wrap64; omega
  simp only [Option.bind_some]
  rw [hw]
  unfold graph_Ends.f
  rw [if_neg (by omega), if_neg (by omega), if_neg (by omega), if_neg (by omega), if_neg (by omega), if_neg (by omega), if_neg (by omega)]
  rfl
theorem x1_free (x1 : Int) : ∀ k, (∀ y0 y2 y3 y4 y5, dynamolaw21_GraphEnds.j0 k y0 x1 y2 y3 y4 y5 = dynamolaw21_GraphEnds.j0 k y0 0 y2 y3 y4 y5) ∧
    (∀ y1 y2 y3 y4 y5, dynamolaw21_GraphEnds.l0 k x1 y1 y2 y3 y4 y5 = dynamolaw21_GraphEnds.l0 k 0 y1 y2 y3 y4 y5) ∧
    (∀ y1 y2 y3 y4 y5 y6 y7, dynamolaw21_GraphEnds.j2 k x1 y1 y2 y3 y4 y5 y6 y7 = dynamolaw21_GraphEnds.j2 k 0 y1 y2 y3 y4 y5 y6 y7) ∧
    (∀ y1 y2 y3 y4 y5 y6, dynamolaw21_GraphEnds.j3 k x1 y1 y2 y3 y4 y5 y6 = dynamolaw21_GraphEnds.j3 k 0 y1 y2 y3 y4 y5 y6) := by
  intro k
  induction k with
  | zero => refine ⟨?_, ?_, ?_, ?_⟩ <;> intros <;> simp only [dynamolaw21_GraphEnds.j0, dynamolaw21_GraphEnds.l0, dynamolaw21_GraphEnds.j2, dynamolaw21_GraphEnds.j3]
  | succ k ih =>
    obtain ⟨i1, i2, i3, i4⟩ := ih
    refine ⟨?_, ?_, ?_, ?_⟩
    · intros; simp only [dynamolaw21_GraphEnds.j0, i2]
    · intros; simp only [dynamolaw21_GraphEnds.l0, i3, tail_free]
    · intros; simp only [dynamolaw21_GraphEnds.j2, i4]
    · intros; simp only [dynamolaw21_GraphEnds.j3, i2]
theorem ends_fin : ∀ c : Fin 7, dynamolaw21_GraphEnds.f 100 (c.val : Int) 0 = some true := by decide +kernel
theorem GraphEnds : dynamolaw21_GraphEnds.Pure := by
  intro a0 a1 _ _
  refine ⟨100, ?_⟩
  have h1 := Int.emod_nonneg a0 (show (7 : Int) ≠ 0 by omega)
  have h2 := Int.emod_lt_of_pos a0 (show (0 : Int) < 7 by omega)
  have hf := ends_fin ⟨(a0 % 7).toNat, by omega⟩
  have e0 : (((a0 % 7).toNat : Nat) : Int) = a0 % 7 := by omega
  simp only [e0] at hf
  unfold dynamolaw21_GraphEnds.f at hf ⊢
  rw [number_eq _ _ (by omega) (by omega)] at hf ⊢
  rw [Int.emod_emod_of_dvd _ (Int.dvd_refl 7)] at hf
  simp only [(x1_free a1 _).1]
  exact hf

end Go.Proofs.YtjmggdccmggboabDoor.Pure
