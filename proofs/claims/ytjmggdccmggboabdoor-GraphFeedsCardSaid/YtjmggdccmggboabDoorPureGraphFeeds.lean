/- Proved: a bus that is fed is joined to that source and to no other, a source joined to nobody feeds nobody, for every input. Conditions: math/bits' two tables hold what the program's text lays in them (the tied card). -/
import Derived.Test.YtjmggdccmggboabDoorPGraphFeedsx3
namespace Go.Proofs.YtjmggdccmggboabDoor.Pure
open Go.RowKit Go.Proofs.YtjmggdccmggboabDoor.PGraphFeeds Go.Proofs.YtjmggdccmggboabDoorW.PrintWords Go.Proofs.YtjmggdccmggboabDoorW.PrintLast Go.Proofs.YtjmggdccmggboabDoorW.PrintMore
set_option linter.unusedSimpArgs false
set_option linter.unusedVariables false
theorem number_eq (a n : Int) (hn : 0 < n) (hs : n ≤ 4611686018427387904) : dynamoworld_Number.f a n = some (a % n) := by
  unfold dynamoworld_Number.f
  rw [if_neg (by omega), Int.tmod_eq_emod]
  have h1 := Int.emod_nonneg a (show n ≠ 0 by omega)
  have h2 := Int.emod_lt_of_pos a hn
  have hd : n ∣ a ↔ a % n = 0 := Int.dvd_iff_emod_eq_zero
  by_cases h : 0 ≤ a ∨ n ∣ a
  · simp only [h, if_true]; rw [if_neg (by omega)]; congr 1; omega
  · simp only [h, if_false]; rw [hd] at h; rw [if_pos (by omega)]; congr 1; unfold wrap64; omega
theorem number_nat (a n : Int) (hn : 0 < n) (hs : n ≤ 4611686018427387904) : ∃ m : Nat, (m : Int) < n ∧ dynamoworld_Number.f a n = some (m : Int) := by
  have h1 := Int.emod_nonneg a (show n ≠ 0 by omega)
  have h2 := Int.emod_lt_of_pos a hn
  refine ⟨(a % n).toNat, by omega, ?_⟩
  rw [number_eq a n hn hs]; congr 1; omega

theorem feeds_fin : ∀ m : Fin 128, ∀ b : Fin 3, dynamolaw21_GraphFeeds.f 100 (m.val : Int) (b.val : Int) = some true := by decide +kernel
theorem GraphFeeds : dynamolaw21_GraphFeeds.Pure := by
  intro a0 a1 _ _
  refine ⟨100, ?_⟩
  have h1 := Int.emod_nonneg a0 (show (128 : Int) ≠ 0 by omega)
  have h2 := Int.emod_lt_of_pos a0 (show (0 : Int) < 128 by omega)
  have h3 := Int.emod_nonneg a1 (show (3 : Int) ≠ 0 by omega)
  have h4 := Int.emod_lt_of_pos a1 (show (0 : Int) < 3 by omega)
  have hf := feeds_fin ⟨(a0 % 128).toNat, by omega⟩ ⟨(a1 % 3).toNat, by omega⟩
  have e0 : (((a0 % 128).toNat : Nat) : Int) = a0 % 128 := by omega
  have e1 : (((a1 % 3).toNat : Nat) : Int) = a1 % 3 := by omega
  simp only [e0, e1] at hf
  unfold dynamolaw21_GraphFeeds.f at hf ⊢
  rw [number_eq _ _ (by omega) (by omega), number_eq _ _ (by omega) (by omega)] at hf ⊢
  rw [Int.emod_emod_of_dvd _ (Int.dvd_refl 128), Int.emod_emod_of_dvd _ (Int.dvd_refl 3)] at hf
  exact hf

end Go.Proofs.YtjmggdccmggboabDoor.Pure
