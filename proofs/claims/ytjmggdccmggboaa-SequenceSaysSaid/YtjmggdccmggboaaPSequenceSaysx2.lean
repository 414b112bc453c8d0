-- written by this work with wip/mkprint2.py
import Derived.Test.YtjmggdccmggboaaPSequenceSaysx0
import Derived.Test.YtjmggdccmggboaaPSequenceSaysx1
namespace Go.Proofs.Ytjmggdccmggboaa.PSequenceSays
open Go.RowKit Go.Proofs.YtjmggdccmggboaaW.PrintWords Go.Proofs.YtjmggdccmggboaaW.PrintLast Go.Proofs.YtjmggdccmggboaaW.PrintMore
attribute [local go_sem] max2_int min2_int max_two min_two max_three min_three max_four min_four   -- for this text's walks alone
set_option linter.unusedVariables false
set_option linter.unusedSimpArgs false

/-! ### dynamoref15_Ends: function 49 -/
def dynamoref15_Ends.f (a0 : Int) : Option (Int × Int) := if a0 = 0 then (some (0, 4)) else (if a0 = 1 then (some (1, 4)) else (if a0 = 2 then (some (2, 5)) else (if a0 = 3 then (some (3, 5)) else (if a0 = 4 then (some (4, 5)) else (if a0 = 5 then (some (4, 6)) else (if a0 = 6 then (some (5, 6)) else (some ((-1), (-1)))))))))
set_option maxHeartbeats 8000000 in
set_option maxRecDepth 100000 in
theorem dynamoref15_Ends.calls (a0 : Int) (r1 : Int) (r2 : Int) (w : World) (h : dynamoref15_Ends.f a0 = some (r1, r2)) :
  Calls Try.prog 49 #[.int .i64 a0] w fun e w' => e = .returned (.tuple #[.int .i64 r1, .int .i64 r2]) ∧ Drawn0 w w' := by
 have H : (if a0 = 0 then (some (0, 4)) else (if a0 = 1 then (some (1, 4)) else (if a0 = 2 then (some (2, 5)) else (if a0 = 3 then (some (3, 5)) else (if a0 = 4 then (some (4, 5)) else (if a0 = 5 then (some (4, 6)) else (if a0 = 6 then (some (5, 6)) else (some ((-1), (-1)))))))))) = some (r1, r2) := h
 clear h
 by_cases c2 : a0 = 0
 ·rw [if_pos c2] at H
  have c2b0 : (a0 == 0) = true := beq_iff_eq.mpr c2
  have c2b1 : (a0 != 0) = false := bne_eq_false_iff_eq.mpr c2
  clear c2
  simp only [Option.some.injEq, Prod.mk.injEq] at H
  obtain ⟨rfl, rfl⟩ := H
  go_enter Try.func49, Try.ntmps49
  go_wp2
  go_ret2
  exact ⟨by first | rfl | (rw [HLAST.out]; done) | (simp [HLAST.out]; done) | (have HL_ := HLAST.out; simp_all; done) | (simp; done) | (simp [*]; done), by repeat (first | exact Drawn0.refl _ | apply Drawn0.step)⟩
 ·rw [if_neg c2] at H
  have c2b0 : (a0 == 0) = false := beq_eq_false_iff_ne.mpr c2
  have c2b1 : (a0 != 0) = true := bne_iff_ne.mpr c2
  by_cases c3 : a0 = 1
  ·rw [if_pos c3] at H
   have c3b0 : (a0 == 1) = true := beq_iff_eq.mpr c3
   have c3b1 : (a0 != 1) = false := bne_eq_false_iff_eq.mpr c3
   clear c3
   simp only [Option.some.injEq, Prod.mk.injEq] at H
   obtain ⟨rfl, rfl⟩ := H
   go_enter Try.func49, Try.ntmps49
   go_wp2
   go_ret2
   exact ⟨by first | rfl | (rw [HLAST.out]; done) | (simp [HLAST.out]; done) | (have HL_ := HLAST.out; simp_all; done) | (simp; done) | (simp [*]; done), by repeat (first | exact Drawn0.refl _ | apply Drawn0.step)⟩
  ·rw [if_neg c3] at H
   have c3b0 : (a0 == 1) = false := beq_eq_false_iff_ne.mpr c3
   have c3b1 : (a0 != 1) = true := bne_iff_ne.mpr c3
   by_cases c4 : a0 = 2
   ·rw [if_pos c4] at H
    have c4b0 : (a0 == 2) = true := beq_iff_eq.mpr c4
    have c4b1 : (a0 != 2) = false := bne_eq_false_iff_eq.mpr c4
    clear c4
    simp only [Option.some.injEq, Prod.mk.injEq] at H
    obtain ⟨rfl, rfl⟩ := H
    go_enter Try.func49, Try.ntmps49
    go_wp2
    go_ret2
    exact ⟨by first | rfl | (rw [HLAST.out]; done) | (simp [HLAST.out]; done) | (have HL_ := HLAST.out; simp_all; done) | (simp; done) | (simp [*]; done), by repeat (first | exact Drawn0.refl _ | apply Drawn0.step)⟩
   ·rw [if_neg c4] at H
    have c4b0 : (a0 == 2) = false := beq_eq_false_iff_ne.mpr c4
    have c4b1 : (a0 != 2) = true := bne_iff_ne.mpr c4
    by_cases c5 : a0 = 3
    ·rw [if_pos c5] at H
     have c5b0 : (a0 == 3) = true := beq_iff_eq.mpr c5
     have c5b1 : (a0 != 3) = false := bne_eq_false_iff_eq.mpr c5
     clear c5
     simp only [Option.some.injEq, Prod.mk.injEq] at H
     obtain ⟨rfl, rfl⟩ := H
     go_enter Try.func49, Try.ntmps49
     go_wp2
     go_ret2
     exact ⟨by first | rfl | (rw [HLAST.out]; done) | (simp [HLAST.out]; done) | (have HL_ := HLAST.out; simp_all; done) | (simp; done) | (simp [*]; done), by repeat (first | exact Drawn0.refl _ | apply Drawn0.step)⟩
    ·rw [if_neg c5] at H
     have c5b0 : (a0 == 3) = false := beq_eq_false_iff_ne.mpr c5
     have c5b1 : (a0 != 3) = true := bne_iff_ne.mpr c5
     by_cases c6 : a0 = 4
     ·rw [if_pos c6] at H
      have c6b0 : (a0 == 4) = true := beq_iff_eq.mpr c6
      have c6b1 : (a0 != 4) = false := bne_eq_false_iff_eq.mpr c6
      clear c6
      simp only [Option.some.injEq, Prod.mk.injEq] at H
      obtain ⟨rfl, rfl⟩ := H
      go_enter Try.func49, Try.ntmps49
      go_wp2
      go_ret2
      exact ⟨by first | rfl | (rw [HLAST.out]; done) | (simp [HLAST.out]; done) | (have HL_ := HLAST.out; simp_all; done) | (simp; done) | (simp [*]; done), by repeat (first | exact Drawn0.refl _ | apply Drawn0.step)⟩
     ·rw [if_neg c6] at H
      have c6b0 : (a0 == 4) = false := beq_eq_false_iff_ne.mpr c6
      have c6b1 : (a0 != 4) = true := bne_iff_ne.mpr c6
      by_cases c7 : a0 = 5
      ·rw [if_pos c7] at H
       have c7b0 : (a0 == 5) = true := beq_iff_eq.mpr c7
       have c7b1 : (a0 != 5) = false := bne_eq_false_iff_eq.mpr c7
       clear c7
       simp only [Option.some.injEq, Prod.mk.injEq] at H
       obtain ⟨rfl, rfl⟩ := H
       go_enter Try.func49, Try.ntmps49
       go_wp2
       go_ret2
       exact ⟨by first | rfl | (rw [HLAST.out]; done) | (simp [HLAST.out]; done) | (have HL_ := HLAST.out; simp_all; done) | (simp; done) | (simp [*]; done), by repeat (first | exact Drawn0.refl _ | apply Drawn0.step)⟩
      ·rw [if_neg c7] at H
       have c7b0 : (a0 == 5) = false := beq_eq_false_iff_ne.mpr c7
       have c7b1 : (a0 != 5) = true := bne_iff_ne.mpr c7
       by_cases c8 : a0 = 6
       ·rw [if_pos c8] at H
        have c8b0 : (a0 == 6) = true := beq_iff_eq.mpr c8
        have c8b1 : (a0 != 6) = false := bne_eq_false_iff_eq.mpr c8
        clear c8
        simp only [Option.some.injEq, Prod.mk.injEq] at H
        obtain ⟨rfl, rfl⟩ := H
        go_enter Try.func49, Try.ntmps49
        go_wp2
        go_ret2
        exact ⟨by first | rfl | (rw [HLAST.out]; done) | (simp [HLAST.out]; done) | (have HL_ := HLAST.out; simp_all; done) | (simp; done) | (simp [*]; done), by repeat (first | exact Drawn0.refl _ | apply Drawn0.step)⟩
       ·rw [if_neg c8] at H
        have c8b0 : (a0 == 6) = false := beq_eq_false_iff_ne.mpr c8
        have c8b1 : (a0 != 6) = true := bne_iff_ne.mpr c8
        simp only [Option.some.injEq, Prod.mk.injEq] at H
        obtain ⟨rfl, rfl⟩ := H
        go_enter Try.func49, Try.ntmps49
        go_wp2
        go_ret2
        exact ⟨by first | rfl | (rw [HLAST.out]; done) | (simp [HLAST.out]; done) | (have HL_ := HLAST.out; simp_all; done) | (simp; done) | (simp [*]; done), by repeat (first | exact Drawn0.refl _ | apply Drawn0.step)⟩

/-! ### dynamoref15_Reach: function 45 -/
mutual
def dynamoref15_Reach.j0 : Nat → Int → Int → Bool → Option (Int)
 | 0, _, _, _ => none
 | k + 1, x0, x1, x15 => if x15 = true then (some 0) else (if 0 ≤ (IntKind.u64.wrap (x1)) then (dynamoref15_Reach.l0 k x0 (shl .i64 1 (IntKind.u64.wrap (x1))) 0) else (none))
def dynamoref15_Reach.l0 : Nat → Int → Int → Int → Option (Int)
 | 0, _, _, _ => none
 | k + 1, x0, x5, x6 => if x6 < 7 then (dynamoref15_Reach.l1 k x0 x5 x6 0) else (some x5)
def dynamoref15_Reach.l1 : Nat → Int → Int → Int → Int → Option (Int)
 | 0, _, _, _, _ => none
 | k + 1, x0, x5, x6, x7 => if x7 < 7 then ((dynamoref15_Ends.f x7).bind fun bt110 => (if 0 ≤ (IntKind.u64.wrap (x7)) then (if (Go.bits .and .i64 (shr .i64 x0 (IntKind.u64.wrap (x7))) 1) = 1 then (if 0 ≤ (IntKind.u64.wrap (bt110.1)) then (if (Go.bits .and .i64 (shr .i64 x5 (IntKind.u64.wrap (bt110.1))) 1) = 1 then (if 0 ≤ (IntKind.u64.wrap (bt110.2)) then (dynamoref15_Reach.l1 k x0 (Go.bits .or .i64 (Go.bits .or .i64 x5 (shl .i64 1 (IntKind.u64.wrap (bt110.1)))) (shl .i64 1 (IntKind.u64.wrap (bt110.2)))) x6 (wrap64 (x7 + 1))) else (none)) else (if 0 ≤ (IntKind.u64.wrap (bt110.2)) then (if (Go.bits .and .i64 (shr .i64 x5 (IntKind.u64.wrap (bt110.2))) 1) = 1 then (dynamoref15_Reach.l1 k x0 (Go.bits .or .i64 (Go.bits .or .i64 x5 (shl .i64 1 (IntKind.u64.wrap (bt110.1)))) (shl .i64 1 (IntKind.u64.wrap (bt110.2)))) x6 (wrap64 (x7 + 1))) else (dynamoref15_Reach.l1 k x0 x5 x6 (wrap64 (x7 + 1)))) else (none))) else (none)) else (dynamoref15_Reach.l1 k x0 x5 x6 (wrap64 (x7 + 1)))) else (none))) else (dynamoref15_Reach.l0 k x0 x5 (wrap64 (x6 + 1)))
end
def dynamoref15_Reach.f (k : Nat) (a0 : Int) (a1 : Int) : Option (Int) := if a1 < 0 then (dynamoref15_Reach.j0 k a0 a1 true) else (dynamoref15_Reach.j0 k a0 a1 (decide (a1 > 6)))
theorem dynamoref15_Reach.mono_l : ∀ k, (∀ y0 y1 y2, LeO (dynamoref15_Reach.j0 k y0 y1 y2) (dynamoref15_Reach.j0 (k + 1) y0 y1 y2)) ∧ (∀ y0 y1 y2, LeO (dynamoref15_Reach.l0 k y0 y1 y2) (dynamoref15_Reach.l0 (k + 1) y0 y1 y2)) ∧ (∀ y0 y1 y2 y3, LeO (dynamoref15_Reach.l1 k y0 y1 y2 y3) (dynamoref15_Reach.l1 (k + 1) y0 y1 y2 y3))
 | 0 => ⟨fun _ _ _ r h => by simp [dynamoref15_Reach.j0] at h, fun _ _ _ r h => by simp [dynamoref15_Reach.l0] at h, fun _ _ _ _ r h => by simp [dynamoref15_Reach.l1] at h⟩
 | k + 1 => by
  obtain ⟨ih0, ih1, ih2⟩ := dynamoref15_Reach.mono_l k
  refine ⟨?_, ?_, ?_⟩
  ·intro y0 y1 y2
   unfold dynamoref15_Reach.j0
   repeat' first
   | (with_reducible exact ih0 _ _ _)
   | (with_reducible exact ih1 _ _ _)
   | (with_reducible exact ih2 _ _ _ _)
   | (with_reducible exact LeO.refl _)
   | (with_reducible exact LeO.none _)
   | (with_reducible refine LeO.ite ?_ ?_)
   | (with_reducible refine LeO.bind ?_ (fun _ => ?_))
   | exact ih0 _ _ _
   | exact ih1 _ _ _
   | exact ih2 _ _ _ _
   | exact LeO.none _
   | refine LeO.ite ?_ ?_
   | refine LeO.bind ?_ (fun _ => ?_)
  ·intro y0 y1 y2
   unfold dynamoref15_Reach.l0
   repeat' first
   | (with_reducible exact ih0 _ _ _)
   | (with_reducible exact ih1 _ _ _)
   | (with_reducible exact ih2 _ _ _ _)
   | (with_reducible exact LeO.refl _)
   | (with_reducible exact LeO.none _)
   | (with_reducible refine LeO.ite ?_ ?_)
   | (with_reducible refine LeO.bind ?_ (fun _ => ?_))
   | exact ih0 _ _ _
   | exact ih1 _ _ _
   | exact ih2 _ _ _ _
   | exact LeO.none _
   | refine LeO.ite ?_ ?_
   | refine LeO.bind ?_ (fun _ => ?_)
  ·intro y0 y1 y2 y3
   unfold dynamoref15_Reach.l1
   repeat' first
   | (with_reducible exact ih0 _ _ _)
   | (with_reducible exact ih1 _ _ _)
   | (with_reducible exact ih2 _ _ _ _)
   | (with_reducible exact LeO.refl _)
   | (with_reducible exact LeO.none _)
   | (with_reducible refine LeO.ite ?_ ?_)
   | (with_reducible refine LeO.bind ?_ (fun _ => ?_))
   | exact ih0 _ _ _
   | exact ih1 _ _ _
   | exact ih2 _ _ _ _
   | exact LeO.none _
   | refine LeO.ite ?_ ?_
   | refine LeO.bind ?_ (fun _ => ?_)
theorem dynamoref15_Reach.mono : ∀ a0 a1 k, LeO (dynamoref15_Reach.f k a0 a1) (dynamoref15_Reach.f (k + 1) a0 a1) := by
 intro a0 a1 k
 obtain ⟨ih0, ih1, ih2⟩ := dynamoref15_Reach.mono_l k
 unfold dynamoref15_Reach.f
 repeat' first
   | (with_reducible exact ih0 _ _ _)
   | (with_reducible exact ih1 _ _ _)
   | (with_reducible exact ih2 _ _ _ _)
   | (with_reducible exact LeO.refl _)
   | (with_reducible exact LeO.none _)
   | (with_reducible refine LeO.ite ?_ ?_)
   | (with_reducible refine LeO.bind ?_ (fun _ => ?_))
   | exact ih0 _ _ _
   | exact ih1 _ _ _
   | exact ih2 _ _ _ _
   | exact LeO.none _
   | refine LeO.ite ?_ ?_
   | refine LeO.bind ?_ (fun _ => ?_)
set_option maxHeartbeats 8000000 in
set_option maxRecDepth 100000 in
theorem dynamoref15_Reach.calls (k : Nat) (a0 : Int) (a1 : Int) (r : Int) (w : World) (h : dynamoref15_Reach.f k a0 a1 = some r) :
  Calls Try.prog 45 #[.int .i64 a0, .int .i64 a1] w fun e w' => e = .returned (.int .i64 r) ∧ Drawn0 w w' := by
 have H : (if a1 < 0 then (dynamoref15_Reach.j0 k a0 a1 true) else (dynamoref15_Reach.j0 k a0 a1 (decide (a1 > 6)))) = some r := h
 clear h
 have HC3 := Aside0.mk H
 clear H
 go_enter Try.func45, Try.ntmps45
 go_upto_region 1 with (fail)
 go_cut [15] (fun v15 wc => ∃ (kq : Nat) (x15_2 : Bool), v15 = .bool x15_2 ∧ Aside0 (dynamoref15_Reach.j0 kq a0 a1 x15_2 = some r) ∧ Aside0 (kq ≤ k) ∧ Drawn0 w wc)
 case first =>
  have H := HC3.out
  clear HC3
  by_cases c4 : a1 < 0
  ·rw [if_pos c4] at H
   have c4b0 : decide (a1 < 0) = true := decide_eq_true c4
   clear c4
   (first | rw [c4b0] | (simp only [i64_w, i32_w]; rw [c4b0]) | skip)
   have H' := Aside0.mk H
   clear H
   go_wp2
   go_meet
   case rel => exact ⟨_, (true), (by first | rfl | (simp; done) | (simp [*]; done)), H', ⟨by first | omega | exact Nat.le_refl _⟩, by repeat (first | exact Drawn0.refl _ | apply Drawn0.step)⟩
  ·rw [if_neg c4] at H
   have c4b0 : decide (a1 < 0) = false := decide_eq_false c4
   clear c4
   (first | rw [c4b0] | (simp only [i64_w, i32_w]; rw [c4b0]) | skip)
   have H' := Aside0.mk H
   clear H
   go_wp2
   go_meet
   case rel => exact ⟨_, (decide (a1 > 6)), (by first | rfl | (simp; done) | (simp [*]; done)), H', ⟨by first | omega | exact Nat.le_refl _⟩, by repeat (first | exact Drawn0.refl _ | apply Drawn0.step)⟩
 case rest =>
  clear HC3
  try clear p2
  try clear c4
  try clear c4b0
  obtain ⟨kq, x15_2, rfl, HA, HJ2, ⟨mc2, rfl⟩⟩ := hcut
  cases kq with
  | zero => exact absurd HA.out (by simp [dynamoref15_Reach.j0])
  | succ kj2 =>
   have H := HA.out
   clear HA
   simp only [dynamoref15_Reach.j0] at H
   by_cases c5 : x15_2 = true
   ·subst c5
    have H1 : (some 0) = some r := by first | (rw [if_pos rfl] at H; exact H) | exact H | rfl
    clear H
    have H := H1
    clear H1
    obtain rfl := Option.some.inj H
    go_wp2
    go_ret
    exact ⟨by first | rfl | (rw [HLAST.out]; done) | (simp [HLAST.out]; done) | (have HL_ := HLAST.out; simp_all; done) | (simp; done) | (simp [*]; done), by repeat (first | exact Drawn0.refl _ | apply Drawn0.step)⟩
   ·replace c5 := Bool.eq_false_iff.mpr c5
    subst c5
    have H1 : (if 0 ≤ (IntKind.u64.wrap (a1)) then (dynamoref15_Reach.l0 kj2 a0 (shl .i64 1 (IntKind.u64.wrap (a1))) 0) else (none)) = some r := by first | (rw [if_neg (show ¬ (false = true) by decide)] at H; exact H) | exact H | rfl
    clear H
    have H := H1
    clear H1
    obtain ⟨ji6, hji6⟩ : ∃ j_ : Int, (IntKind.u64.wrap (a1)) = j_ := ⟨_, rfl⟩
    replace H : (if 0 ≤ (ji6) then (dynamoref15_Reach.l0 kj2 a0 (shl .i64 1 (ji6)) 0) else (none)) = some r := by first | (rw [hji6] at H; exact H) | (simp only [hji6] at H ⊢; exact H)
    by_cases c7 : 0 ≤ (ji6)
    ·rw [if_pos c7] at H
     have c7b0 := eq_true c7
     have c7b1 : decide (0 ≤ (ji6)) = true := decide_eq_true c7
     clear c7
     obtain ⟨ji8, hji8⟩ : ∃ j_ : Int, (shl .i64 1 (ji6)) = j_ := ⟨_, rfl⟩
     replace H : (dynamoref15_Reach.l0 kj2 a0 ji8 0) = some r := by first | (rw [hji8] at H; exact H) | (simp only [hji8] at H ⊢; exact H)
     have hji8_ : (IntKind.i64.wrap (1 * 2 ^ min (ji6).toNat 64)) = ji8 := hji8
     have hji8z : (ji6) ≤ 64 → (IntKind.i64.wrap (1 * 2 ^ (ji6).toNat)) = ji8 := shl_small hji8
     have hji8u : (IntKind.i64.wrap (2 ^ min (ji6).toNat 64)) = ji8 := by have h_ := hji8_; rw [Int.one_mul] at h_; exact h_
     have hji8v : (ji6) ≤ 64 → (IntKind.i64.wrap (2 ^ (ji6).toNat)) = ji8 := fun hle_ => by have h_ := hji8z hle_; rw [Int.one_mul] at h_; exact h_
     have hji8y : (wrap64 (1 * 2 ^ min (ji6).toNat 64)) = ji8 := (i64_w _).symm.trans hji8_
     have hji8x : (ji6) ≤ 64 → (wrap64 (1 * 2 ^ (ji6).toNat)) = ji8 := fun h_ => (i64_w _).symm.trans (hji8z h_)
     have H' := Aside0.mk H
     clear H
     go_wp2
     go_loopg [5, 6] kj2 (fun kq v5 v6 w' => ∃ (x5_2 : Int) (x6_2 : Int), v5 = .int .i64 x5_2 ∧ v6 = .int .i64 x6_2 ∧ Aside0 (dynamoref15_Reach.l0 kq a0 x5_2 x6_2 = some r) ∧ Aside0 (kq ≤ kj2) ∧ Drawn0 w w')
     case atStart => exact ⟨(ji8), (0), (by first | rfl | (simp; done) | (simp only [← hji8] <;> (first | rfl | simp)) | (simp [*]; done)), (by first | rfl | (simp; done) | (simp [*]; done)), H', ⟨Nat.le_refl _⟩, by repeat (first | exact Drawn0.refl _ | apply Drawn0.step)⟩
     case round =>
      clear H'
      try clear c2
      try clear p2
      try clear c4
      try clear c4b0
      try clear c5
      try clear p6
      try clear c7
      try clear c7b0
      try clear c7b1
      try clear p2
      obtain ⟨x5_2, x6_2, rfl, rfl, HA, HK2, ⟨m2, rfl⟩⟩ := hrel
      cases gk with
      | zero => exact absurd HA.out (by simp [dynamoref15_Reach.l0])
      | succ k2 =>
       have H := HA.out
       clear HA
       simp only [dynamoref15_Reach.l0] at H
       by_cases c9 : x6_2 < 7
       ·rw [if_pos c9] at H
        have c9b0 : decide (x6_2 < 7) = true := decide_eq_true c9
        clear c9
        have H' := Aside0.mk H
        clear H
        go_wp2
        go_loopg [5, 7] k2 (fun kq v5 v7 w' => ∃ (x5_3 : Int) (x7_3 : Int), v5 = .int .i64 x5_3 ∧ v7 = .int .i64 x7_3 ∧ Aside0 (dynamoref15_Reach.l1 kq a0 x5_3 x6_2 x7_3 = some r) ∧ Aside0 (kq ≤ k2) ∧ Drawn0 w w')
        case atStart => exact ⟨(x5_2), (0), (by first | rfl | (simp; done) | (simp [*]; done)), (by first | rfl | (simp; done) | (simp [*]; done)), H', ⟨Nat.le_refl _⟩, by repeat (first | exact Drawn0.refl _ | apply Drawn0.step)⟩
        case round =>
         clear H'
         try clear c2
         try clear p2
         try clear c4
         try clear c4b0
         try clear c5
         try clear p6
         try clear c7
         try clear c7b0
         try clear c7b1
         try clear c9
         try clear c9b0
         try clear p2
         try clear p6
         obtain ⟨x5_3, x7_3, rfl, rfl, HA, HK3, ⟨m3, rfl⟩⟩ := hrel
         cases gk with
         | zero => exact absurd HA.out (by simp [dynamoref15_Reach.l1])
         | succ k3 =>
          have H := HA.out
          clear HA
          simp only [dynamoref15_Reach.l1] at H
          by_cases c10 : x7_3 < 7
          ·rw [if_pos c10] at H
           have c10b0 : decide (x7_3 < 7) = true := decide_eq_true c10
           clear c10
           replace H := Option.bind_eq_some_iff.mp H
           obtain ⟨⟨t110, t111⟩, A110, H⟩ := H
           replace H : (if 0 ≤ (IntKind.u64.wrap (x7_3)) then (if (Go.bits .and .i64 (shr .i64 a0 (IntKind.u64.wrap (x7_3))) 1) = 1 then (if 0 ≤ (IntKind.u64.wrap (t110)) then (if (Go.bits .and .i64 (shr .i64 x5_3 (IntKind.u64.wrap (t110))) 1) = 1 then (if 0 ≤ (IntKind.u64.wrap (t111)) then (dynamoref15_Reach.l1 k3 a0 (Go.bits .or .i64 (Go.bits .or .i64 x5_3 (shl .i64 1 (IntKind.u64.wrap (t110)))) (shl .i64 1 (IntKind.u64.wrap (t111)))) x6_2 (wrap64 (x7_3 + 1))) else (none)) else (if 0 ≤ (IntKind.u64.wrap (t111)) then (if (Go.bits .and .i64 (shr .i64 x5_3 (IntKind.u64.wrap (t111))) 1) = 1 then (dynamoref15_Reach.l1 k3 a0 (Go.bits .or .i64 (Go.bits .or .i64 x5_3 (shl .i64 1 (IntKind.u64.wrap (t110)))) (shl .i64 1 (IntKind.u64.wrap (t111)))) x6_2 (wrap64 (x7_3 + 1))) else (dynamoref15_Reach.l1 k3 a0 x5_3 x6_2 (wrap64 (x7_3 + 1)))) else (none))) else (none)) else (dynamoref15_Reach.l1 k3 a0 x5_3 x6_2 (wrap64 (x7_3 + 1)))) else (none)) = some r := H
           have A11 := Aside0.mk A110
           clear A110
           obtain ⟨ji12, hji12⟩ : ∃ j_ : Int, (IntKind.u64.wrap (x7_3)) = j_ := ⟨_, rfl⟩
           replace H : (if 0 ≤ (ji12) then (if (Go.bits .and .i64 (shr .i64 a0 (ji12)) 1) = 1 then (if 0 ≤ (IntKind.u64.wrap (t110)) then (if (Go.bits .and .i64 (shr .i64 x5_3 (IntKind.u64.wrap (t110))) 1) = 1 then (if 0 ≤ (IntKind.u64.wrap (t111)) then (dynamoref15_Reach.l1 k3 a0 (Go.bits .or .i64 (Go.bits .or .i64 x5_3 (shl .i64 1 (IntKind.u64.wrap (t110)))) (shl .i64 1 (IntKind.u64.wrap (t111)))) x6_2 (wrap64 (x7_3 + 1))) else (none)) else (if 0 ≤ (IntKind.u64.wrap (t111)) then (if (Go.bits .and .i64 (shr .i64 x5_3 (IntKind.u64.wrap (t111))) 1) = 1 then (dynamoref15_Reach.l1 k3 a0 (Go.bits .or .i64 (Go.bits .or .i64 x5_3 (shl .i64 1 (IntKind.u64.wrap (t110)))) (shl .i64 1 (IntKind.u64.wrap (t111)))) x6_2 (wrap64 (x7_3 + 1))) else (dynamoref15_Reach.l1 k3 a0 x5_3 x6_2 (wrap64 (x7_3 + 1)))) else (none))) else (none)) else (dynamoref15_Reach.l1 k3 a0 x5_3 x6_2 (wrap64 (x7_3 + 1)))) else (none)) = some r := by first | (rw [hji12] at H; exact H) | (simp only [hji12] at H ⊢; exact H)
           (try rw [hji12] at A11)
           by_cases c13 : 0 ≤ (ji12)
           ·rw [if_pos c13] at H
            have c13b0 := eq_true c13
            have c13b1 : decide (0 ≤ (ji12)) = true := decide_eq_true c13
            clear c13
            obtain ⟨ji14, hji14⟩ : ∃ j_ : Int, (shr .i64 a0 (ji12)) = j_ := ⟨_, rfl⟩
            replace H : (if (Go.bits .and .i64 (ji14) 1) = 1 then (if 0 ≤ (IntKind.u64.wrap (t110)) then (if (Go.bits .and .i64 (shr .i64 x5_3 (IntKind.u64.wrap (t110))) 1) = 1 then (if 0 ≤ (IntKind.u64.wrap (t111)) then (dynamoref15_Reach.l1 k3 a0 (Go.bits .or .i64 (Go.bits .or .i64 x5_3 (shl .i64 1 (IntKind.u64.wrap (t110)))) (shl .i64 1 (IntKind.u64.wrap (t111)))) x6_2 (wrap64 (x7_3 + 1))) else (none)) else (if 0 ≤ (IntKind.u64.wrap (t111)) then (if (Go.bits .and .i64 (shr .i64 x5_3 (IntKind.u64.wrap (t111))) 1) = 1 then (dynamoref15_Reach.l1 k3 a0 (Go.bits .or .i64 (Go.bits .or .i64 x5_3 (shl .i64 1 (IntKind.u64.wrap (t110)))) (shl .i64 1 (IntKind.u64.wrap (t111)))) x6_2 (wrap64 (x7_3 + 1))) else (dynamoref15_Reach.l1 k3 a0 x5_3 x6_2 (wrap64 (x7_3 + 1)))) else (none))) else (none)) else (dynamoref15_Reach.l1 k3 a0 x5_3 x6_2 (wrap64 (x7_3 + 1)))) = some r := by first | (rw [hji14] at H; exact H) | (simp only [hji14] at H ⊢; exact H)
            (try rw [hji14] at A11)
            have hji14_ : (a0 / 2 ^ min (ji12).toNat 64) = ji14 := hji14
            have hji14z : (ji12) ≤ 64 → (a0 / 2 ^ (ji12).toNat) = ji14 := shr_small hji14
            by_cases c15 : (Go.bits .and .i64 (ji14) 1) = 1
            ·rw [if_pos c15] at H
             have c15b0 : ((Go.bits .and .i64 (ji14) 1) == 1) = true := beq_iff_eq.mpr c15
             have c15b1 : ((Go.bits .and .i64 (ji14) 1) != 1) = false := bne_eq_false_iff_eq.mpr c15
             clear c15
             obtain ⟨ji16, hji16⟩ : ∃ j_ : Int, (IntKind.u64.wrap (t110)) = j_ := ⟨_, rfl⟩
             replace H : (if 0 ≤ (ji16) then (if (Go.bits .and .i64 (shr .i64 x5_3 (ji16)) 1) = 1 then (if 0 ≤ (IntKind.u64.wrap (t111)) then (dynamoref15_Reach.l1 k3 a0 (Go.bits .or .i64 (Go.bits .or .i64 x5_3 (shl .i64 1 (ji16))) (shl .i64 1 (IntKind.u64.wrap (t111)))) x6_2 (wrap64 (x7_3 + 1))) else (none)) else (if 0 ≤ (IntKind.u64.wrap (t111)) then (if (Go.bits .and .i64 (shr .i64 x5_3 (IntKind.u64.wrap (t111))) 1) = 1 then (dynamoref15_Reach.l1 k3 a0 (Go.bits .or .i64 (Go.bits .or .i64 x5_3 (shl .i64 1 (ji16))) (shl .i64 1 (IntKind.u64.wrap (t111)))) x6_2 (wrap64 (x7_3 + 1))) else (dynamoref15_Reach.l1 k3 a0 x5_3 x6_2 (wrap64 (x7_3 + 1)))) else (none))) else (none)) = some r := by first | (rw [hji16] at H; exact H) | (simp only [hji16] at H ⊢; exact H)
             (try rw [hji16] at A11)
             by_cases c17 : 0 ≤ (ji16)
             ·rw [if_pos c17] at H
              have c17b0 := eq_true c17
              have c17b1 : decide (0 ≤ (ji16)) = true := decide_eq_true c17
              clear c17
              obtain ⟨ji18, hji18⟩ : ∃ j_ : Int, (shr .i64 x5_3 (ji16)) = j_ := ⟨_, rfl⟩
              replace H : (if (Go.bits .and .i64 (ji18) 1) = 1 then (if 0 ≤ (IntKind.u64.wrap (t111)) then (dynamoref15_Reach.l1 k3 a0 (Go.bits .or .i64 (Go.bits .or .i64 x5_3 (shl .i64 1 (ji16))) (shl .i64 1 (IntKind.u64.wrap (t111)))) x6_2 (wrap64 (x7_3 + 1))) else (none)) else (if 0 ≤ (IntKind.u64.wrap (t111)) then (if (Go.bits .and .i64 (shr .i64 x5_3 (IntKind.u64.wrap (t111))) 1) = 1 then (dynamoref15_Reach.l1 k3 a0 (Go.bits .or .i64 (Go.bits .or .i64 x5_3 (shl .i64 1 (ji16))) (shl .i64 1 (IntKind.u64.wrap (t111)))) x6_2 (wrap64 (x7_3 + 1))) else (dynamoref15_Reach.l1 k3 a0 x5_3 x6_2 (wrap64 (x7_3 + 1)))) else (none))) = some r := by first | (rw [hji18] at H; exact H) | (simp only [hji18] at H ⊢; exact H)
              (try rw [hji18] at A11)
              have hji18_ : (x5_3 / 2 ^ min (ji16).toNat 64) = ji18 := hji18
              have hji18z : (ji16) ≤ 64 → (x5_3 / 2 ^ (ji16).toNat) = ji18 := shr_small hji18
              by_cases c19 : (Go.bits .and .i64 (ji18) 1) = 1
              ·rw [if_pos c19] at H
               have c19b0 : ((Go.bits .and .i64 (ji18) 1) == 1) = true := beq_iff_eq.mpr c19
               have c19b1 : ((Go.bits .and .i64 (ji18) 1) != 1) = false := bne_eq_false_iff_eq.mpr c19
               clear c19
               have c20b0 := eq_true (of_decide_eq_true (by first | (with_reducible assumption) | assumption) : 0 ≤ (ji16))
               obtain ⟨ji21, hji21⟩ : ∃ j_ : Int, (shl .i64 1 (ji16)) = j_ := ⟨_, rfl⟩
               replace H : (if 0 ≤ (IntKind.u64.wrap (t111)) then (dynamoref15_Reach.l1 k3 a0 (Go.bits .or .i64 (Go.bits .or .i64 x5_3 (ji21)) (shl .i64 1 (IntKind.u64.wrap (t111)))) x6_2 (wrap64 (x7_3 + 1))) else (none)) = some r := by first | (rw [hji21] at H; exact H) | (simp only [hji21] at H ⊢; exact H)
               (try rw [hji21] at A11)
               have hji21_ : (IntKind.i64.wrap (1 * 2 ^ min (ji16).toNat 64)) = ji21 := hji21
               have hji21z : (ji16) ≤ 64 → (IntKind.i64.wrap (1 * 2 ^ (ji16).toNat)) = ji21 := shl_small hji21
               have hji21u : (IntKind.i64.wrap (2 ^ min (ji16).toNat 64)) = ji21 := by have h_ := hji21_; rw [Int.one_mul] at h_; exact h_
               have hji21v : (ji16) ≤ 64 → (IntKind.i64.wrap (2 ^ (ji16).toNat)) = ji21 := fun hle_ => by have h_ := hji21z hle_; rw [Int.one_mul] at h_; exact h_
               have hji21y : (wrap64 (1 * 2 ^ min (ji16).toNat 64)) = ji21 := (i64_w _).symm.trans hji21_
               have hji21x : (ji16) ≤ 64 → (wrap64 (1 * 2 ^ (ji16).toNat)) = ji21 := fun h_ => (i64_w _).symm.trans (hji21z h_)
               obtain ⟨ji22, hji22⟩ : ∃ j_ : Int, (IntKind.u64.wrap (t111)) = j_ := ⟨_, rfl⟩
               replace H : (if 0 ≤ (ji22) then (dynamoref15_Reach.l1 k3 a0 (Go.bits .or .i64 (Go.bits .or .i64 x5_3 (ji21)) (shl .i64 1 (ji22))) x6_2 (wrap64 (x7_3 + 1))) else (none)) = some r := by first | (rw [hji22] at H; exact H) | (simp only [hji22] at H ⊢; exact H)
               (try rw [hji22] at A11)
               by_cases c23 : 0 ≤ (ji22)
               ·rw [if_pos c23] at H
                have c23b0 := eq_true c23
                have c23b1 : decide (0 ≤ (ji22)) = true := decide_eq_true c23
                clear c23
                obtain ⟨ji24, hji24⟩ : ∃ j_ : Int, (shl .i64 1 (ji22)) = j_ := ⟨_, rfl⟩
                replace H : (dynamoref15_Reach.l1 k3 a0 (Go.bits .or .i64 (Go.bits .or .i64 x5_3 (ji21)) (ji24)) x6_2 (wrap64 (x7_3 + 1))) = some r := by first | (rw [hji24] at H; exact H) | (simp only [hji24] at H ⊢; exact H)
                (try rw [hji24] at A11)
                have hji24_ : (IntKind.i64.wrap (1 * 2 ^ min (ji22).toNat 64)) = ji24 := hji24
                have hji24z : (ji22) ≤ 64 → (IntKind.i64.wrap (1 * 2 ^ (ji22).toNat)) = ji24 := shl_small hji24
                have hji24u : (IntKind.i64.wrap (2 ^ min (ji22).toNat 64)) = ji24 := by have h_ := hji24_; rw [Int.one_mul] at h_; exact h_
                have hji24v : (ji22) ≤ 64 → (IntKind.i64.wrap (2 ^ (ji22).toNat)) = ji24 := fun hle_ => by have h_ := hji24z hle_; rw [Int.one_mul] at h_; exact h_
                have hji24y : (wrap64 (1 * 2 ^ min (ji22).toNat 64)) = ji24 := (i64_w _).symm.trans hji24_
                have hji24x : (ji22) ≤ 64 → (wrap64 (1 * 2 ^ (ji22).toNat)) = ji24 := fun h_ => (i64_w _).symm.trans (hji24z h_)
                have H' := Aside0.mk H
                clear H
                go_wp2_with (first | ((with_reducible refine gate_callee (f := 49) rfl ?_); refine goesL_ (some 29) rfl rfl Try.func49 (by kernel_rfl) rfl #[.int .i64 x7_3] rfl (by (try simp only [List.map_toArray, List.map_cons, List.map_nil]); first | done | rfl | (simp only [List.length_drop, List.length_take]; rfl)) ?_; (with_reducible refine (dynamoref15_Ends.calls x7_3 t110 t111 _ A11.out).mono ?_); rintro e w' ⟨rfl, ⟨nd, rfl⟩⟩; refine ⟨_, rfl, ?_⟩))
                go_roundg k3
                case measure => have := HJ2.out; have := HK2.out; have := HK3.out; omega
                case rel => exact ⟨(Go.bits .or .i64 (Go.bits .or .i64 x5_3 (ji21)) (ji24)), (wrap64 (x7_3 + 1)), (by first | rfl | (simp; done) | (simp only [← hji21, ← hji24] <;> (first | rfl | simp)) | (simp [*]; done)), (by first | rfl | (simp; done) | (simp [*]; done)), H', ⟨by have := HJ2.out; have := HK2.out; have := HK3.out; omega⟩, by repeat (first | exact Drawn0.refl _ | apply Drawn0.step)⟩
               ·rw [if_neg c23] at H
                exact absurd H (by simp)
              ·rw [if_neg c19] at H
               have c19b0 : ((Go.bits .and .i64 (ji18) 1) == 1) = false := beq_eq_false_iff_ne.mpr c19
               have c19b1 : ((Go.bits .and .i64 (ji18) 1) != 1) = true := bne_iff_ne.mpr c19
               obtain ⟨ji25, hji25⟩ : ∃ j_ : Int, (IntKind.u64.wrap (t111)) = j_ := ⟨_, rfl⟩
               replace H : (if 0 ≤ (ji25) then (if (Go.bits .and .i64 (shr .i64 x5_3 (ji25)) 1) = 1 then (dynamoref15_Reach.l1 k3 a0 (Go.bits .or .i64 (Go.bits .or .i64 x5_3 (shl .i64 1 (ji16))) (shl .i64 1 (ji25))) x6_2 (wrap64 (x7_3 + 1))) else (dynamoref15_Reach.l1 k3 a0 x5_3 x6_2 (wrap64 (x7_3 + 1)))) else (none)) = some r := by first | (rw [hji25] at H; exact H) | (simp only [hji25] at H ⊢; exact H)
               (try rw [hji25] at A11)
               by_cases c26 : 0 ≤ (ji25)
               ·rw [if_pos c26] at H
                have c26b0 := eq_true c26
                have c26b1 : decide (0 ≤ (ji25)) = true := decide_eq_true c26
                clear c26
                obtain ⟨ji27, hji27⟩ : ∃ j_ : Int, (shr .i64 x5_3 (ji25)) = j_ := ⟨_, rfl⟩
                replace H : (if (Go.bits .and .i64 (ji27) 1) = 1 then (dynamoref15_Reach.l1 k3 a0 (Go.bits .or .i64 (Go.bits .or .i64 x5_3 (shl .i64 1 (ji16))) (shl .i64 1 (ji25))) x6_2 (wrap64 (x7_3 + 1))) else (dynamoref15_Reach.l1 k3 a0 x5_3 x6_2 (wrap64 (x7_3 + 1)))) = some r := by first | (rw [hji27] at H; exact H) | (simp only [hji27] at H ⊢; exact H)
                (try rw [hji27] at A11)
                have hji27_ : (x5_3 / 2 ^ min (ji25).toNat 64) = ji27 := hji27
                have hji27z : (ji25) ≤ 64 → (x5_3 / 2 ^ (ji25).toNat) = ji27 := shr_small hji27
                by_cases c28 : (Go.bits .and .i64 (ji27) 1) = 1
                ·rw [if_pos c28] at H
                 have c28b0 : ((Go.bits .and .i64 (ji27) 1) == 1) = true := beq_iff_eq.mpr c28
                 have c28b1 : ((Go.bits .and .i64 (ji27) 1) != 1) = false := bne_eq_false_iff_eq.mpr c28
                 clear c28
                 have c29b0 := eq_true (of_decide_eq_true (by first | (with_reducible assumption) | assumption) : 0 ≤ (ji16))
                 obtain ⟨ji30, hji30⟩ : ∃ j_ : Int, (shl .i64 1 (ji16)) = j_ := ⟨_, rfl⟩
                 replace H : (dynamoref15_Reach.l1 k3 a0 (Go.bits .or .i64 (Go.bits .or .i64 x5_3 (ji30)) (shl .i64 1 (ji25))) x6_2 (wrap64 (x7_3 + 1))) = some r := by first | (rw [hji30] at H; exact H) | (simp only [hji30] at H ⊢; exact H)
                 (try rw [hji30] at A11)
                 have hji30_ : (IntKind.i64.wrap (1 * 2 ^ min (ji16).toNat 64)) = ji30 := hji30
                 have hji30z : (ji16) ≤ 64 → (IntKind.i64.wrap (1 * 2 ^ (ji16).toNat)) = ji30 := shl_small hji30
                 have hji30u : (IntKind.i64.wrap (2 ^ min (ji16).toNat 64)) = ji30 := by have h_ := hji30_; rw [Int.one_mul] at h_; exact h_
                 have hji30v : (ji16) ≤ 64 → (IntKind.i64.wrap (2 ^ (ji16).toNat)) = ji30 := fun hle_ => by have h_ := hji30z hle_; rw [Int.one_mul] at h_; exact h_
                 have hji30y : (wrap64 (1 * 2 ^ min (ji16).toNat 64)) = ji30 := (i64_w _).symm.trans hji30_
                 have hji30x : (ji16) ≤ 64 → (wrap64 (1 * 2 ^ (ji16).toNat)) = ji30 := fun h_ => (i64_w _).symm.trans (hji30z h_)
                 have c31b0 := eq_true (of_decide_eq_true (by first | (with_reducible assumption) | assumption) : 0 ≤ (ji25))
                 obtain ⟨ji32, hji32⟩ : ∃ j_ : Int, (shl .i64 1 (ji25)) = j_ := ⟨_, rfl⟩
                 replace H : (dynamoref15_Reach.l1 k3 a0 (Go.bits .or .i64 (Go.bits .or .i64 x5_3 (ji30)) (ji32)) x6_2 (wrap64 (x7_3 + 1))) = some r := by first | (rw [hji32] at H; exact H) | (simp only [hji32] at H ⊢; exact H)
                 (try rw [hji32] at A11)
                 have hji32_ : (IntKind.i64.wrap (1 * 2 ^ min (ji25).toNat 64)) = ji32 := hji32
                 have hji32z : (ji25) ≤ 64 → (IntKind.i64.wrap (1 * 2 ^ (ji25).toNat)) = ji32 := shl_small hji32
                 have hji32u : (IntKind.i64.wrap (2 ^ min (ji25).toNat 64)) = ji32 := by have h_ := hji32_; rw [Int.one_mul] at h_; exact h_
                 have hji32v : (ji25) ≤ 64 → (IntKind.i64.wrap (2 ^ (ji25).toNat)) = ji32 := fun hle_ => by have h_ := hji32z hle_; rw [Int.one_mul] at h_; exact h_
                 have hji32y : (wrap64 (1 * 2 ^ min (ji25).toNat 64)) = ji32 := (i64_w _).symm.trans hji32_
                 have hji32x : (ji25) ≤ 64 → (wrap64 (1 * 2 ^ (ji25).toNat)) = ji32 := fun h_ => (i64_w _).symm.trans (hji32z h_)
                 have H' := Aside0.mk H
                 clear H
                 go_wp2_with (first | ((with_reducible refine gate_callee (f := 49) rfl ?_); refine goesL_ (some 29) rfl rfl Try.func49 (by kernel_rfl) rfl #[.int .i64 x7_3] rfl (by (try simp only [List.map_toArray, List.map_cons, List.map_nil]); first | done | rfl | (simp only [List.length_drop, List.length_take]; rfl)) ?_; (with_reducible refine (dynamoref15_Ends.calls x7_3 t110 t111 _ A11.out).mono ?_); rintro e w' ⟨rfl, ⟨nd, rfl⟩⟩; refine ⟨_, rfl, ?_⟩))
                 go_roundg k3
                 case measure => have := HJ2.out; have := HK2.out; have := HK3.out; omega
                 case rel => exact ⟨(Go.bits .or .i64 (Go.bits .or .i64 x5_3 (ji30)) (ji32)), (wrap64 (x7_3 + 1)), (by first | rfl | (simp; done) | (simp only [← hji30, ← hji32] <;> (first | rfl | simp)) | (simp [*]; done)), (by first | rfl | (simp; done) | (simp [*]; done)), H', ⟨by have := HJ2.out; have := HK2.out; have := HK3.out; omega⟩, by repeat (first | exact Drawn0.refl _ | apply Drawn0.step)⟩
                ·rw [if_neg c28] at H
                 have c28b0 : ((Go.bits .and .i64 (ji27) 1) == 1) = false := beq_eq_false_iff_ne.mpr c28
                 have c28b1 : ((Go.bits .and .i64 (ji27) 1) != 1) = true := bne_iff_ne.mpr c28
                 have H' := Aside0.mk H
                 clear H
                 go_wp2_with (first | ((with_reducible refine gate_callee (f := 49) rfl ?_); refine goesL_ (some 29) rfl rfl Try.func49 (by kernel_rfl) rfl #[.int .i64 x7_3] rfl (by (try simp only [List.map_toArray, List.map_cons, List.map_nil]); first | done | rfl | (simp only [List.length_drop, List.length_take]; rfl)) ?_; (with_reducible refine (dynamoref15_Ends.calls x7_3 t110 t111 _ A11.out).mono ?_); rintro e w' ⟨rfl, ⟨nd, rfl⟩⟩; refine ⟨_, rfl, ?_⟩))
                 go_roundg k3
                 case measure => have := HJ2.out; have := HK2.out; have := HK3.out; omega
                 case rel => exact ⟨(x5_3), (wrap64 (x7_3 + 1)), (by first | rfl | (simp; done) | (simp [*]; done)), (by first | rfl | (simp; done) | (simp [*]; done)), H', ⟨by have := HJ2.out; have := HK2.out; have := HK3.out; omega⟩, by repeat (first | exact Drawn0.refl _ | apply Drawn0.step)⟩
               ·rw [if_neg c26] at H
                exact absurd H (by simp)
             ·rw [if_neg c17] at H
              exact absurd H (by simp)
            ·rw [if_neg c15] at H
             have c15b0 : ((Go.bits .and .i64 (ji14) 1) == 1) = false := beq_eq_false_iff_ne.mpr c15
             have c15b1 : ((Go.bits .and .i64 (ji14) 1) != 1) = true := bne_iff_ne.mpr c15
             have H' := Aside0.mk H
             clear H
             go_wp2_with (first | ((with_reducible refine gate_callee (f := 49) rfl ?_); refine goesL_ (some 29) rfl rfl Try.func49 (by kernel_rfl) rfl #[.int .i64 x7_3] rfl (by (try simp only [List.map_toArray, List.map_cons, List.map_nil]); first | done | rfl | (simp only [List.length_drop, List.length_take]; rfl)) ?_; (with_reducible refine (dynamoref15_Ends.calls x7_3 t110 t111 _ A11.out).mono ?_); rintro e w' ⟨rfl, ⟨nd, rfl⟩⟩; refine ⟨_, rfl, ?_⟩))
             go_roundg k3
             case measure => have := HJ2.out; have := HK2.out; have := HK3.out; omega
             case rel => exact ⟨(x5_3), (wrap64 (x7_3 + 1)), (by first | rfl | (simp; done) | (simp [*]; done)), (by first | rfl | (simp; done) | (simp [*]; done)), H', ⟨by have := HJ2.out; have := HK2.out; have := HK3.out; omega⟩, by repeat (first | exact Drawn0.refl _ | apply Drawn0.step)⟩
           ·rw [if_neg c13] at H
            exact absurd H (by simp)
          ·rw [if_neg c10] at H
           have c10b0 : decide (x7_3 < 7) = false := decide_eq_false c10
           clear c10
           have H' := Aside0.mk H
           clear H
           go_wp2
           go_roundg k3
           case measure => have := HJ2.out; have := HK2.out; have := HK3.out; omega
           case rel => exact ⟨(x5_3), (wrap64 (x6_2 + 1)), (by first | rfl | (simp; done) | (simp [*]; done)), (by first | rfl | (simp; done) | (simp [*]; done)), H', ⟨by have := HJ2.out; have := HK2.out; have := HK3.out; omega⟩, by repeat (first | exact Drawn0.refl _ | apply Drawn0.step)⟩
       ·rw [if_neg c9] at H
        have c9b0 : decide (x6_2 < 7) = false := decide_eq_false c9
        clear c9
        obtain rfl := Option.some.inj H
        go_wp2
        go_ret
        exact ⟨by first | rfl | (rw [HLAST.out]; done) | (simp [HLAST.out]; done) | (have HL_ := HLAST.out; simp_all; done) | (simp; done) | (simp only [← hji6, ← hji8] <;> (first | rfl | simp)) | (simp [*]; done), by repeat (first | exact Drawn0.refl _ | apply Drawn0.step)⟩
    ·rw [if_neg c7] at H
     exact absurd H (by simp)

/-! ### dynamoref15_Joined: function 36 -/
def dynamoref15_Joined.l0 : Nat → Int → Int → Option (Bool)
 | 0, _, _ => none
 | k + 1, x0, x3 => if x3 < 4 then ((dynamoref15_Reach.f k x0 x3).bind fun t112 => ((dynamoref15_bits.f k (Go.bits .and .i64 t112 15)).bind fun t113 => (if t113 > 1 then (some true) else (dynamoref15_Joined.l0 k x0 (wrap64 (x3 + 1)))))) else (some false)
def dynamoref15_Joined.f (k : Nat) (a0 : Int) : Option (Bool) := dynamoref15_Joined.l0 k a0 0
theorem dynamoref15_Joined.mono_l : ∀ k, (∀ y0 y1, LeO (dynamoref15_Joined.l0 k y0 y1) (dynamoref15_Joined.l0 (k + 1) y0 y1))
 | 0 => fun _ _ r h => by simp [dynamoref15_Joined.l0] at h
 | k + 1 => by
  have ih0 := dynamoref15_Joined.mono_l k
  ·intro y0 y1
   unfold dynamoref15_Joined.l0
   repeat' first
   | (with_reducible exact ih0 _ _)
   | (with_reducible exact dynamoref15_Reach.mono _ _ _)
   | (with_reducible exact dynamoref15_bits.mono _ _)
   | (with_reducible exact LeO.refl _)
   | (with_reducible exact LeO.none _)
   | (with_reducible refine LeO.ite ?_ ?_)
   | (with_reducible refine LeO.bind ?_ (fun _ => ?_))
   | exact ih0 _ _
   | exact dynamoref15_Reach.mono _ _ _
   | exact dynamoref15_bits.mono _ _
   | exact LeO.none _
   | refine LeO.ite ?_ ?_
   | refine LeO.bind ?_ (fun _ => ?_)
theorem dynamoref15_Joined.mono : ∀ a0 k, LeO (dynamoref15_Joined.f k a0) (dynamoref15_Joined.f (k + 1) a0) := by
 intro a0 k
 have ih0 := dynamoref15_Joined.mono_l k
 unfold dynamoref15_Joined.f
 repeat' first
   | (with_reducible exact ih0 _ _)
   | (with_reducible exact dynamoref15_Reach.mono _ _ _)
   | (with_reducible exact dynamoref15_bits.mono _ _)
   | (with_reducible exact LeO.refl _)
   | (with_reducible exact LeO.none _)
   | (with_reducible refine LeO.ite ?_ ?_)
   | (with_reducible refine LeO.bind ?_ (fun _ => ?_))
   | exact ih0 _ _
   | exact dynamoref15_Reach.mono _ _ _
   | exact dynamoref15_bits.mono _ _
   | exact LeO.none _
   | refine LeO.ite ?_ ?_
   | refine LeO.bind ?_ (fun _ => ?_)
set_option maxHeartbeats 8000000 in
set_option maxRecDepth 100000 in
theorem dynamoref15_Joined.calls (k : Nat) (a0 : Int) (r : Bool) (w : World) (h : dynamoref15_Joined.f k a0 = some r) :
  Calls Try.prog 36 #[.int .i64 a0] w fun e w' => e = .returned (.bool r) ∧ Drawn0 w w' := by
 have H : (dynamoref15_Joined.l0 k a0 0) = some r := h
 clear h
 have H' := Aside0.mk H
 clear H
 go_enter Try.func36, Try.ntmps36
 go_wp2
 go_loopg [3] k (fun kq v3 w' => ∃ (x3_1 : Int), v3 = .int .i64 x3_1 ∧ Aside0 (dynamoref15_Joined.l0 kq a0 x3_1 = some r) ∧ Aside0 (kq ≤ k) ∧ Drawn0 w w')
 case atStart => exact ⟨(0), (by first | rfl | (simp; done) | (simp [*]; done)), H', ⟨Nat.le_refl _⟩, by repeat (first | exact Drawn0.refl _ | apply Drawn0.step)⟩
 case round =>
  clear H'
  obtain ⟨x3_1, rfl, HA, HK1, ⟨m1, rfl⟩⟩ := hrel
  cases gk with
  | zero => exact absurd HA.out (by simp [dynamoref15_Joined.l0])
  | succ k1 =>
   have H := HA.out
   clear HA
   simp only [dynamoref15_Joined.l0] at H
   by_cases c2 : x3_1 < 4
   ·rw [if_pos c2] at H
    have c2b0 : decide (x3_1 < 4) = true := decide_eq_true c2
    clear c2
    replace H := Option.bind_eq_some_iff.mp H
    obtain ⟨t112, A30, H⟩ := H
    replace H : ((dynamoref15_bits.f k1 (Go.bits .and .i64 t112 15)).bind fun t113 => (if t113 > 1 then (some true) else (dynamoref15_Joined.l0 k1 a0 (wrap64 (x3_1 + 1))))) = some r := H
    have A3 := Aside0.mk A30
    clear A30
    replace H := Option.bind_eq_some_iff.mp H
    obtain ⟨t113, A40, H⟩ := H
    replace H : (if t113 > 1 then (some true) else (dynamoref15_Joined.l0 k1 a0 (wrap64 (x3_1 + 1)))) = some r := H
    have A4 := Aside0.mk A40
    clear A40
    by_cases c5 : t113 > 1
    ·rw [if_pos c5] at H
     have c5b0 : decide (1 < t113) = true := decide_eq_true c5
     clear c5
     obtain rfl := Option.some.inj H
     go_wp2_with (first | ((with_reducible refine gate_callee (f := 45) rfl ?_); refine goesL_ (some 10) rfl rfl Try.func45 (by kernel_rfl) rfl #[.int .i64 a0, .int .i64 x3_1] rfl (by (try simp only [List.map_toArray, List.map_cons, List.map_nil]); first | done | rfl | (simp only [List.length_drop, List.length_take]; rfl)) ?_; (with_reducible refine (dynamoref15_Reach.calls k1 a0 x3_1 t112 _ A3.out).mono ?_); rintro e w' ⟨rfl, ⟨nd, rfl⟩⟩; refine ⟨_, rfl, ?_⟩) | ((with_reducible refine gate_callee (f := 44) rfl ?_); refine goesL_ (some 12) rfl rfl Try.func44 (by kernel_rfl) rfl #[.int .i64 (Go.bits .and .i64 t112 15)] rfl (by (try simp only [List.map_toArray, List.map_cons, List.map_nil]); first | done | rfl | (simp only [List.length_drop, List.length_take]; rfl)) ?_; (with_reducible refine (dynamoref15_bits.calls k1 (Go.bits .and .i64 t112 15) t113 _ A4.out).mono ?_); rintro e w' ⟨rfl, ⟨nd, rfl⟩⟩; refine ⟨_, rfl, ?_⟩))
     go_ret
     exact ⟨by first | rfl | (rw [HLAST.out]; done) | (simp [HLAST.out]; done) | (have HL_ := HLAST.out; simp_all; done) | (simp; done) | (simp [*]; done), by repeat (first | exact Drawn0.refl _ | apply Drawn0.step)⟩
    ·rw [if_neg c5] at H
     have c5b0 : decide (1 < t113) = false := decide_eq_false c5
     clear c5
     have H' := Aside0.mk H
     clear H
     go_wp2_with (first | ((with_reducible refine gate_callee (f := 45) rfl ?_); refine goesL_ (some 10) rfl rfl Try.func45 (by kernel_rfl) rfl #[.int .i64 a0, .int .i64 x3_1] rfl (by (try simp only [List.map_toArray, List.map_cons, List.map_nil]); first | done | rfl | (simp only [List.length_drop, List.length_take]; rfl)) ?_; (with_reducible refine (dynamoref15_Reach.calls k1 a0 x3_1 t112 _ A3.out).mono ?_); rintro e w' ⟨rfl, ⟨nd, rfl⟩⟩; refine ⟨_, rfl, ?_⟩) | ((with_reducible refine gate_callee (f := 44) rfl ?_); refine goesL_ (some 12) rfl rfl Try.func44 (by kernel_rfl) rfl #[.int .i64 (Go.bits .and .i64 t112 15)] rfl (by (try simp only [List.map_toArray, List.map_cons, List.map_nil]); first | done | rfl | (simp only [List.length_drop, List.length_take]; rfl)) ?_; (with_reducible refine (dynamoref15_bits.calls k1 (Go.bits .and .i64 t112 15) t113 _ A4.out).mono ?_); rintro e w' ⟨rfl, ⟨nd, rfl⟩⟩; refine ⟨_, rfl, ?_⟩))
     go_roundg k1
     case measure => have := HK1.out; omega
     case rel => exact ⟨(wrap64 (x3_1 + 1)), (by first | rfl | (simp; done) | (simp [*]; done)), H', ⟨by have := HK1.out; omega⟩, by repeat (first | exact Drawn0.refl _ | apply Drawn0.step)⟩
   ·rw [if_neg c2] at H
    have c2b0 : decide (x3_1 < 4) = false := decide_eq_false c2
    clear c2
    obtain rfl := Option.some.inj H
    go_wp2
    go_ret
    exact ⟨by first | rfl | (rw [HLAST.out]; done) | (simp [HLAST.out]; done) | (have HL_ := HLAST.out; simp_all; done) | (simp; done) | (simp [*]; done), by repeat (first | exact Drawn0.refl _ | apply Drawn0.step)⟩

/-! ### dynamoref15_Safe: function 28 -/
def dynamoref15_Safe.f (k : Nat) (a0 : Int) (a1 : Int) (a2 : Int) : Option (Bool) := if (Go.bits .andNot .i64 a2 a0) = 0 then (some true) else ((dynamoref15_Joined.f k (Go.bits .or .i64 a2 a1)).bind fun t114 => (some (!t114)))
theorem dynamoref15_Safe.mono : ∀ a0 a1 a2 k, LeO (dynamoref15_Safe.f k a0 a1 a2) (dynamoref15_Safe.f (k + 1) a0 a1 a2) := by
 intro a0 a1 a2 k
 unfold dynamoref15_Safe.f
 repeat' first
   | (with_reducible exact dynamoref15_Joined.mono _ _)
   | (with_reducible exact LeO.refl _)
   | (with_reducible exact LeO.none _)
   | (with_reducible refine LeO.ite ?_ ?_)
   | (with_reducible refine LeO.bind ?_ (fun _ => ?_))
   | exact dynamoref15_Joined.mono _ _
   | exact LeO.none _
   | refine LeO.ite ?_ ?_
   | refine LeO.bind ?_ (fun _ => ?_)
set_option maxHeartbeats 8000000 in
set_option maxRecDepth 100000 in
theorem dynamoref15_Safe.calls (k : Nat) (a0 : Int) (a1 : Int) (a2 : Int) (r : Bool) (w : World) (h : dynamoref15_Safe.f k a0 a1 a2 = some r) :
  Calls Try.prog 28 #[.int .i64 a0, .int .i64 a1, .int .i64 a2] w fun e w' => e = .returned (.bool r) ∧ Drawn0 w w' := by
 have H : (if (Go.bits .andNot .i64 a2 a0) = 0 then (some true) else ((dynamoref15_Joined.f k (Go.bits .or .i64 a2 a1)).bind fun t114 => (some (!t114)))) = some r := h
 clear h
 by_cases c4 : (Go.bits .andNot .i64 a2 a0) = 0
 ·rw [if_pos c4] at H
  have c4b0 : ((Go.bits .andNot .i64 a2 a0) == 0) = true := beq_iff_eq.mpr c4
  have c4b1 : ((Go.bits .andNot .i64 a2 a0) != 0) = false := bne_eq_false_iff_eq.mpr c4
  clear c4
  obtain rfl := Option.some.inj H
  go_enter Try.func28, Try.ntmps28
  go_wp2
  go_ret
  exact ⟨by first | rfl | (rw [HLAST.out]; done) | (simp [HLAST.out]; done) | (have HL_ := HLAST.out; simp_all; done) | (simp; done) | (simp [*]; done), by repeat (first | exact Drawn0.refl _ | apply Drawn0.step)⟩
 ·rw [if_neg c4] at H
  have c4b0 : ((Go.bits .andNot .i64 a2 a0) == 0) = false := beq_eq_false_iff_ne.mpr c4
  have c4b1 : ((Go.bits .andNot .i64 a2 a0) != 0) = true := bne_iff_ne.mpr c4
  replace H := Option.bind_eq_some_iff.mp H
  obtain ⟨t114, A50, H⟩ := H
  replace H : (some (!t114)) = some r := H
  have A5 := Aside0.mk A50
  clear A50
  obtain rfl := Option.some.inj H
  go_enter Try.func28, Try.ntmps28
  go_wp2_with (first | (go_at_call 36; (with_reducible refine (dynamoref15_Joined.calls k (Go.bits .or .i64 a2 a1) t114 _ A5.out).mono ?_); rintro e w' ⟨rfl, ⟨nd, rfl⟩⟩))
  go_ret
  exact ⟨by first | rfl | (rw [HLAST.out]; done) | (simp [HLAST.out]; done) | (have HL_ := HLAST.out; simp_all; done) | (simp; done) | (simp [*]; done), by repeat (first | exact Drawn0.refl _ | apply Drawn0.step)⟩

/-! ### dynamolaw23_SequenceSays: function 9 -/
def dynamolaw23_SequenceSays.f (k : Nat) (a0 : Int) (a1 : Int) (a2 : Int) : Option (Bool) := (dynamolaw23_first.f).bind fun t115 => (if t115 = true then ((dynamoworld_Number.f a0 128).bind fun t116 => ((dynamoworld_Number.f a1 128).bind fun t117 => ((dynamoworld_Number.f a2 128).bind fun t118 => ((sequence_Next.f t116 t117 t118).bind fun t119 => ((dynamoref15_Next.f t116 t117 t118).bind fun t120 => (if t119 = t120 then ((sequence_Safe.f k t116 t117 t118).bind fun t121 => ((dynamoref15_Safe.f k t116 t117 t118).bind fun t122 => (some (t121 == t122)))) else (some false))))))) else (some false))
theorem dynamolaw23_SequenceSays.mono : ∀ a0 a1 a2 k, LeO (dynamolaw23_SequenceSays.f k a0 a1 a2) (dynamolaw23_SequenceSays.f (k + 1) a0 a1 a2) := by
 intro a0 a1 a2 k
 unfold dynamolaw23_SequenceSays.f
 repeat' first
   | (with_reducible exact dynamoref15_Safe.mono _ _ _ _)
   | (with_reducible exact sequence_Safe.mono _ _ _ _)
   | (with_reducible exact LeO.refl _)
   | (with_reducible exact LeO.none _)
   | (with_reducible refine LeO.ite ?_ ?_)
   | (with_reducible refine LeO.bind ?_ (fun _ => ?_))
   | exact dynamoref15_Safe.mono _ _ _ _
   | exact sequence_Safe.mono _ _ _ _
   | exact LeO.none _
   | refine LeO.ite ?_ ?_
   | refine LeO.bind ?_ (fun _ => ?_)
set_option maxHeartbeats 8000000 in
set_option maxRecDepth 100000 in
theorem dynamolaw23_SequenceSays.calls (k : Nat) (a0 : Int) (a1 : Int) (a2 : Int) (w : World) (h : dynamolaw23_SequenceSays.f k a0 a1 a2 = some true) :
  Calls Try.prog 9 #[.int .i64 a0, .int .i64 a1, .int .i64 a2] w fun e w' => e = .returned (.bool true) ∧ Drawn0 w w' := by
 have H : ((dynamolaw23_first.f).bind fun t115 => (if t115 = true then ((dynamoworld_Number.f a0 128).bind fun t116 => ((dynamoworld_Number.f a1 128).bind fun t117 => ((dynamoworld_Number.f a2 128).bind fun t118 => ((sequence_Next.f t116 t117 t118).bind fun t119 => ((dynamoref15_Next.f t116 t117 t118).bind fun t120 => (if t119 = t120 then ((sequence_Safe.f k t116 t117 t118).bind fun t121 => ((dynamoref15_Safe.f k t116 t117 t118).bind fun t122 => (some (t121 == t122)))) else (some false))))))) else (some false))) = some true := h
 clear h
 replace H := Option.bind_eq_some_iff.mp H
 obtain ⟨t115, A40, H⟩ := H
 replace H : (if t115 = true then ((dynamoworld_Number.f a0 128).bind fun t116 => ((dynamoworld_Number.f a1 128).bind fun t117 => ((dynamoworld_Number.f a2 128).bind fun t118 => ((sequence_Next.f t116 t117 t118).bind fun t119 => ((dynamoref15_Next.f t116 t117 t118).bind fun t120 => (if t119 = t120 then ((sequence_Safe.f k t116 t117 t118).bind fun t121 => ((dynamoref15_Safe.f k t116 t117 t118).bind fun t122 => (some (t121 == t122)))) else (some false))))))) else (some false)) = some true := H
 have A4 := Aside0.mk A40
 clear A40
 by_cases c5 : t115 = true
 ·subst c5
  have H1 : ((dynamoworld_Number.f a0 128).bind fun t116 => ((dynamoworld_Number.f a1 128).bind fun t117 => ((dynamoworld_Number.f a2 128).bind fun t118 => ((sequence_Next.f t116 t117 t118).bind fun t119 => ((dynamoref15_Next.f t116 t117 t118).bind fun t120 => (if t119 = t120 then ((sequence_Safe.f k t116 t117 t118).bind fun t121 => ((dynamoref15_Safe.f k t116 t117 t118).bind fun t122 => (some (t121 == t122)))) else (some false))))))) = some true := by first | (rw [if_pos rfl] at H; exact H) | exact H | rfl
  clear H
  have H := H1
  clear H1
  replace H := Option.bind_eq_some_iff.mp H
  obtain ⟨t116, A60, H⟩ := H
  replace H : ((dynamoworld_Number.f a1 128).bind fun t117 => ((dynamoworld_Number.f a2 128).bind fun t118 => ((sequence_Next.f t116 t117 t118).bind fun t119 => ((dynamoref15_Next.f t116 t117 t118).bind fun t120 => (if t119 = t120 then ((sequence_Safe.f k t116 t117 t118).bind fun t121 => ((dynamoref15_Safe.f k t116 t117 t118).bind fun t122 => (some (t121 == t122)))) else (some false)))))) = some true := H
  have A6 := Aside0.mk A60
  clear A60
  replace H := Option.bind_eq_some_iff.mp H
  obtain ⟨t117, A70, H⟩ := H
  replace H : ((dynamoworld_Number.f a2 128).bind fun t118 => ((sequence_Next.f t116 t117 t118).bind fun t119 => ((dynamoref15_Next.f t116 t117 t118).bind fun t120 => (if t119 = t120 then ((sequence_Safe.f k t116 t117 t118).bind fun t121 => ((dynamoref15_Safe.f k t116 t117 t118).bind fun t122 => (some (t121 == t122)))) else (some false))))) = some true := H
  have A7 := Aside0.mk A70
  clear A70
  replace H := Option.bind_eq_some_iff.mp H
  obtain ⟨t118, A80, H⟩ := H
  replace H : ((sequence_Next.f t116 t117 t118).bind fun t119 => ((dynamoref15_Next.f t116 t117 t118).bind fun t120 => (if t119 = t120 then ((sequence_Safe.f k t116 t117 t118).bind fun t121 => ((dynamoref15_Safe.f k t116 t117 t118).bind fun t122 => (some (t121 == t122)))) else (some false)))) = some true := H
  have A8 := Aside0.mk A80
  clear A80
  replace H := Option.bind_eq_some_iff.mp H
  obtain ⟨t119, A90, H⟩ := H
  replace H : ((dynamoref15_Next.f t116 t117 t118).bind fun t120 => (if t119 = t120 then ((sequence_Safe.f k t116 t117 t118).bind fun t121 => ((dynamoref15_Safe.f k t116 t117 t118).bind fun t122 => (some (t121 == t122)))) else (some false))) = some true := H
  have A9 := Aside0.mk A90
  clear A90
  replace H := Option.bind_eq_some_iff.mp H
  obtain ⟨t120, A100, H⟩ := H
  replace H : (if t119 = t120 then ((sequence_Safe.f k t116 t117 t118).bind fun t121 => ((dynamoref15_Safe.f k t116 t117 t118).bind fun t122 => (some (t121 == t122)))) else (some false)) = some true := H
  have A10 := Aside0.mk A100
  clear A100
  by_cases c11 : t119 = t120
  ·rw [if_pos c11] at H
   have c11b0 : (t119 == t120) = true := beq_iff_eq.mpr c11
   have c11b1 : (t119 != t120) = false := bne_eq_false_iff_eq.mpr c11
   clear c11
   replace H := Option.bind_eq_some_iff.mp H
   obtain ⟨t121, A120, H⟩ := H
   replace H : ((dynamoref15_Safe.f k t116 t117 t118).bind fun t122 => (some (t121 == t122))) = some true := H
   have A12 := Aside0.mk A120
   clear A120
   replace H := Option.bind_eq_some_iff.mp H
   obtain ⟨t122, A130, H⟩ := H
   replace H : (some (t121 == t122)) = some true := H
   have A13 := Aside0.mk A130
   clear A130
   have HLAST := Aside0.mk (Option.some.inj H)
   clear H
   go_enter Try.func9, Try.ntmps9
   go_wp2_with (first | ((with_reducible refine gate_callee (f := 24) rfl ?_); refine goesL_ (some 8) rfl rfl Try.func24 (by kernel_rfl) rfl #[] rfl (by (try simp only [List.map_toArray, List.map_cons, List.map_nil]); first | done | rfl | (simp only [List.length_drop, List.length_take]; rfl)) ?_; (with_reducible refine (dynamolaw23_first.calls  true _ A4.out).mono ?_); rintro e w' ⟨rfl, ⟨nd, rfl⟩⟩; refine ⟨_, rfl, ?_⟩) | ((with_reducible refine gate_callee (f := 22) rfl ?_); refine goesL_ (some 12) rfl rfl Try.func22 (by kernel_rfl) rfl #[.int .i64 a0, .int .i64 128] rfl (by (try simp only [List.map_toArray, List.map_cons, List.map_nil]); first | done | rfl | (simp only [List.length_drop, List.length_take]; rfl)) ?_; (with_reducible refine (dynamoworld_Number.calls a0 128 t116 _ A6.out).mono ?_); rintro e w' ⟨rfl, ⟨nd, rfl⟩⟩; refine ⟨_, rfl, ?_⟩) | ((with_reducible refine gate_callee (f := 22) rfl ?_); refine goesL_ (some 14) rfl rfl Try.func22 (by kernel_rfl) rfl #[.int .i64 a1, .int .i64 128] rfl (by (try simp only [List.map_toArray, List.map_cons, List.map_nil]); first | done | rfl | (simp only [List.length_drop, List.length_take]; rfl)) ?_; (with_reducible refine (dynamoworld_Number.calls a1 128 t117 _ A7.out).mono ?_); rintro e w' ⟨rfl, ⟨nd, rfl⟩⟩; refine ⟨_, rfl, ?_⟩) | ((with_reducible refine gate_callee (f := 22) rfl ?_); refine goesL_ (some 16) rfl rfl Try.func22 (by kernel_rfl) rfl #[.int .i64 a2, .int .i64 128] rfl (by (try simp only [List.map_toArray, List.map_cons, List.map_nil]); first | done | rfl | (simp only [List.length_drop, List.length_take]; rfl)) ?_; (with_reducible refine (dynamoworld_Number.calls a2 128 t118 _ A8.out).mono ?_); rintro e w' ⟨rfl, ⟨nd, rfl⟩⟩; refine ⟨_, rfl, ?_⟩) | (go_at_call 25; (with_reducible refine (sequence_Next.calls t116 t117 t118 t119 _ A9.out).mono ?_); rintro e w' ⟨rfl, ⟨nd, rfl⟩⟩) | (go_at_call 26; (with_reducible refine (dynamoref15_Next.calls t116 t117 t118 t120 _ A10.out).mono ?_); rintro e w' ⟨rfl, ⟨nd, rfl⟩⟩) | (go_at_call 27; (with_reducible refine (sequence_Safe.calls k t116 t117 t118 t121 _ A12.out).mono ?_); rintro e w' ⟨rfl, ⟨nd, rfl⟩⟩) | (go_at_call 28; (with_reducible refine (dynamoref15_Safe.calls k t116 t117 t118 t122 _ A13.out).mono ?_); rintro e w' ⟨rfl, ⟨nd, rfl⟩⟩))
   all_goals (try go_ret)
   all_goals first | (exfalso; simp_all; done) | exact ⟨by first | rfl | (rw [HLAST.out]; done) | (simp [HLAST.out]; done) | (have HL_ := HLAST.out; simp_all; done) | (simp; done) | (simp [*]; done), by repeat (first | exact Drawn0.refl _ | apply Drawn0.step)⟩
  ·rw [if_neg c11] at H
   have c11b0 : (t119 == t120) = false := beq_eq_false_iff_ne.mpr c11
   have c11b1 : (t119 != t120) = true := bne_iff_ne.mpr c11
   exact absurd H (by simp)
 ·replace c5 := Bool.eq_false_iff.mpr c5
  subst c5
  have H1 : (some false) = some true := by first | (rw [if_neg (show ¬ (false = true) by decide)] at H; exact H) | exact H | rfl
  clear H
  have H := H1
  clear H1
  exact absurd H (by simp)

/-- THE ONE PURE STATEMENT of dynamolaw23_SequenceSays: yours. -/
def dynamolaw23_SequenceSays.Pure : Prop := ∀ (a0 : Int) (a1 : Int) (a2 : Int), (Lit.int .i64 a0).wf = true → (Lit.int .i64 a1).wf = true → (Lit.int .i64 a2).wf = true → ∃ k, dynamolaw23_SequenceSays.f k a0 a1 a2 = some true
theorem dynamolaw23_SequenceSays.walk (P : dynamolaw23_SequenceSays.Pure) (a0 : Int) (a1 : Int) (a2 : Int) (w : World) (w0 : (Lit.int .i64 a0).wf = true) (w1 : (Lit.int .i64 a1).wf = true) (w2 : (Lit.int .i64 a2).wf = true) :
  Calls Try.prog 9 #[.int .i64 a0, .int .i64 a1, .int .i64 a2] w fun e w' => e = .returned (.bool true) ∧ Below w.heap.size w w' := by
 obtain ⟨k, h⟩ := P a0 a1 a2 w0 w1 w2
 refine (dynamolaw23_SequenceSays.calls k a0 a1 a2 w h).mono ?_
 rintro e w' ⟨rfl, hd⟩
 exact ⟨rfl, hd.below⟩

end Go.Proofs.Ytjmggdccmggboaa.PSequenceSays
