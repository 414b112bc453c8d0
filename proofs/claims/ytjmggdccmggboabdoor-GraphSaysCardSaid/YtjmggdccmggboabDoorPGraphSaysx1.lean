-- written by this work with wip/mkprint2.py
import Derived.Test.YtjmggdccmggboabDoorPGraphSaysx0
namespace Go.Proofs.YtjmggdccmggboabDoor.PGraphSays
open Go.RowKit Go.Proofs.YtjmggdccmggboabDoorW.PrintWords Go.Proofs.YtjmggdccmggboabDoorW.PrintLast Go.Proofs.YtjmggdccmggboabDoorW.PrintMore
attribute [local go_sem] max2_int min2_int max_two min_two max_three min_three max_four min_four   -- for this text's walks alone
set_option linter.unusedVariables false
set_option linter.unusedSimpArgs false
open Go.Proofs.YtjmggdccmggboabDoor.Tz

/-! ### graph_Ends: function 17 -/
def graph_Ends.f (a0 : Int) : Option (Int × Int) := if a0 = 0 then (some (0, 4)) else (if a0 = 1 then (some (1, 4)) else (if a0 = 2 then (some (2, 5)) else (if a0 = 3 then (some (3, 5)) else (if a0 = 4 then (some (4, 5)) else (if a0 = 5 then (some (4, 6)) else (if a0 = 6 then (some (5, 6)) else (some ((-1), (-1)))))))))
set_option maxHeartbeats 8000000 in
set_option maxRecDepth 100000 in
theorem graph_Ends.calls (a0 : Int) (r1 : Int) (r2 : Int) (w : World) (h : graph_Ends.f a0 = some (r1, r2)) :
  Calls Tryd.prog 17 #[.int .i64 a0] w fun e w' => e = .returned (.tuple #[.int .i64 r1, .int .i64 r2]) ∧ Drawn0 w w' := by
 have H : (if a0 = 0 then (some (0, 4)) else (if a0 = 1 then (some (1, 4)) else (if a0 = 2 then (some (2, 5)) else (if a0 = 3 then (some (3, 5)) else (if a0 = 4 then (some (4, 5)) else (if a0 = 5 then (some (4, 6)) else (if a0 = 6 then (some (5, 6)) else (some ((-1), (-1)))))))))) = some (r1, r2) := h
 clear h
 by_cases c2 : a0 = 0
 ·rw [if_pos c2] at H
  have c2b0 : (a0 == 0) = true := beq_iff_eq.mpr c2
  have c2b1 : (a0 != 0) = false := bne_eq_false_iff_eq.mpr c2
  clear c2
  simp only [Option.some.injEq, Prod.mk.injEq] at H
  obtain ⟨rfl, rfl⟩ := H
  go_enter Tryd.func17, Tryd.ntmps17
  go_wp2
  go_ret2
  exact ⟨by first | rfl | (rw [HLAST.out]; done) | (simp [HLAST.out]; done) | (have HL_ := HLAST.out; simp_all; done) | (simp; done) | (simp [*]; done), by repeat (first | exact Drawn0.refl _ | apply Drawn0.step)⟩
 ·rw [if_neg c2] at H
  have c2b0 : (a0 == 0) = false := beq_eq_false_iff_ne.mpr c2
  have c2b1 : (a0 != 0) = true := bne_iff_ne.mpr c2
  by_cases c3 : a0 = 1
  ·rw [if_pos c3] at H
   have c3b0 : (a0 == 1) = true := beq_iff_eq.mpr c3
   have c3b1 : (a0 != 1) = false := bne_eq_false_iff_eq.mpr c3
   clear c3
   simp only [Option.some.injEq, Prod.mk.injEq] at H
   obtain ⟨rfl, rfl⟩ := H
   go_enter Tryd.func17, Tryd.ntmps17
   go_wp2
   go_ret2
   exact ⟨by first | rfl | (rw [HLAST.out]; done) | (simp [HLAST.out]; done) | (have HL_ := HLAST.out; simp_all; done) | (simp; done) | (simp [*]; done), by repeat (first | exact Drawn0.refl _ | apply Drawn0.step)⟩
  ·rw [if_neg c3] at H
   have c3b0 : (a0 == 1) = false := beq_eq_false_iff_ne.mpr c3
   have c3b1 : (a0 != 1) = true := bne_iff_ne.mpr c3
   by_cases c4 : a0 = 2
   ·rw [if_pos c4] at H
    have c4b0 : (a0 == 2) = true := beq_iff_eq.mpr c4
    have c4b1 : (a0 != 2) = false := bne_eq_false_iff_eq.mpr c4
    clear c4
    simp only [Option.some.injEq, Prod.mk.injEq] at H
    obtain ⟨rfl, rfl⟩ := H
    go_enter Tryd.func17, Tryd.ntmps17
    go_wp2
    go_ret2
    exact ⟨by first | rfl | (rw [HLAST.out]; done) | (simp [HLAST.out]; done) | (have HL_ := HLAST.out; simp_all; done) | (simp; done) | (simp [*]; done), by repeat (first | exact Drawn0.refl _ | apply Drawn0.step)⟩
   ·rw [if_neg c4] at H
    have c4b0 : (a0 == 2) = false := beq_eq_false_iff_ne.mpr c4
    have c4b1 : (a0 != 2) = true := bne_iff_ne.mpr c4
    by_cases c5 : a0 = 3
    ·rw [if_pos c5] at H
     have c5b0 : (a0 == 3) = true := beq_iff_eq.mpr c5
     have c5b1 : (a0 != 3) = false := bne_eq_false_iff_eq.mpr c5
     clear c5
     simp only [Option.some.injEq, Prod.mk.injEq] at H
     obtain ⟨rfl, rfl⟩ := H
     go_enter Tryd.func17, Tryd.ntmps17
     go_wp2
     go_ret2
     exact ⟨by first | rfl | (rw [HLAST.out]; done) | (simp [HLAST.out]; done) | (have HL_ := HLAST.out; simp_all; done) | (simp; done) | (simp [*]; done), by repeat (first | exact Drawn0.refl _ | apply Drawn0.step)⟩
    ·rw [if_neg c5] at H
     have c5b0 : (a0 == 3) = false := beq_eq_false_iff_ne.mpr c5
     have c5b1 : (a0 != 3) = true := bne_iff_ne.mpr c5
     by_cases c6 : a0 = 4
     ·rw [if_pos c6] at H
      have c6b0 : (a0 == 4) = true := beq_iff_eq.mpr c6
      have c6b1 : (a0 != 4) = false := bne_eq_false_iff_eq.mpr c6
      clear c6
      simp only [Option.some.injEq, Prod.mk.injEq] at H
      obtain ⟨rfl, rfl⟩ := H
      go_enter Tryd.func17, Tryd.ntmps17
      go_wp2
      go_ret2
      exact ⟨by first | rfl | (rw [HLAST.out]; done) | (simp [HLAST.out]; done) | (have HL_ := HLAST.out; simp_all; done) | (simp; done) | (simp [*]; done), by repeat (first | exact Drawn0.refl _ | apply Drawn0.step)⟩
     ·rw [if_neg c6] at H
      have c6b0 : (a0 == 4) = false := beq_eq_false_iff_ne.mpr c6
      have c6b1 : (a0 != 4) = true := bne_iff_ne.mpr c6
      by_cases c7 : a0 = 5
      ·rw [if_pos c7] at H
       have c7b0 : (a0 == 5) = true := beq_iff_eq.mpr c7
       have c7b1 : (a0 != 5) = false := bne_eq_false_iff_eq.mpr c7
       clear c7
       simp only [Option.some.injEq, Prod.mk.injEq] at H
       obtain ⟨rfl, rfl⟩ := H
       go_enter Tryd.func17, Tryd.ntmps17
       go_wp2
       go_ret2
       exact ⟨by first | rfl | (rw [HLAST.out]; done) | (simp [HLAST.out]; done) | (have HL_ := HLAST.out; simp_all; done) | (simp; done) | (simp [*]; done), by repeat (first | exact Drawn0.refl _ | apply Drawn0.step)⟩
      ·rw [if_neg c7] at H
       have c7b0 : (a0 == 5) = false := beq_eq_false_iff_ne.mpr c7
       have c7b1 : (a0 != 5) = true := bne_iff_ne.mpr c7
       by_cases c8 : a0 = 6
       ·rw [if_pos c8] at H
        have c8b0 : (a0 == 6) = true := beq_iff_eq.mpr c8
        have c8b1 : (a0 != 6) = false := bne_eq_false_iff_eq.mpr c8
        clear c8
        simp only [Option.some.injEq, Prod.mk.injEq] at H
        obtain ⟨rfl, rfl⟩ := H
        go_enter Tryd.func17, Tryd.ntmps17
        go_wp2
        go_ret2
        exact ⟨by first | rfl | (rw [HLAST.out]; done) | (simp [HLAST.out]; done) | (have HL_ := HLAST.out; simp_all; done) | (simp; done) | (simp [*]; done), by repeat (first | exact Drawn0.refl _ | apply Drawn0.step)⟩
       ·rw [if_neg c8] at H
        have c8b0 : (a0 == 6) = false := beq_eq_false_iff_ne.mpr c8
        have c8b1 : (a0 != 6) = true := bne_iff_ne.mpr c8
        simp only [Option.some.injEq, Prod.mk.injEq] at H
        obtain ⟨rfl, rfl⟩ := H
        go_enter Tryd.func17, Tryd.ntmps17
        go_wp2
        go_ret2
        exact ⟨by first | rfl | (rw [HLAST.out]; done) | (simp [HLAST.out]; done) | (have HL_ := HLAST.out; simp_all; done) | (simp; done) | (simp [*]; done), by repeat (first | exact Drawn0.refl _ | apply Drawn0.step)⟩

/-! ### graph_Reach: function 15 -/
mutual
def graph_Reach.j0 : Nat → Int → Int → Bool → Option (Int)
 | 0, _, _, _ => none
 | k + 1, x0, x1, x15 => if x15 = true then (some 0) else (if 0 ≤ x1 then (graph_Reach.l0 k x0 (shl .i64 1 x1) 0) else (none))
def graph_Reach.l0 : Nat → Int → Int → Int → Option (Int)
 | 0, _, _, _ => none
 | k + 1, x0, x5, x18 => if x18 < 7 then (graph_Reach.l1 k x0 x5 x18 0) else (some x5)
def graph_Reach.l1 : Nat → Int → Int → Int → Int → Option (Int)
 | 0, _, _, _, _ => none
 | k + 1, x0, x5, x18, x20 => if x20 < 7 then ((graph_Ends.f x20).bind fun bt101 => (if 0 ≤ bt101.1 then (if 0 ≤ bt101.2 then (if 0 ≤ x20 then (if (Go.bits .and .i64 (shr .i64 x0 x20) 1) = 1 then (if (Go.bits .and .i64 x5 (Go.bits .or .i64 (shl .i64 1 bt101.1) (shl .i64 1 bt101.2))) = 0 then (graph_Reach.l1 k x0 x5 x18 (wrap64 (x20 + 1))) else (graph_Reach.l1 k x0 (Go.bits .or .i64 x5 (Go.bits .or .i64 (shl .i64 1 bt101.1) (shl .i64 1 bt101.2))) x18 (wrap64 (x20 + 1)))) else (graph_Reach.l1 k x0 x5 x18 (wrap64 (x20 + 1)))) else (none)) else (none)) else (none))) else (graph_Reach.l0 k x0 x5 (wrap64 (x18 + 1)))
end
def graph_Reach.f (k : Nat) (a0 : Int) (a1 : Int) : Option (Int) := if a1 < 0 then (graph_Reach.j0 k a0 a1 true) else (graph_Reach.j0 k a0 a1 (decide (a1 ≥ 7)))
theorem graph_Reach.mono_l : ∀ k, (∀ y0 y1 y2, LeO (graph_Reach.j0 k y0 y1 y2) (graph_Reach.j0 (k + 1) y0 y1 y2)) ∧ (∀ y0 y1 y2, LeO (graph_Reach.l0 k y0 y1 y2) (graph_Reach.l0 (k + 1) y0 y1 y2)) ∧ (∀ y0 y1 y2 y3, LeO (graph_Reach.l1 k y0 y1 y2 y3) (graph_Reach.l1 (k + 1) y0 y1 y2 y3))
 | 0 => ⟨fun _ _ _ r h => by simp [graph_Reach.j0] at h, fun _ _ _ r h => by simp [graph_Reach.l0] at h, fun _ _ _ _ r h => by simp [graph_Reach.l1] at h⟩
 | k + 1 => by
  obtain ⟨ih0, ih1, ih2⟩ := graph_Reach.mono_l k
  refine ⟨?_, ?_, ?_⟩
  ·intro y0 y1 y2
   unfold graph_Reach.j0
   repeat' first
   | (with_reducible exact ih0 _ _ _)
   | (with_reducible exact ih1 _ _ _)
   | (with_reducible exact ih2 _ _ _ _)
   | (with_reducible exact LeO.refl _)
   | (with_reducible exact LeO.none _)
   | (with_reducible refine LeO.ite ?_ ?_)
   | (with_reducible refine LeO.bind ?_ (fun _ => ?_))
   | exact ih0 _ _ _
   | exact ih1 _ _ _
   | exact ih2 _ _ _ _
   | exact LeO.none _
   | refine LeO.ite ?_ ?_
   | refine LeO.bind ?_ (fun _ => ?_)
  ·intro y0 y1 y2
   unfold graph_Reach.l0
   repeat' first
   | (with_reducible exact ih0 _ _ _)
   | (with_reducible exact ih1 _ _ _)
   | (with_reducible exact ih2 _ _ _ _)
   | (with_reducible exact LeO.refl _)
   | (with_reducible exact LeO.none _)
   | (with_reducible refine LeO.ite ?_ ?_)
   | (with_reducible refine LeO.bind ?_ (fun _ => ?_))
   | exact ih0 _ _ _
   | exact ih1 _ _ _
   | exact ih2 _ _ _ _
   | exact LeO.none _
   | refine LeO.ite ?_ ?_
   | refine LeO.bind ?_ (fun _ => ?_)
  ·intro y0 y1 y2 y3
   unfold graph_Reach.l1
   repeat' first
   | (with_reducible exact ih0 _ _ _)
   | (with_reducible exact ih1 _ _ _)
   | (with_reducible exact ih2 _ _ _ _)
   | (with_reducible exact LeO.refl _)
   | (with_reducible exact LeO.none _)
   | (with_reducible refine LeO.ite ?_ ?_)
   | (with_reducible refine LeO.bind ?_ (fun _ => ?_))
   | exact ih0 _ _ _
   | exact ih1 _ _ _
   | exact ih2 _ _ _ _
   | exact LeO.none _
   | refine LeO.ite ?_ ?_
   | refine LeO.bind ?_ (fun _ => ?_)
theorem graph_Reach.mono : ∀ a0 a1 k, LeO (graph_Reach.f k a0 a1) (graph_Reach.f (k + 1) a0 a1) := by
 intro a0 a1 k
 obtain ⟨ih0, ih1, ih2⟩ := graph_Reach.mono_l k
 unfold graph_Reach.f
 repeat' first
   | (with_reducible exact ih0 _ _ _)
   | (with_reducible exact ih1 _ _ _)
   | (with_reducible exact ih2 _ _ _ _)
   | (with_reducible exact LeO.refl _)
   | (with_reducible exact LeO.none _)
   | (with_reducible refine LeO.ite ?_ ?_)
   | (with_reducible refine LeO.bind ?_ (fun _ => ?_))
   | exact ih0 _ _ _
   | exact ih1 _ _ _
   | exact ih2 _ _ _ _
   | exact LeO.none _
   | refine LeO.ite ?_ ?_
   | refine LeO.bind ?_ (fun _ => ?_)
set_option maxHeartbeats 8000000 in
set_option maxRecDepth 100000 in
theorem graph_Reach.calls (k : Nat) (a0 : Int) (a1 : Int) (r : Int) (w : World) (h : graph_Reach.f k a0 a1 = some r) :
  Calls Tryd.prog 15 #[.int .i64 a0, .int .i64 a1] w fun e w' => e = .returned (.int .i64 r) ∧ Drawn0 w w' := by
 have H : (if a1 < 0 then (graph_Reach.j0 k a0 a1 true) else (graph_Reach.j0 k a0 a1 (decide (a1 ≥ 7)))) = some r := h
 clear h
 have HC3 := Aside0.mk H
 clear H
 go_enter Tryd.func15, Tryd.ntmps15
 go_upto_region 1 with (fail)
 repeat (go_quiet (fail); go_upto_region 1 with (fail))
 go_cut [15] (fun v15 wc => ∃ (kq : Nat) (x15_2 : Bool), v15 = .bool x15_2 ∧ Aside0 (graph_Reach.j0 kq a0 a1 x15_2 = some r) ∧ Aside0 (kq ≤ k) ∧ Drawn0 w wc)
 case first =>
  have H := HC3.out
  clear HC3
  by_cases c4 : a1 < 0
  ·rw [if_pos c4] at H
   have c4b0 : decide (a1 < 0) = true := decide_eq_true c4
   clear c4
   (first | rw [c4b0] | (simp only [i64_w, i32_w]; rw [c4b0]) | skip)
   have H' := Aside0.mk H
   clear H
   go_wp2
   repeat (go_quiet (fail); try go_wp2)
   go_meet
   case rel => exact ⟨_, (true), (by first | rfl | (simp; done) | (simp [*]; done)), H', ⟨by first | omega | exact Nat.le_refl _⟩, by repeat (first | exact Drawn0.refl _ | apply Drawn0.step)⟩
  ·rw [if_neg c4] at H
   have c4b0 : decide (a1 < 0) = false := decide_eq_false c4
   clear c4
   (first | rw [c4b0] | (simp only [i64_w, i32_w]; rw [c4b0]) | skip)
   have H' := Aside0.mk H
   clear H
   go_wp2
   repeat (go_quiet (fail); try go_wp2)
   go_meet
   case rel => exact ⟨_, (decide (a1 ≥ 7)), (by first | rfl | (simp; done) | (simp [*]; done)), H', ⟨by first | omega | exact Nat.le_refl _⟩, by repeat (first | exact Drawn0.refl _ | apply Drawn0.step)⟩
 case rest =>
  clear HC3
  try clear c1
  try clear p2
  try clear c4
  try clear c4b0
  obtain ⟨kq, x15_2, rfl, HA, HJ2, ⟨mc2, rfl⟩⟩ := hcut
  cases kq with
  | zero => exact absurd HA.out (by simp [graph_Reach.j0])
  | succ kj2 =>
   have H := HA.out
   clear HA
   simp only [graph_Reach.j0] at H
   by_cases c5 : x15_2 = true
   ·subst c5
    have H1 : (some 0) = some r := by first | (rw [if_pos rfl] at H; exact H) | exact H | rfl
    clear H
    have H := H1
    clear H1
    obtain rfl := Option.some.inj H
    go_wp2
    repeat (go_quiet (fail); try go_wp2)
    go_ret
    exact ⟨by first | rfl | (rw [HLAST.out]; done) | (simp [HLAST.out]; done) | (have HL_ := HLAST.out; simp_all; done) | (simp; done) | (simp [*]; done), by repeat (first | exact Drawn0.refl _ | apply Drawn0.step)⟩
   ·replace c5 := Bool.eq_false_iff.mpr c5
    subst c5
    have H1 : (if 0 ≤ a1 then (graph_Reach.l0 kj2 a0 (shl .i64 1 a1) 0) else (none)) = some r := by first | (rw [if_neg (show ¬ (false = true) by decide)] at H; exact H) | exact H | rfl
    clear H
    have H := H1
    clear H1
    by_cases c6 : 0 ≤ a1
    ·rw [if_pos c6] at H
     have c6b0 := eq_true c6
     have c6b1 : decide (0 ≤ a1) = true := decide_eq_true c6
     clear c6
     obtain ⟨ji7, hji7⟩ : ∃ j_ : Int, (shl .i64 1 a1) = j_ := ⟨_, rfl⟩
     replace H : (graph_Reach.l0 kj2 a0 ji7 0) = some r := by first | (rw [hji7] at H; exact H) | (simp only [hji7] at H ⊢; exact H)
     have hji7_ : (IntKind.i64.wrap (1 * 2 ^ min a1.toNat 64)) = ji7 := hji7
     have hji7z : a1 ≤ 64 → (IntKind.i64.wrap (1 * 2 ^ a1.toNat)) = ji7 := shl_small hji7
     have hji7u : (IntKind.i64.wrap (2 ^ min a1.toNat 64)) = ji7 := by have h_ := hji7_; rw [Int.one_mul] at h_; exact h_
     have hji7v : a1 ≤ 64 → (IntKind.i64.wrap (2 ^ a1.toNat)) = ji7 := fun hle_ => by have h_ := hji7z hle_; rw [Int.one_mul] at h_; exact h_
     have hji7y : (wrap64 (1 * 2 ^ min a1.toNat 64)) = ji7 := (i64_w _).symm.trans hji7_
     have hji7x : a1 ≤ 64 → (wrap64 (1 * 2 ^ a1.toNat)) = ji7 := fun h_ => (i64_w _).symm.trans (hji7z h_)
     have H' := Aside0.mk H
     clear H
     go_wp2
     repeat (go_quiet (fail); try go_wp2)
     go_loopg [5, 18] kj2 (fun kq v5 v18 w' => ∃ (x5_2 : Int) (x18_2 : Int), v5 = .int .i64 x5_2 ∧ v18 = .int .i64 x18_2 ∧ Aside0 (graph_Reach.l0 kq a0 x5_2 x18_2 = some r) ∧ Aside0 (kq ≤ kj2) ∧ Drawn0 w w')
     case atStart => exact ⟨(ji7), (0), (by first | rfl | (simp; done) | (simp only [← hji7] <;> (first | rfl | simp)) | (simp [*]; done)), (by first | rfl | (simp; done) | (simp [*]; done)), H', ⟨Nat.le_refl _⟩, by repeat (first | exact Drawn0.refl _ | apply Drawn0.step)⟩
     case round =>
      clear H'
      try clear c1
      try clear c2
      try clear p2
      try clear c4
      try clear c4b0
      try clear c5
      try clear c6
      try clear c6b0
      try clear c6b1
      try clear p6
      try clear p2
      obtain ⟨x5_2, x18_2, rfl, rfl, HA, HK2, ⟨m2, rfl⟩⟩ := hrel
      cases gk with
      | zero => exact absurd HA.out (by simp [graph_Reach.l0])
      | succ k2 =>
       have H := HA.out
       clear HA
       simp only [graph_Reach.l0] at H
       by_cases c8 : x18_2 < 7
       ·rw [if_pos c8] at H
        have c8b0 : decide (x18_2 < 7) = true := decide_eq_true c8
        clear c8
        have H' := Aside0.mk H
        clear H
        go_wp2
        repeat (go_quiet (fail); try go_wp2)
        go_loopg [5, 20] k2 (fun kq v5 v20 w' => ∃ (x5_3 : Int) (x20_3 : Int), v5 = .int .i64 x5_3 ∧ v20 = .int .i64 x20_3 ∧ Aside0 (graph_Reach.l1 kq a0 x5_3 x18_2 x20_3 = some r) ∧ Aside0 (kq ≤ k2) ∧ Drawn0 w w')
        case atStart => exact ⟨(x5_2), (0), (by first | rfl | (simp; done) | (simp [*]; done)), (by first | rfl | (simp; done) | (simp [*]; done)), H', ⟨Nat.le_refl _⟩, by repeat (first | exact Drawn0.refl _ | apply Drawn0.step)⟩
        case round =>
         clear H'
         try clear c1
         try clear c2
         try clear p2
         try clear c4
         try clear c4b0
         try clear c5
         try clear c6
         try clear c6b0
         try clear c6b1
         try clear p6
         try clear c8
         try clear c8b0
         try clear p2
         try clear p6
         obtain ⟨x5_3, x20_3, rfl, rfl, HA, HK3, ⟨m3, rfl⟩⟩ := hrel
         cases gk with
         | zero => exact absurd HA.out (by simp [graph_Reach.l1])
         | succ k3 =>
          have H := HA.out
          clear HA
          simp only [graph_Reach.l1] at H
          by_cases c9 : x20_3 < 7
          ·rw [if_pos c9] at H
           have c9b0 : decide (x20_3 < 7) = true := decide_eq_true c9
           clear c9
           replace H := Option.bind_eq_some_iff.mp H
           obtain ⟨⟨t101, t102⟩, A100, H⟩ := H
           replace H : (if 0 ≤ t101 then (if 0 ≤ t102 then (if 0 ≤ x20_3 then (if (Go.bits .and .i64 (shr .i64 a0 x20_3) 1) = 1 then (if (Go.bits .and .i64 x5_3 (Go.bits .or .i64 (shl .i64 1 t101) (shl .i64 1 t102))) = 0 then (graph_Reach.l1 k3 a0 x5_3 x18_2 (wrap64 (x20_3 + 1))) else (graph_Reach.l1 k3 a0 (Go.bits .or .i64 x5_3 (Go.bits .or .i64 (shl .i64 1 t101) (shl .i64 1 t102))) x18_2 (wrap64 (x20_3 + 1)))) else (graph_Reach.l1 k3 a0 x5_3 x18_2 (wrap64 (x20_3 + 1)))) else (none)) else (none)) else (none)) = some r := H
           have A10 := Aside0.mk A100
           clear A100
           by_cases c11 : 0 ≤ t101
           ·rw [if_pos c11] at H
            have c11b0 := eq_true c11
            have c11b1 : decide (0 ≤ t101) = true := decide_eq_true c11
            clear c11
            obtain ⟨ji12, hji12⟩ : ∃ j_ : Int, (shl .i64 1 t101) = j_ := ⟨_, rfl⟩
            replace H : (if 0 ≤ t102 then (if 0 ≤ x20_3 then (if (Go.bits .and .i64 (shr .i64 a0 x20_3) 1) = 1 then (if (Go.bits .and .i64 x5_3 (Go.bits .or .i64 (ji12) (shl .i64 1 t102))) = 0 then (graph_Reach.l1 k3 a0 x5_3 x18_2 (wrap64 (x20_3 + 1))) else (graph_Reach.l1 k3 a0 (Go.bits .or .i64 x5_3 (Go.bits .or .i64 (ji12) (shl .i64 1 t102))) x18_2 (wrap64 (x20_3 + 1)))) else (graph_Reach.l1 k3 a0 x5_3 x18_2 (wrap64 (x20_3 + 1)))) else (none)) else (none)) = some r := by first | (rw [hji12] at H; exact H) | (simp only [hji12] at H ⊢; exact H)
            (try rw [hji12] at A10)
            have hji12_ : (IntKind.i64.wrap (1 * 2 ^ min t101.toNat 64)) = ji12 := hji12
            have hji12z : t101 ≤ 64 → (IntKind.i64.wrap (1 * 2 ^ t101.toNat)) = ji12 := shl_small hji12
            have hji12u : (IntKind.i64.wrap (2 ^ min t101.toNat 64)) = ji12 := by have h_ := hji12_; rw [Int.one_mul] at h_; exact h_
            have hji12v : t101 ≤ 64 → (IntKind.i64.wrap (2 ^ t101.toNat)) = ji12 := fun hle_ => by have h_ := hji12z hle_; rw [Int.one_mul] at h_; exact h_
            have hji12y : (wrap64 (1 * 2 ^ min t101.toNat 64)) = ji12 := (i64_w _).symm.trans hji12_
            have hji12x : t101 ≤ 64 → (wrap64 (1 * 2 ^ t101.toNat)) = ji12 := fun h_ => (i64_w _).symm.trans (hji12z h_)
            by_cases c13 : 0 ≤ t102
            ·rw [if_pos c13] at H
             have c13b0 := eq_true c13
             have c13b1 : decide (0 ≤ t102) = true := decide_eq_true c13
             clear c13
             obtain ⟨ji14, hji14⟩ : ∃ j_ : Int, (shl .i64 1 t102) = j_ := ⟨_, rfl⟩
             replace H : (if 0 ≤ x20_3 then (if (Go.bits .and .i64 (shr .i64 a0 x20_3) 1) = 1 then (if (Go.bits .and .i64 x5_3 (Go.bits .or .i64 (ji12) (ji14))) = 0 then (graph_Reach.l1 k3 a0 x5_3 x18_2 (wrap64 (x20_3 + 1))) else (graph_Reach.l1 k3 a0 (Go.bits .or .i64 x5_3 (Go.bits .or .i64 (ji12) (ji14))) x18_2 (wrap64 (x20_3 + 1)))) else (graph_Reach.l1 k3 a0 x5_3 x18_2 (wrap64 (x20_3 + 1)))) else (none)) = some r := by first | (rw [hji14] at H; exact H) | (simp only [hji14] at H ⊢; exact H)
             (try rw [hji14] at A10)
             have hji14_ : (IntKind.i64.wrap (1 * 2 ^ min t102.toNat 64)) = ji14 := hji14
             have hji14z : t102 ≤ 64 → (IntKind.i64.wrap (1 * 2 ^ t102.toNat)) = ji14 := shl_small hji14
             have hji14u : (IntKind.i64.wrap (2 ^ min t102.toNat 64)) = ji14 := by have h_ := hji14_; rw [Int.one_mul] at h_; exact h_
             have hji14v : t102 ≤ 64 → (IntKind.i64.wrap (2 ^ t102.toNat)) = ji14 := fun hle_ => by have h_ := hji14z hle_; rw [Int.one_mul] at h_; exact h_
             have hji14y : (wrap64 (1 * 2 ^ min t102.toNat 64)) = ji14 := (i64_w _).symm.trans hji14_
             have hji14x : t102 ≤ 64 → (wrap64 (1 * 2 ^ t102.toNat)) = ji14 := fun h_ => (i64_w _).symm.trans (hji14z h_)
             by_cases c15 : 0 ≤ x20_3
             ·rw [if_pos c15] at H
              have c15b0 := eq_true c15
              have c15b1 : decide (0 ≤ x20_3) = true := decide_eq_true c15
              clear c15
              obtain ⟨ji16, hji16⟩ : ∃ j_ : Int, (shr .i64 a0 x20_3) = j_ := ⟨_, rfl⟩
              replace H : (if (Go.bits .and .i64 (ji16) 1) = 1 then (if (Go.bits .and .i64 x5_3 (Go.bits .or .i64 (ji12) (ji14))) = 0 then (graph_Reach.l1 k3 a0 x5_3 x18_2 (wrap64 (x20_3 + 1))) else (graph_Reach.l1 k3 a0 (Go.bits .or .i64 x5_3 (Go.bits .or .i64 (ji12) (ji14))) x18_2 (wrap64 (x20_3 + 1)))) else (graph_Reach.l1 k3 a0 x5_3 x18_2 (wrap64 (x20_3 + 1)))) = some r := by first | (rw [hji16] at H; exact H) | (simp only [hji16] at H ⊢; exact H)
              (try rw [hji16] at A10)
              have hji16_ : (a0 / 2 ^ min x20_3.toNat 64) = ji16 := hji16
              have hji16z : x20_3 ≤ 64 → (a0 / 2 ^ x20_3.toNat) = ji16 := shr_small hji16
              by_cases c17 : (Go.bits .and .i64 (ji16) 1) = 1
              ·rw [if_pos c17] at H
               have c17b0 : ((Go.bits .and .i64 (ji16) 1) == 1) = true := beq_iff_eq.mpr c17
               have c17b1 : ((Go.bits .and .i64 (ji16) 1) != 1) = false := bne_eq_false_iff_eq.mpr c17
               clear c17
               by_cases c18 : (Go.bits .and .i64 x5_3 (Go.bits .or .i64 (ji12) (ji14))) = 0
               ·rw [if_pos c18] at H
                have c18b0 : ((Go.bits .and .i64 x5_3 (Go.bits .or .i64 (ji12) (ji14))) == 0) = true := beq_iff_eq.mpr c18
                have c18b1 : ((Go.bits .and .i64 x5_3 (Go.bits .or .i64 (ji12) (ji14))) != 0) = false := bne_eq_false_iff_eq.mpr c18
                clear c18
                have H' := Aside0.mk H
                clear H
                go_wp2_with (first | (go_at_call 17; (with_reducible refine (graph_Ends.calls x20_3 t101 t102 _ A10.out).mono ?_); rintro e w' ⟨rfl, ⟨nd, rfl⟩⟩; (try first | exact ⟨rfl, _, World.drewN_drewN _ _ _⟩ | exact ⟨rfl, _, Eq.trans (World.drewN_drewN _ _ _) (congrArg (World.drewN _) (Nat.add_assoc _ _ _))⟩)))
                repeat (go_quiet (first | (go_at_call 17; (with_reducible refine (graph_Ends.calls x20_3 t101 t102 _ A10.out).mono ?_); rintro e w' ⟨rfl, ⟨nd, rfl⟩⟩; (try first | exact ⟨rfl, _, World.drewN_drewN _ _ _⟩ | exact ⟨rfl, _, Eq.trans (World.drewN_drewN _ _ _) (congrArg (World.drewN _) (Nat.add_assoc _ _ _))⟩))); try go_wp2_with (first | (go_at_call 17; (with_reducible refine (graph_Ends.calls x20_3 t101 t102 _ A10.out).mono ?_); rintro e w' ⟨rfl, ⟨nd, rfl⟩⟩; (try first | exact ⟨rfl, _, World.drewN_drewN _ _ _⟩ | exact ⟨rfl, _, Eq.trans (World.drewN_drewN _ _ _) (congrArg (World.drewN _) (Nat.add_assoc _ _ _))⟩))))
                go_roundg k3
                case measure => have := HJ2.out; have := HK2.out; have := HK3.out; omega
                case rel => exact ⟨(x5_3), (wrap64 (x20_3 + 1)), (by first | rfl | (simp; done) | (simp [*]; done)), (by first | rfl | (simp; done) | (simp [*]; done)), H', ⟨by have := HJ2.out; have := HK2.out; have := HK3.out; omega⟩, by repeat (first | exact Drawn0.refl _ | apply Drawn0.step)⟩
               ·rw [if_neg c18] at H
                have c18b0 : ((Go.bits .and .i64 x5_3 (Go.bits .or .i64 (ji12) (ji14))) == 0) = false := beq_eq_false_iff_ne.mpr c18
                have c18b1 : ((Go.bits .and .i64 x5_3 (Go.bits .or .i64 (ji12) (ji14))) != 0) = true := bne_iff_ne.mpr c18
                have H' := Aside0.mk H
                clear H
                go_wp2_with (first | (go_at_call 17; (with_reducible refine (graph_Ends.calls x20_3 t101 t102 _ A10.out).mono ?_); rintro e w' ⟨rfl, ⟨nd, rfl⟩⟩; (try first | exact ⟨rfl, _, World.drewN_drewN _ _ _⟩ | exact ⟨rfl, _, Eq.trans (World.drewN_drewN _ _ _) (congrArg (World.drewN _) (Nat.add_assoc _ _ _))⟩)))
                repeat (go_quiet (first | (go_at_call 17; (with_reducible refine (graph_Ends.calls x20_3 t101 t102 _ A10.out).mono ?_); rintro e w' ⟨rfl, ⟨nd, rfl⟩⟩; (try first | exact ⟨rfl, _, World.drewN_drewN _ _ _⟩ | exact ⟨rfl, _, Eq.trans (World.drewN_drewN _ _ _) (congrArg (World.drewN _) (Nat.add_assoc _ _ _))⟩))); try go_wp2_with (first | (go_at_call 17; (with_reducible refine (graph_Ends.calls x20_3 t101 t102 _ A10.out).mono ?_); rintro e w' ⟨rfl, ⟨nd, rfl⟩⟩; (try first | exact ⟨rfl, _, World.drewN_drewN _ _ _⟩ | exact ⟨rfl, _, Eq.trans (World.drewN_drewN _ _ _) (congrArg (World.drewN _) (Nat.add_assoc _ _ _))⟩))))
                go_roundg k3
                case measure => have := HJ2.out; have := HK2.out; have := HK3.out; omega
                case rel => exact ⟨(Go.bits .or .i64 x5_3 (Go.bits .or .i64 (ji12) (ji14))), (wrap64 (x20_3 + 1)), (by first | rfl | (simp; done) | (simp only [← hji12, ← hji14] <;> (first | rfl | simp)) | (simp [*]; done)), (by first | rfl | (simp; done) | (simp [*]; done)), H', ⟨by have := HJ2.out; have := HK2.out; have := HK3.out; omega⟩, by repeat (first | exact Drawn0.refl _ | apply Drawn0.step)⟩
              ·rw [if_neg c17] at H
               have c17b0 : ((Go.bits .and .i64 (ji16) 1) == 1) = false := beq_eq_false_iff_ne.mpr c17
               have c17b1 : ((Go.bits .and .i64 (ji16) 1) != 1) = true := bne_iff_ne.mpr c17
               have H' := Aside0.mk H
               clear H
               go_wp2_with (first | (go_at_call 17; (with_reducible refine (graph_Ends.calls x20_3 t101 t102 _ A10.out).mono ?_); rintro e w' ⟨rfl, ⟨nd, rfl⟩⟩; (try first | exact ⟨rfl, _, World.drewN_drewN _ _ _⟩ | exact ⟨rfl, _, Eq.trans (World.drewN_drewN _ _ _) (congrArg (World.drewN _) (Nat.add_assoc _ _ _))⟩)))
               repeat (go_quiet (first | (go_at_call 17; (with_reducible refine (graph_Ends.calls x20_3 t101 t102 _ A10.out).mono ?_); rintro e w' ⟨rfl, ⟨nd, rfl⟩⟩; (try first | exact ⟨rfl, _, World.drewN_drewN _ _ _⟩ | exact ⟨rfl, _, Eq.trans (World.drewN_drewN _ _ _) (congrArg (World.drewN _) (Nat.add_assoc _ _ _))⟩))); try go_wp2_with (first | (go_at_call 17; (with_reducible refine (graph_Ends.calls x20_3 t101 t102 _ A10.out).mono ?_); rintro e w' ⟨rfl, ⟨nd, rfl⟩⟩; (try first | exact ⟨rfl, _, World.drewN_drewN _ _ _⟩ | exact ⟨rfl, _, Eq.trans (World.drewN_drewN _ _ _) (congrArg (World.drewN _) (Nat.add_assoc _ _ _))⟩))))
               go_roundg k3
               case measure => have := HJ2.out; have := HK2.out; have := HK3.out; omega
               case rel => exact ⟨(x5_3), (wrap64 (x20_3 + 1)), (by first | rfl | (simp; done) | (simp [*]; done)), (by first | rfl | (simp; done) | (simp [*]; done)), H', ⟨by have := HJ2.out; have := HK2.out; have := HK3.out; omega⟩, by repeat (first | exact Drawn0.refl _ | apply Drawn0.step)⟩
             ·rw [if_neg c15] at H
              exact absurd H (by simp)
            ·rw [if_neg c13] at H
             exact absurd H (by simp)
           ·rw [if_neg c11] at H
            exact absurd H (by simp)
          ·rw [if_neg c9] at H
           have c9b0 : decide (x20_3 < 7) = false := decide_eq_false c9
           clear c9
           have H' := Aside0.mk H
           clear H
           go_wp2
           repeat (go_quiet (fail); try go_wp2)
           go_roundg k3
           case measure => have := HJ2.out; have := HK2.out; have := HK3.out; omega
           case rel => exact ⟨(x5_3), (wrap64 (x18_2 + 1)), (by first | rfl | (simp; done) | (simp [*]; done)), (by first | rfl | (simp; done) | (simp [*]; done)), H', ⟨by have := HJ2.out; have := HK2.out; have := HK3.out; omega⟩, by repeat (first | exact Drawn0.refl _ | apply Drawn0.step)⟩
       ·rw [if_neg c8] at H
        have c8b0 : decide (x18_2 < 7) = false := decide_eq_false c8
        clear c8
        obtain rfl := Option.some.inj H
        go_wp2
        repeat (go_quiet (fail); try go_wp2)
        go_ret
        exact ⟨by first | rfl | (rw [HLAST.out]; done) | (simp [HLAST.out]; done) | (have HL_ := HLAST.out; simp_all; done) | (simp; done) | (simp only [← hji7] <;> (first | rfl | simp)) | (simp [*]; done), by repeat (first | exact Drawn0.refl _ | apply Drawn0.step)⟩
    ·rw [if_neg c6] at H
     exact absurd H (by simp)

/-! ### graph_fed: function 36 -/
def graph_fed.f (k : Nat) (a0 : Int) (a1 : Int) : Option (Int) := (graph_Reach.f k a0 a1).bind fun t103 => (some (Go.bits .and .i64 t103 15))
theorem graph_fed.mono : ∀ a0 a1 k, LeO (graph_fed.f k a0 a1) (graph_fed.f (k + 1) a0 a1) := by
 intro a0 a1 k
 unfold graph_fed.f
 repeat' first
   | (with_reducible exact graph_Reach.mono _ _ _)
   | (with_reducible exact LeO.refl _)
   | (with_reducible exact LeO.none _)
   | (with_reducible refine LeO.ite ?_ ?_)
   | (with_reducible refine LeO.bind ?_ (fun _ => ?_))
   | exact graph_Reach.mono _ _ _
   | exact LeO.none _
   | refine LeO.ite ?_ ?_
   | refine LeO.bind ?_ (fun _ => ?_)
set_option maxHeartbeats 8000000 in
set_option maxRecDepth 100000 in
theorem graph_fed.calls (k : Nat) (a0 : Int) (a1 : Int) (r : Int) (w : World) (h : graph_fed.f k a0 a1 = some r) :
  Calls Tryd.prog 36 #[.int .i64 a0, .int .i64 a1] w fun e w' => e = .returned (.int .i64 r) ∧ Drawn0 w w' := by
 have H : ((graph_Reach.f k a0 a1).bind fun t103 => (some (Go.bits .and .i64 t103 15))) = some r := h
 clear h
 replace H := Option.bind_eq_some_iff.mp H
 obtain ⟨t103, A30, H⟩ := H
 replace H : (some (Go.bits .and .i64 t103 15)) = some r := H
 have A3 := Aside0.mk A30
 clear A30
 obtain rfl := Option.some.inj H
 go_enter Tryd.func36, Tryd.ntmps36
 go_wp2_with (first | ((with_reducible refine gate_callee (f := 15) rfl ?_); refine goesL_ (some 7) rfl rfl Tryd.func15 (by kernel_rfl) rfl #[.int .i64 a0, .int .i64 a1] rfl (by (try simp only [List.map_toArray, List.map_cons, List.map_nil]); first | done | rfl | (simp only [List.length_drop, List.length_take]; rfl)) ?_; (with_reducible refine (graph_Reach.calls k a0 a1 t103 _ A3.out).mono ?_); rintro e w' ⟨rfl, ⟨nd, rfl⟩⟩; refine ⟨_, rfl, ?_⟩))
 go_ret
 exact ⟨by first | rfl | (rw [HLAST.out]; done) | (simp [HLAST.out]; done) | (have HL_ := HLAST.out; simp_all; done) | (simp; done) | (simp [*]; done), by repeat (first | exact Drawn0.refl _ | apply Drawn0.step)⟩

-- NOT PRINTED: function 53 (bits_OnesCount32)

/-! ### bits_OnesCount64: function 54 -/
def bits_OnesCount64.f (a0 : Int) : Option (Int) := some (Go.bits .and .i64 (wrap64 (IntKind.u64.wrap ((IntKind.u64.wrap ((IntKind.u64.wrap ((Go.bits .and .u64 (IntKind.u64.wrap (((IntKind.u64.wrap ((Go.bits .and .u64 ((IntKind.u64.wrap ((Go.bits .and .u64 (a0 / 2) 6148914691236517205) + (Go.bits .and .u64 a0 6148914691236517205))) / 4) 3689348814741910323) + (Go.bits .and .u64 (IntKind.u64.wrap ((Go.bits .and .u64 (a0 / 2) 6148914691236517205) + (Go.bits .and .u64 a0 6148914691236517205))) 3689348814741910323))) / 16) + (IntKind.u64.wrap ((Go.bits .and .u64 ((IntKind.u64.wrap ((Go.bits .and .u64 (a0 / 2) 6148914691236517205) + (Go.bits .and .u64 a0 6148914691236517205))) / 4) 3689348814741910323) + (Go.bits .and .u64 (IntKind.u64.wrap ((Go.bits .and .u64 (a0 / 2) 6148914691236517205) + (Go.bits .and .u64 a0 6148914691236517205))) 3689348814741910323))))) 1085102592571150095) + ((Go.bits .and .u64 (IntKind.u64.wrap (((IntKind.u64.wrap ((Go.bits .and .u64 ((IntKind.u64.wrap ((Go.bits .and .u64 (a0 / 2) 6148914691236517205) + (Go.bits .and .u64 a0 6148914691236517205))) / 4) 3689348814741910323) + (Go.bits .and .u64 (IntKind.u64.wrap ((Go.bits .and .u64 (a0 / 2) 6148914691236517205) + (Go.bits .and .u64 a0 6148914691236517205))) 3689348814741910323))) / 16) + (IntKind.u64.wrap ((Go.bits .and .u64 ((IntKind.u64.wrap ((Go.bits .and .u64 (a0 / 2) 6148914691236517205) + (Go.bits .and .u64 a0 6148914691236517205))) / 4) 3689348814741910323) + (Go.bits .and .u64 (IntKind.u64.wrap ((Go.bits .and .u64 (a0 / 2) 6148914691236517205) + (Go.bits .and .u64 a0 6148914691236517205))) 3689348814741910323))))) 1085102592571150095) / 256))) + ((IntKind.u64.wrap ((Go.bits .and .u64 (IntKind.u64.wrap (((IntKind.u64.wrap ((Go.bits .and .u64 ((IntKind.u64.wrap ((Go.bits .and .u64 (a0 / 2) 6148914691236517205) + (Go.bits .and .u64 a0 6148914691236517205))) / 4) 3689348814741910323) + (Go.bits .and .u64 (IntKind.u64.wrap ((Go.bits .and .u64 (a0 / 2) 6148914691236517205) + (Go.bits .and .u64 a0 6148914691236517205))) 3689348814741910323))) / 16) + (IntKind.u64.wrap ((Go.bits .and .u64 ((IntKind.u64.wrap ((Go.bits .and .u64 (a0 / 2) 6148914691236517205) + (Go.bits .and .u64 a0 6148914691236517205))) / 4) 3689348814741910323) + (Go.bits .and .u64 (IntKind.u64.wrap ((Go.bits .and .u64 (a0 / 2) 6148914691236517205) + (Go.bits .and .u64 a0 6148914691236517205))) 3689348814741910323))))) 1085102592571150095) + ((Go.bits .and .u64 (IntKind.u64.wrap (((IntKind.u64.wrap ((Go.bits .and .u64 ((IntKind.u64.wrap ((Go.bits .and .u64 (a0 / 2) 6148914691236517205) + (Go.bits .and .u64 a0 6148914691236517205))) / 4) 3689348814741910323) + (Go.bits .and .u64 (IntKind.u64.wrap ((Go.bits .and .u64 (a0 / 2) 6148914691236517205) + (Go.bits .and .u64 a0 6148914691236517205))) 3689348814741910323))) / 16) + (IntKind.u64.wrap ((Go.bits .and .u64 ((IntKind.u64.wrap ((Go.bits .and .u64 (a0 / 2) 6148914691236517205) + (Go.bits .and .u64 a0 6148914691236517205))) / 4) 3689348814741910323) + (Go.bits .and .u64 (IntKind.u64.wrap ((Go.bits .and .u64 (a0 / 2) 6148914691236517205) + (Go.bits .and .u64 a0 6148914691236517205))) 3689348814741910323))))) 1085102592571150095) / 256))) / 65536))) + ((IntKind.u64.wrap ((IntKind.u64.wrap ((Go.bits .and .u64 (IntKind.u64.wrap (((IntKind.u64.wrap ((Go.bits .and .u64 ((IntKind.u64.wrap ((Go.bits .and .u64 (a0 / 2) 6148914691236517205) + (Go.bits .and .u64 a0 6148914691236517205))) / 4) 3689348814741910323) + (Go.bits .and .u64 (IntKind.u64.wrap ((Go.bits .and .u64 (a0 / 2) 6148914691236517205) + (Go.bits .and .u64 a0 6148914691236517205))) 3689348814741910323))) / 16) + (IntKind.u64.wrap ((Go.bits .and .u64 ((IntKind.u64.wrap ((Go.bits .and .u64 (a0 / 2) 6148914691236517205) + (Go.bits .and .u64 a0 6148914691236517205))) / 4) 3689348814741910323) + (Go.bits .and .u64 (IntKind.u64.wrap ((Go.bits .and .u64 (a0 / 2) 6148914691236517205) + (Go.bits .and .u64 a0 6148914691236517205))) 3689348814741910323))))) 1085102592571150095) + ((Go.bits .and .u64 (IntKind.u64.wrap (((IntKind.u64.wrap ((Go.bits .and .u64 ((IntKind.u64.wrap ((Go.bits .and .u64 (a0 / 2) 6148914691236517205) + (Go.bits .and .u64 a0 6148914691236517205))) / 4) 3689348814741910323) + (Go.bits .and .u64 (IntKind.u64.wrap ((Go.bits .and .u64 (a0 / 2) 6148914691236517205) + (Go.bits .and .u64 a0 6148914691236517205))) 3689348814741910323))) / 16) + (IntKind.u64.wrap ((Go.bits .and .u64 ((IntKind.u64.wrap ((Go.bits .and .u64 (a0 / 2) 6148914691236517205) + (Go.bits .and .u64 a0 6148914691236517205))) / 4) 3689348814741910323) + (Go.bits .and .u64 (IntKind.u64.wrap ((Go.bits .and .u64 (a0 / 2) 6148914691236517205) + (Go.bits .and .u64 a0 6148914691236517205))) 3689348814741910323))))) 1085102592571150095) / 256))) + ((IntKind.u64.wrap ((Go.bits .and .u64 (IntKind.u64.wrap (((IntKind.u64.wrap ((Go.bits .and .u64 ((IntKind.u64.wrap ((Go.bits .and .u64 (a0 / 2) 6148914691236517205) + (Go.bits .and .u64 a0 6148914691236517205))) / 4) 3689348814741910323) + (Go.bits .and .u64 (IntKind.u64.wrap ((Go.bits .and .u64 (a0 / 2) 6148914691236517205) + (Go.bits .and .u64 a0 6148914691236517205))) 3689348814741910323))) / 16) + (IntKind.u64.wrap ((Go.bits .and .u64 ((IntKind.u64.wrap ((Go.bits .and .u64 (a0 / 2) 6148914691236517205) + (Go.bits .and .u64 a0 6148914691236517205))) / 4) 3689348814741910323) + (Go.bits .and .u64 (IntKind.u64.wrap ((Go.bits .and .u64 (a0 / 2) 6148914691236517205) + (Go.bits .and .u64 a0 6148914691236517205))) 3689348814741910323))))) 1085102592571150095) + ((Go.bits .and .u64 (IntKind.u64.wrap (((IntKind.u64.wrap ((Go.bits .and .u64 ((IntKind.u64.wrap ((Go.bits .and .u64 (a0 / 2) 6148914691236517205) + (Go.bits .and .u64 a0 6148914691236517205))) / 4) 3689348814741910323) + (Go.bits .and .u64 (IntKind.u64.wrap ((Go.bits .and .u64 (a0 / 2) 6148914691236517205) + (Go.bits .and .u64 a0 6148914691236517205))) 3689348814741910323))) / 16) + (IntKind.u64.wrap ((Go.bits .and .u64 ((IntKind.u64.wrap ((Go.bits .and .u64 (a0 / 2) 6148914691236517205) + (Go.bits .and .u64 a0 6148914691236517205))) / 4) 3689348814741910323) + (Go.bits .and .u64 (IntKind.u64.wrap ((Go.bits .and .u64 (a0 / 2) 6148914691236517205) + (Go.bits .and .u64 a0 6148914691236517205))) 3689348814741910323))))) 1085102592571150095) / 256))) / 65536))) / 4294967296)))) 127)
set_option maxHeartbeats 8000000 in
set_option maxRecDepth 100000 in
theorem bits_OnesCount64.calls (a0 : Int) (r : Int) (w : World) (h : bits_OnesCount64.f a0 = some r) :
  Calls Tryd.prog 54 #[.int .u64 a0] w fun e w' => e = .returned (.int .i64 r) ∧ Drawn0 w w' := by
 have H : (some (Go.bits .and .i64 (wrap64 (IntKind.u64.wrap ((IntKind.u64.wrap ((IntKind.u64.wrap ((Go.bits .and .u64 (IntKind.u64.wrap (((IntKind.u64.wrap ((Go.bits .and .u64 ((IntKind.u64.wrap ((Go.bits .and .u64 (a0 / 2) 6148914691236517205) + (Go.bits .and .u64 a0 6148914691236517205))) / 4) 3689348814741910323) + (Go.bits .and .u64 (IntKind.u64.wrap ((Go.bits .and .u64 (a0 / 2) 6148914691236517205) + (Go.bits .and .u64 a0 6148914691236517205))) 3689348814741910323))) / 16) + (IntKind.u64.wrap ((Go.bits .and .u64 ((IntKind.u64.wrap ((Go.bits .and .u64 (a0 / 2) 6148914691236517205) + (Go.bits .and .u64 a0 6148914691236517205))) / 4) 3689348814741910323) + (Go.bits .and .u64 (IntKind.u64.wrap ((Go.bits .and .u64 (a0 / 2) 6148914691236517205) + (Go.bits .and .u64 a0 6148914691236517205))) 3689348814741910323))))) 1085102592571150095) + ((Go.bits .and .u64 (IntKind.u64.wrap (((IntKind.u64.wrap ((Go.bits .and .u64 ((IntKind.u64.wrap ((Go.bits .and .u64 (a0 / 2) 6148914691236517205) + (Go.bits .and .u64 a0 6148914691236517205))) / 4) 3689348814741910323) + (Go.bits .and .u64 (IntKind.u64.wrap ((Go.bits .and .u64 (a0 / 2) 6148914691236517205) + (Go.bits .and .u64 a0 6148914691236517205))) 3689348814741910323))) / 16) + (IntKind.u64.wrap ((Go.bits .and .u64 ((IntKind.u64.wrap ((Go.bits .and .u64 (a0 / 2) 6148914691236517205) + (Go.bits .and .u64 a0 6148914691236517205))) / 4) 3689348814741910323) + (Go.bits .and .u64 (IntKind.u64.wrap ((Go.bits .and .u64 (a0 / 2) 6148914691236517205) + (Go.bits .and .u64 a0 6148914691236517205))) 3689348814741910323))))) 1085102592571150095) / 256))) + ((IntKind.u64.wrap ((Go.bits .and .u64 (IntKind.u64.wrap (((IntKind.u64.wrap ((Go.bits .and .u64 ((IntKind.u64.wrap ((Go.bits .and .u64 (a0 / 2) 6148914691236517205) + (Go.bits .and .u64 a0 6148914691236517205))) / 4) 3689348814741910323) + (Go.bits .and .u64 (IntKind.u64.wrap ((Go.bits .and .u64 (a0 / 2) 6148914691236517205) + (Go.bits .and .u64 a0 6148914691236517205))) 3689348814741910323))) / 16) + (IntKind.u64.wrap ((Go.bits .and .u64 ((IntKind.u64.wrap ((Go.bits .and .u64 (a0 / 2) 6148914691236517205) + (Go.bits .and .u64 a0 6148914691236517205))) / 4) 3689348814741910323) + (Go.bits .and .u64 (IntKind.u64.wrap ((Go.bits .and .u64 (a0 / 2) 6148914691236517205) + (Go.bits .and .u64 a0 6148914691236517205))) 3689348814741910323))))) 1085102592571150095) + ((Go.bits .and .u64 (IntKind.u64.wrap (((IntKind.u64.wrap ((Go.bits .and .u64 ((IntKind.u64.wrap ((Go.bits .and .u64 (a0 / 2) 6148914691236517205) + (Go.bits .and .u64 a0 6148914691236517205))) / 4) 3689348814741910323) + (Go.bits .and .u64 (IntKind.u64.wrap ((Go.bits .and .u64 (a0 / 2) 6148914691236517205) + (Go.bits .and .u64 a0 6148914691236517205))) 3689348814741910323))) / 16) + (IntKind.u64.wrap ((Go.bits .and .u64 ((IntKind.u64.wrap ((Go.bits .and .u64 (a0 / 2) 6148914691236517205) + (Go.bits .and .u64 a0 6148914691236517205))) / 4) 3689348814741910323) + (Go.bits .and .u64 (IntKind.u64.wrap ((Go.bits .and .u64 (a0 / 2) 6148914691236517205) + (Go.bits .and .u64 a0 6148914691236517205))) 3689348814741910323))))) 1085102592571150095) / 256))) / 65536))) + ((IntKind.u64.wrap ((IntKind.u64.wrap ((Go.bits .and .u64 (IntKind.u64.wrap (((IntKind.u64.wrap ((Go.bits .and .u64 ((IntKind.u64.wrap ((Go.bits .and .u64 (a0 / 2) 6148914691236517205) + (Go.bits .and .u64 a0 6148914691236517205))) / 4) 3689348814741910323) + (Go.bits .and .u64 (IntKind.u64.wrap ((Go.bits .and .u64 (a0 / 2) 6148914691236517205) + (Go.bits .and .u64 a0 6148914691236517205))) 3689348814741910323))) / 16) + (IntKind.u64.wrap ((Go.bits .and .u64 ((IntKind.u64.wrap ((Go.bits .and .u64 (a0 / 2) 6148914691236517205) + (Go.bits .and .u64 a0 6148914691236517205))) / 4) 3689348814741910323) + (Go.bits .and .u64 (IntKind.u64.wrap ((Go.bits .and .u64 (a0 / 2) 6148914691236517205) + (Go.bits .and .u64 a0 6148914691236517205))) 3689348814741910323))))) 1085102592571150095) + ((Go.bits .and .u64 (IntKind.u64.wrap (((IntKind.u64.wrap ((Go.bits .and .u64 ((IntKind.u64.wrap ((Go.bits .and .u64 (a0 / 2) 6148914691236517205) + (Go.bits .and .u64 a0 6148914691236517205))) / 4) 3689348814741910323) + (Go.bits .and .u64 (IntKind.u64.wrap ((Go.bits .and .u64 (a0 / 2) 6148914691236517205) + (Go.bits .and .u64 a0 6148914691236517205))) 3689348814741910323))) / 16) + (IntKind.u64.wrap ((Go.bits .and .u64 ((IntKind.u64.wrap ((Go.bits .and .u64 (a0 / 2) 6148914691236517205) + (Go.bits .and .u64 a0 6148914691236517205))) / 4) 3689348814741910323) + (Go.bits .and .u64 (IntKind.u64.wrap ((Go.bits .and .u64 (a0 / 2) 6148914691236517205) + (Go.bits .and .u64 a0 6148914691236517205))) 3689348814741910323))))) 1085102592571150095) / 256))) + ((IntKind.u64.wrap ((Go.bits .and .u64 (IntKind.u64.wrap (((IntKind.u64.wrap ((Go.bits .and .u64 ((IntKind.u64.wrap ((Go.bits .and .u64 (a0 / 2) 6148914691236517205) + (Go.bits .and .u64 a0 6148914691236517205))) / 4) 3689348814741910323) + (Go.bits .and .u64 (IntKind.u64.wrap ((Go.bits .and .u64 (a0 / 2) 6148914691236517205) + (Go.bits .and .u64 a0 6148914691236517205))) 3689348814741910323))) / 16) + (IntKind.u64.wrap ((Go.bits .and .u64 ((IntKind.u64.wrap ((Go.bits .and .u64 (a0 / 2) 6148914691236517205) + (Go.bits .and .u64 a0 6148914691236517205))) / 4) 3689348814741910323) + (Go.bits .and .u64 (IntKind.u64.wrap ((Go.bits .and .u64 (a0 / 2) 6148914691236517205) + (Go.bits .and .u64 a0 6148914691236517205))) 3689348814741910323))))) 1085102592571150095) + ((Go.bits .and .u64 (IntKind.u64.wrap (((IntKind.u64.wrap ((Go.bits .and .u64 ((IntKind.u64.wrap ((Go.bits .and .u64 (a0 / 2) 6148914691236517205) + (Go.bits .and .u64 a0 6148914691236517205))) / 4) 3689348814741910323) + (Go.bits .and .u64 (IntKind.u64.wrap ((Go.bits .and .u64 (a0 / 2) 6148914691236517205) + (Go.bits .and .u64 a0 6148914691236517205))) 3689348814741910323))) / 16) + (IntKind.u64.wrap ((Go.bits .and .u64 ((IntKind.u64.wrap ((Go.bits .and .u64 (a0 / 2) 6148914691236517205) + (Go.bits .and .u64 a0 6148914691236517205))) / 4) 3689348814741910323) + (Go.bits .and .u64 (IntKind.u64.wrap ((Go.bits .and .u64 (a0 / 2) 6148914691236517205) + (Go.bits .and .u64 a0 6148914691236517205))) 3689348814741910323))))) 1085102592571150095) / 256))) / 65536))) / 4294967296)))) 127)) = some r := h
 clear h
 obtain rfl := Option.some.inj H
 go_enter Tryd.func54, Tryd.ntmps54
 go_wp2
 go_ret
 exact ⟨by first | rfl | (rw [HLAST.out]; done) | (simp [HLAST.out]; done) | (have HL_ := HLAST.out; simp_all; done) | (simp; done) | (simp [*]; done), by repeat (first | exact Drawn0.refl _ | apply Drawn0.step)⟩

/-! ### bits_OnesCount: function 37 -/
def bits_OnesCount.f (a0 : Int) : Option (Int) := (bits_OnesCount64.f a0).bind fun t104 => (some t104)
set_option maxHeartbeats 8000000 in
set_option maxRecDepth 100000 in
theorem bits_OnesCount.calls (a0 : Int) (r : Int) (w : World) (h : bits_OnesCount.f a0 = some r) :
  Calls Tryd.prog 37 #[.int .u64 a0] w fun e w' => e = .returned (.int .i64 r) ∧ Drawn0 w w' := by
 have H : ((bits_OnesCount64.f a0).bind fun t104 => (some t104)) = some r := h
 clear h
 replace H := Option.bind_eq_some_iff.mp H
 obtain ⟨t104, A20, H⟩ := H
 replace H : (some t104) = some r := H
 have A2 := Aside0.mk A20
 clear A20
 obtain rfl := Option.some.inj H
 go_enter Tryd.func37, Tryd.ntmps37
 go_wp2_with (first | ((with_reducible refine gate_callee (f := 54) rfl ?_); refine goesL_ (some 7) rfl rfl Tryd.func54 (by kernel_rfl) rfl #[.int .u64 a0] rfl (by (try simp only [List.map_toArray, List.map_cons, List.map_nil]); first | done | rfl | (simp only [List.length_drop, List.length_take]; rfl)) ?_; (with_reducible refine (bits_OnesCount64.calls a0 t104 _ A2.out).mono ?_); rintro e w' ⟨rfl, ⟨nd, rfl⟩⟩; refine ⟨_, rfl, ?_⟩))
 go_ret
 exact ⟨by first | rfl | (rw [HLAST.out]; done) | (simp [HLAST.out]; done) | (have HL_ := HLAST.out; simp_all; done) | (simp; done) | (simp [*]; done), by repeat (first | exact Drawn0.refl _ | apply Drawn0.step)⟩

-- NOT PRINTED: function 55 (bits_TrailingZeros32)

-- GIVEN: function 56 (bits_TrailingZeros64)

/-! ### bits_TrailingZeros: function 38 -/
def bits_TrailingZeros.f (a0 : Int) : Option (Int) := (bits_TrailingZeros64.f a0).bind fun t105 => (some t105)
set_option maxHeartbeats 8000000 in
set_option maxRecDepth 100000 in
theorem bits_TrailingZeros.calls (a0 : Int) (r : Int) (w : World) (hG : GLaid w) (h : bits_TrailingZeros.f a0 = some r) :
  Calls Tryd.prog 38 #[.int .u64 a0] w fun e w' => e = .returned (.int .i64 r) ∧ Drawn0 w w' := by
 have HG := Aside0.mk hG
 clear hG
 have H : ((bits_TrailingZeros64.f a0).bind fun t105 => (some t105)) = some r := h
 clear h
 replace H := Option.bind_eq_some_iff.mp H
 obtain ⟨t105, A20, H⟩ := H
 replace H : (some t105) = some r := H
 have A2 := Aside0.mk A20
 clear A20
 obtain rfl := Option.some.inj H
 go_enter Tryd.func38, Tryd.ntmps38
 go_wp2_with (first | ((with_reducible refine gate_callee (f := 56) rfl ?_); refine goesL_ (some 7) rfl rfl Tryd.func56 (by kernel_rfl) rfl #[.int .u64 a0] rfl (by (try simp only [List.map_toArray, List.map_cons, List.map_nil]); first | done | rfl | (simp only [List.length_drop, List.length_take]; rfl)) ?_; (with_reducible refine (bits_TrailingZeros64.calls a0 t105 _ (by first | exact HG.out | (repeat (first | exact HG.out | apply GLaid.drewN | apply GLaid.drew))) A2.out).mono ?_); rintro e w' ⟨rfl, ⟨nd, rfl⟩⟩; refine ⟨_, rfl, ?_⟩))
 go_ret
 exact ⟨by first | rfl | (rw [HLAST.out]; done) | (simp [HLAST.out]; done) | (have HL_ := HLAST.out; simp_all; done) | (simp; done) | (simp [*]; done), by repeat (first | exact Drawn0.refl _ | apply Drawn0.step)⟩

/-! ### graph_Feeds: function 14 -/
def graph_Feeds.f (k : Nat) (a0 : Int) (a1 : Int) : Option (Int) := if a1 < 4 then (some (-1)) else ((graph_fed.f k a0 a1).bind fun t106 => ((bits_OnesCount.f (IntKind.u64.wrap (t106))).bind fun t107 => (if t107 = 1 then ((bits_TrailingZeros.f (IntKind.u64.wrap (t106))).bind fun t108 => (some t108)) else (some (-1)))))
theorem graph_Feeds.mono : ∀ a0 a1 k, LeO (graph_Feeds.f k a0 a1) (graph_Feeds.f (k + 1) a0 a1) := by
 intro a0 a1 k
 unfold graph_Feeds.f
 repeat' first
   | (with_reducible exact graph_fed.mono _ _ _)
   | (with_reducible exact LeO.refl _)
   | (with_reducible exact LeO.none _)
   | (with_reducible refine LeO.ite ?_ ?_)
   | (with_reducible refine LeO.bind ?_ (fun _ => ?_))
   | exact graph_fed.mono _ _ _
   | exact LeO.none _
   | refine LeO.ite ?_ ?_
   | refine LeO.bind ?_ (fun _ => ?_)
set_option maxHeartbeats 8000000 in
set_option maxRecDepth 100000 in
theorem graph_Feeds.calls (k : Nat) (a0 : Int) (a1 : Int) (r : Int) (w : World) (hG : GLaid w) (h : graph_Feeds.f k a0 a1 = some r) :
  Calls Tryd.prog 14 #[.int .i64 a0, .int .i64 a1] w fun e w' => e = .returned (.int .i64 r) ∧ Drawn0 w w' := by
 have HG := Aside0.mk hG
 clear hG
 have H : (if a1 < 4 then (some (-1)) else ((graph_fed.f k a0 a1).bind fun t106 => ((bits_OnesCount.f (IntKind.u64.wrap (t106))).bind fun t107 => (if t107 = 1 then ((bits_TrailingZeros.f (IntKind.u64.wrap (t106))).bind fun t108 => (some t108)) else (some (-1)))))) = some r := h
 clear h
 by_cases c3 : a1 < 4
 ·rw [if_pos c3] at H
  have c3b0 : decide (a1 < 4) = true := decide_eq_true c3
  clear c3
  obtain rfl := Option.some.inj H
  go_enter Tryd.func14, Tryd.ntmps14
  go_wp2
  go_ret
  exact ⟨by first | rfl | (rw [HLAST.out]; done) | (simp [HLAST.out]; done) | (have HL_ := HLAST.out; simp_all; done) | (simp; done) | (simp [*]; done), by repeat (first | exact Drawn0.refl _ | apply Drawn0.step)⟩
 ·rw [if_neg c3] at H
  have c3b0 : decide (a1 < 4) = false := decide_eq_false c3
  clear c3
  replace H := Option.bind_eq_some_iff.mp H
  obtain ⟨t106, A40, H⟩ := H
  replace H : ((bits_OnesCount.f (IntKind.u64.wrap (t106))).bind fun t107 => (if t107 = 1 then ((bits_TrailingZeros.f (IntKind.u64.wrap (t106))).bind fun t108 => (some t108)) else (some (-1)))) = some r := H
  have A4 := Aside0.mk A40
  clear A40
  replace H := Option.bind_eq_some_iff.mp H
  obtain ⟨t107, A50, H⟩ := H
  replace H : (if t107 = 1 then ((bits_TrailingZeros.f (IntKind.u64.wrap (t106))).bind fun t108 => (some t108)) else (some (-1))) = some r := H
  have A5 := Aside0.mk A50
  clear A50
  by_cases c6 : t107 = 1
  ·rw [if_pos c6] at H
   have c6b0 : (t107 == 1) = true := beq_iff_eq.mpr c6
   have c6b1 : (t107 != 1) = false := bne_eq_false_iff_eq.mpr c6
   clear c6
   replace H := Option.bind_eq_some_iff.mp H
   obtain ⟨t108, A70, H⟩ := H
   replace H : (some t108) = some r := H
   have A7 := Aside0.mk A70
   clear A70
   obtain rfl := Option.some.inj H
   go_enter Tryd.func14, Tryd.ntmps14
   go_wp2_with (first | ((with_reducible refine gate_callee (f := 36) rfl ?_); refine goesL_ (some 10) rfl rfl Tryd.func36 (by kernel_rfl) rfl #[.int .i64 a0, .int .i64 a1] rfl (by (try simp only [List.map_toArray, List.map_cons, List.map_nil]); first | done | rfl | (simp only [List.length_drop, List.length_take]; rfl)) ?_; (with_reducible refine (graph_fed.calls k a0 a1 t106 _ A4.out).mono ?_); rintro e w' ⟨rfl, ⟨nd, rfl⟩⟩; refine ⟨_, rfl, ?_⟩) | ((with_reducible refine gate_callee (f := 37) rfl ?_); refine goesL_ (some 13) rfl rfl Tryd.func37 (by kernel_rfl) rfl #[.int .u64 (IntKind.u64.wrap (t106))] rfl (by (try simp only [List.map_toArray, List.map_cons, List.map_nil]); first | done | rfl | (simp only [List.length_drop, List.length_take]; rfl)) ?_; (with_reducible refine (bits_OnesCount.calls (IntKind.u64.wrap (t106)) t107 _ A5.out).mono ?_); rintro e w' ⟨rfl, ⟨nd, rfl⟩⟩; refine ⟨_, rfl, ?_⟩) | ((with_reducible refine gate_callee (f := 38) rfl ?_); refine goesL_ (some 16) rfl rfl Tryd.func38 (by kernel_rfl) rfl #[.int .u64 (IntKind.u64.wrap (t106))] rfl (by (try simp only [List.map_toArray, List.map_cons, List.map_nil]); first | done | rfl | (simp only [List.length_drop, List.length_take]; rfl)) ?_; (with_reducible refine (bits_TrailingZeros.calls (IntKind.u64.wrap (t106)) t108 _ (by first | exact HG.out | (repeat (first | exact HG.out | apply GLaid.drewN | apply GLaid.drew))) A7.out).mono ?_); rintro e w' ⟨rfl, ⟨nd, rfl⟩⟩; refine ⟨_, rfl, ?_⟩))
   go_ret
   exact ⟨by first | rfl | (rw [HLAST.out]; done) | (simp [HLAST.out]; done) | (have HL_ := HLAST.out; simp_all; done) | (simp; done) | (simp [*]; done), by repeat (first | exact Drawn0.refl _ | apply Drawn0.step)⟩
  ·rw [if_neg c6] at H
   have c6b0 : (t107 == 1) = false := beq_eq_false_iff_ne.mpr c6
   have c6b1 : (t107 != 1) = true := bne_iff_ne.mpr c6
   obtain rfl := Option.some.inj H
   go_enter Tryd.func14, Tryd.ntmps14
   go_wp2_with (first | ((with_reducible refine gate_callee (f := 36) rfl ?_); refine goesL_ (some 10) rfl rfl Tryd.func36 (by kernel_rfl) rfl #[.int .i64 a0, .int .i64 a1] rfl (by (try simp only [List.map_toArray, List.map_cons, List.map_nil]); first | done | rfl | (simp only [List.length_drop, List.length_take]; rfl)) ?_; (with_reducible refine (graph_fed.calls k a0 a1 t106 _ A4.out).mono ?_); rintro e w' ⟨rfl, ⟨nd, rfl⟩⟩; refine ⟨_, rfl, ?_⟩) | ((with_reducible refine gate_callee (f := 37) rfl ?_); refine goesL_ (some 13) rfl rfl Tryd.func37 (by kernel_rfl) rfl #[.int .u64 (IntKind.u64.wrap (t106))] rfl (by (try simp only [List.map_toArray, List.map_cons, List.map_nil]); first | done | rfl | (simp only [List.length_drop, List.length_take]; rfl)) ?_; (with_reducible refine (bits_OnesCount.calls (IntKind.u64.wrap (t106)) t107 _ A5.out).mono ?_); rintro e w' ⟨rfl, ⟨nd, rfl⟩⟩; refine ⟨_, rfl, ?_⟩))
   go_ret
   exact ⟨by first | rfl | (rw [HLAST.out]; done) | (simp [HLAST.out]; done) | (have HL_ := HLAST.out; simp_all; done) | (simp; done) | (simp [*]; done), by repeat (first | exact Drawn0.refl _ | apply Drawn0.step)⟩

/-! ### graph_Parts: function 22 -/
def graph_Parts.l0 : Nat → Int → Int → Int → Option (Int)
 | 0, _, _, _ => none
 | k + 1, x0, x3, x5 => if x5 < 7 then ((graph_Reach.f k x0 x5).bind fun t109 => ((bits_TrailingZeros.f (IntKind.u64.wrap (t109))).bind fun t110 => (if t110 = x5 then (graph_Parts.l0 k x0 (wrap64 (x3 + 1)) (wrap64 (x5 + 1))) else (graph_Parts.l0 k x0 x3 (wrap64 (x5 + 1)))))) else (some x3)
def graph_Parts.f (k : Nat) (a0 : Int) : Option (Int) := graph_Parts.l0 k a0 0 0
theorem graph_Parts.mono_l : ∀ k, (∀ y0 y1 y2, LeO (graph_Parts.l0 k y0 y1 y2) (graph_Parts.l0 (k + 1) y0 y1 y2))
 | 0 => fun _ _ _ r h => by simp [graph_Parts.l0] at h
 | k + 1 => by
  have ih0 := graph_Parts.mono_l k
  ·intro y0 y1 y2
   unfold graph_Parts.l0
   repeat' first
   | (with_reducible exact ih0 _ _ _)
   | (with_reducible exact graph_Reach.mono _ _ _)
   | (with_reducible exact LeO.refl _)
   | (with_reducible exact LeO.none _)
   | (with_reducible refine LeO.ite ?_ ?_)
   | (with_reducible refine LeO.bind ?_ (fun _ => ?_))
   | exact ih0 _ _ _
   | exact graph_Reach.mono _ _ _
   | exact LeO.none _
   | refine LeO.ite ?_ ?_
   | refine LeO.bind ?_ (fun _ => ?_)
theorem graph_Parts.mono : ∀ a0 k, LeO (graph_Parts.f k a0) (graph_Parts.f (k + 1) a0) := by
 intro a0 k
 have ih0 := graph_Parts.mono_l k
 unfold graph_Parts.f
 repeat' first
   | (with_reducible exact ih0 _ _ _)
   | (with_reducible exact graph_Reach.mono _ _ _)
   | (with_reducible exact LeO.refl _)
   | (with_reducible exact LeO.none _)
   | (with_reducible refine LeO.ite ?_ ?_)
   | (with_reducible refine LeO.bind ?_ (fun _ => ?_))
   | exact ih0 _ _ _
   | exact graph_Reach.mono _ _ _
   | exact LeO.none _
   | refine LeO.ite ?_ ?_
   | refine LeO.bind ?_ (fun _ => ?_)
set_option maxHeartbeats 8000000 in
set_option maxRecDepth 100000 in
theorem graph_Parts.calls (k : Nat) (a0 : Int) (r : Int) (w : World) (hG : GLaid w) (h : graph_Parts.f k a0 = some r) :
  Calls Tryd.prog 22 #[.int .i64 a0] w fun e w' => e = .returned (.int .i64 r) ∧ Drawn0 w w' := by
 have HG := Aside0.mk hG
 clear hG
 have H : (graph_Parts.l0 k a0 0 0) = some r := h
 clear h
 have H' := Aside0.mk H
 clear H
 go_enter Tryd.func22, Tryd.ntmps22
 go_wp2
 go_loopg [3, 5] k (fun kq v3 v5 w' => ∃ (x3_1 : Int) (x5_1 : Int), v3 = .int .i64 x3_1 ∧ v5 = .int .i64 x5_1 ∧ Aside0 (graph_Parts.l0 kq a0 x3_1 x5_1 = some r) ∧ Aside0 (kq ≤ k) ∧ Drawn0 w w')
 case atStart => exact ⟨(0), (0), (by first | rfl | (simp; done) | (simp [*]; done)), (by first | rfl | (simp; done) | (simp [*]; done)), H', ⟨Nat.le_refl _⟩, by repeat (first | exact Drawn0.refl _ | apply Drawn0.step)⟩
 case round =>
  clear H'
  obtain ⟨x3_1, x5_1, rfl, rfl, HA, HK1, ⟨m1, rfl⟩⟩ := hrel
  cases gk with
  | zero => exact absurd HA.out (by simp [graph_Parts.l0])
  | succ k1 =>
   have H := HA.out
   clear HA
   simp only [graph_Parts.l0] at H
   by_cases c2 : x5_1 < 7
   ·rw [if_pos c2] at H
    have c2b0 : decide (x5_1 < 7) = true := decide_eq_true c2
    clear c2
    replace H := Option.bind_eq_some_iff.mp H
    obtain ⟨t109, A30, H⟩ := H
    replace H : ((bits_TrailingZeros.f (IntKind.u64.wrap (t109))).bind fun t110 => (if t110 = x5_1 then (graph_Parts.l0 k1 a0 (wrap64 (x3_1 + 1)) (wrap64 (x5_1 + 1))) else (graph_Parts.l0 k1 a0 x3_1 (wrap64 (x5_1 + 1))))) = some r := H
    have A3 := Aside0.mk A30
    clear A30
    replace H := Option.bind_eq_some_iff.mp H
    obtain ⟨t110, A40, H⟩ := H
    replace H : (if t110 = x5_1 then (graph_Parts.l0 k1 a0 (wrap64 (x3_1 + 1)) (wrap64 (x5_1 + 1))) else (graph_Parts.l0 k1 a0 x3_1 (wrap64 (x5_1 + 1)))) = some r := H
    have A4 := Aside0.mk A40
    clear A40
    by_cases c5 : t110 = x5_1
    ·rw [if_pos c5] at H
     have c5b0 : (t110 == x5_1) = true := beq_iff_eq.mpr c5
     have c5b1 : (t110 != x5_1) = false := bne_eq_false_iff_eq.mpr c5
     clear c5
     have H' := Aside0.mk H
     clear H
     go_wp2_with (first | ((with_reducible refine gate_callee (f := 15) rfl ?_); refine goesL_ (some 10) rfl rfl Tryd.func15 (by kernel_rfl) rfl #[.int .i64 a0, .int .i64 x5_1] rfl (by (try simp only [List.map_toArray, List.map_cons, List.map_nil]); first | done | rfl | (simp only [List.length_drop, List.length_take]; rfl)) ?_; (with_reducible refine (graph_Reach.calls k1 a0 x5_1 t109 _ A3.out).mono ?_); rintro e w' ⟨rfl, ⟨nd, rfl⟩⟩; refine ⟨_, rfl, ?_⟩) | ((with_reducible refine gate_callee (f := 38) rfl ?_); refine goesL_ (some 12) rfl rfl Tryd.func38 (by kernel_rfl) rfl #[.int .u64 (IntKind.u64.wrap (t109))] rfl (by (try simp only [List.map_toArray, List.map_cons, List.map_nil]); first | done | rfl | (simp only [List.length_drop, List.length_take]; rfl)) ?_; (with_reducible refine (bits_TrailingZeros.calls (IntKind.u64.wrap (t109)) t110 _ (by first | exact HG.out | (repeat (first | exact HG.out | apply GLaid.drewN | apply GLaid.drew))) A4.out).mono ?_); rintro e w' ⟨rfl, ⟨nd, rfl⟩⟩; refine ⟨_, rfl, ?_⟩))
     go_roundg k1
     case measure => have := HK1.out; omega
     case rel => exact ⟨(wrap64 (x3_1 + 1)), (wrap64 (x5_1 + 1)), (by first | rfl | (simp; done) | (simp [*]; done)), (by first | rfl | (simp; done) | (simp [*]; done)), H', ⟨by have := HK1.out; omega⟩, by repeat (first | exact Drawn0.refl _ | apply Drawn0.step)⟩
    ·rw [if_neg c5] at H
     have c5b0 : (t110 == x5_1) = false := beq_eq_false_iff_ne.mpr c5
     have c5b1 : (t110 != x5_1) = true := bne_iff_ne.mpr c5
     have H' := Aside0.mk H
     clear H
     go_wp2_with (first | ((with_reducible refine gate_callee (f := 15) rfl ?_); refine goesL_ (some 10) rfl rfl Tryd.func15 (by kernel_rfl) rfl #[.int .i64 a0, .int .i64 x5_1] rfl (by (try simp only [List.map_toArray, List.map_cons, List.map_nil]); first | done | rfl | (simp only [List.length_drop, List.length_take]; rfl)) ?_; (with_reducible refine (graph_Reach.calls k1 a0 x5_1 t109 _ A3.out).mono ?_); rintro e w' ⟨rfl, ⟨nd, rfl⟩⟩; refine ⟨_, rfl, ?_⟩) | ((with_reducible refine gate_callee (f := 38) rfl ?_); refine goesL_ (some 12) rfl rfl Tryd.func38 (by kernel_rfl) rfl #[.int .u64 (IntKind.u64.wrap (t109))] rfl (by (try simp only [List.map_toArray, List.map_cons, List.map_nil]); first | done | rfl | (simp only [List.length_drop, List.length_take]; rfl)) ?_; (with_reducible refine (bits_TrailingZeros.calls (IntKind.u64.wrap (t109)) t110 _ (by first | exact HG.out | (repeat (first | exact HG.out | apply GLaid.drewN | apply GLaid.drew))) A4.out).mono ?_); rintro e w' ⟨rfl, ⟨nd, rfl⟩⟩; refine ⟨_, rfl, ?_⟩))
     go_roundg k1
     case measure => have := HK1.out; omega
     case rel => exact ⟨(x3_1), (wrap64 (x5_1 + 1)), (by first | rfl | (simp; done) | (simp [*]; done)), (by first | rfl | (simp; done) | (simp [*]; done)), H', ⟨by have := HK1.out; omega⟩, by repeat (first | exact Drawn0.refl _ | apply Drawn0.step)⟩
   ·rw [if_neg c2] at H
    have c2b0 : decide (x5_1 < 7) = false := decide_eq_false c2
    clear c2
    obtain rfl := Option.some.inj H
    go_wp2
    go_ret
    exact ⟨by first | rfl | (rw [HLAST.out]; done) | (simp [HLAST.out]; done) | (have HL_ := HLAST.out; simp_all; done) | (simp; done) | (simp [*]; done), by repeat (first | exact Drawn0.refl _ | apply Drawn0.step)⟩

/-! ### dynamolaw21_first: function 12 -/
def dynamolaw21_first.f (k : Nat)  : Option (Bool) := (graph_Ends.f 0).bind fun bt111 => ((graph_Parts.f k 0).bind fun t113 => (if t113 = 7 then (if bt111.1 = 0 then (if bt111.2 = 4 then ((graph_Feeds.f k 1 4).bind fun t114 => (some (t114 == 0))) else (some false)) else (some false)) else (some false)))
theorem dynamolaw21_first.mono : ∀ k, LeO (dynamolaw21_first.f k ) (dynamolaw21_first.f (k + 1) ) := by
 intro  k
 unfold dynamolaw21_first.f
 repeat' first
   | (with_reducible exact graph_Feeds.mono _ _ _)
   | (with_reducible exact graph_Parts.mono _ _)
   | (with_reducible exact LeO.refl _)
   | (with_reducible exact LeO.none _)
   | (with_reducible refine LeO.ite ?_ ?_)
   | (with_reducible refine LeO.bind ?_ (fun _ => ?_))
   | exact graph_Feeds.mono _ _ _
   | exact graph_Parts.mono _ _
   | exact LeO.none _
   | refine LeO.ite ?_ ?_
   | refine LeO.bind ?_ (fun _ => ?_)
set_option maxHeartbeats 8000000 in
set_option maxRecDepth 100000 in
theorem dynamolaw21_first.calls (k : Nat)  (r : Bool) (w : World) (hG : GLaid w) (h : dynamolaw21_first.f k  = some r) :
  Calls Tryd.prog 12 #[] w fun e w' => e = .returned (.bool r) ∧ Drawn0 w w' := by
 have HG := Aside0.mk hG
 clear hG
 have H : ((graph_Ends.f 0).bind fun bt111 => ((graph_Parts.f k 0).bind fun t113 => (if t113 = 7 then (if bt111.1 = 0 then (if bt111.2 = 4 then ((graph_Feeds.f k 1 4).bind fun t114 => (some (t114 == 0))) else (some false)) else (some false)) else (some false)))) = some r := h
 clear h
 replace H := Option.bind_eq_some_iff.mp H
 obtain ⟨⟨t111, t112⟩, A10, H⟩ := H
 replace H : ((graph_Parts.f k 0).bind fun t113 => (if t113 = 7 then (if t111 = 0 then (if t112 = 4 then ((graph_Feeds.f k 1 4).bind fun t114 => (some (t114 == 0))) else (some false)) else (some false)) else (some false))) = some r := H
 have A1 := Aside0.mk A10
 clear A10
 replace H := Option.bind_eq_some_iff.mp H
 obtain ⟨t113, A20, H⟩ := H
 replace H : (if t113 = 7 then (if t111 = 0 then (if t112 = 4 then ((graph_Feeds.f k 1 4).bind fun t114 => (some (t114 == 0))) else (some false)) else (some false)) else (some false)) = some r := H
 have A2 := Aside0.mk A20
 clear A20
 by_cases c3 : t113 = 7
 ·rw [if_pos c3] at H
  have c3b0 : (t113 == 7) = true := beq_iff_eq.mpr c3
  have c3b1 : (t113 != 7) = false := bne_eq_false_iff_eq.mpr c3
  clear c3
  by_cases c4 : t111 = 0
  ·rw [if_pos c4] at H
   have c4b0 : (t111 == 0) = true := beq_iff_eq.mpr c4
   have c4b1 : (t111 != 0) = false := bne_eq_false_iff_eq.mpr c4
   clear c4
   by_cases c5 : t112 = 4
   ·rw [if_pos c5] at H
    have c5b0 : (t112 == 4) = true := beq_iff_eq.mpr c5
    have c5b1 : (t112 != 4) = false := bne_eq_false_iff_eq.mpr c5
    clear c5
    replace H := Option.bind_eq_some_iff.mp H
    obtain ⟨t114, A60, H⟩ := H
    replace H : (some (t114 == 0)) = some r := H
    have A6 := Aside0.mk A60
    clear A60
    obtain rfl := Option.some.inj H
    go_enter Tryd.func12, Tryd.ntmps12
    go_wp2_with (first | ((with_reducible refine gate_callee (f := 17) rfl ?_); refine goesL_ (some 4) rfl rfl Tryd.func17 (by kernel_rfl) rfl #[.int .i64 0] rfl (by (try simp only [List.map_toArray, List.map_cons, List.map_nil]); first | done | rfl | (simp only [List.length_drop, List.length_take]; rfl)) ?_; (with_reducible refine (graph_Ends.calls 0 t111 t112 _ A1.out).mono ?_); rintro e w' ⟨rfl, ⟨nd, rfl⟩⟩; refine ⟨_, rfl, ?_⟩) | ((with_reducible refine gate_callee (f := 22) rfl ?_); refine goesL_ (some 7) rfl rfl Tryd.func22 (by kernel_rfl) rfl #[.int .i64 0] rfl (by (try simp only [List.map_toArray, List.map_cons, List.map_nil]); first | done | rfl | (simp only [List.length_drop, List.length_take]; rfl)) ?_; (with_reducible refine (graph_Parts.calls k 0 t113 _ (by first | exact HG.out | (repeat (first | exact HG.out | apply GLaid.drewN | apply GLaid.drew))) A2.out).mono ?_); rintro e w' ⟨rfl, ⟨nd, rfl⟩⟩; refine ⟨_, rfl, ?_⟩) | (go_at_call 14; (with_reducible refine (graph_Feeds.calls k 1 4 t114 _ (by first | exact HG.out | (repeat (first | exact HG.out | apply GLaid.drewN | apply GLaid.drew))) A6.out).mono ?_); rintro e w' ⟨rfl, ⟨nd, rfl⟩⟩))
    go_ret
    exact ⟨by first | rfl | (rw [HLAST.out]; done) | (simp [HLAST.out]; done) | (have HL_ := HLAST.out; simp_all; done) | (simp; done) | (simp [*]; done), by repeat (first | exact Drawn0.refl _ | apply Drawn0.step)⟩
   ·rw [if_neg c5] at H
    have c5b0 : (t112 == 4) = false := beq_eq_false_iff_ne.mpr c5
    have c5b1 : (t112 != 4) = true := bne_iff_ne.mpr c5
    obtain rfl := Option.some.inj H
    go_enter Tryd.func12, Tryd.ntmps12
    go_wp2_with (first | ((with_reducible refine gate_callee (f := 17) rfl ?_); refine goesL_ (some 4) rfl rfl Tryd.func17 (by kernel_rfl) rfl #[.int .i64 0] rfl (by (try simp only [List.map_toArray, List.map_cons, List.map_nil]); first | done | rfl | (simp only [List.length_drop, List.length_take]; rfl)) ?_; (with_reducible refine (graph_Ends.calls 0 t111 t112 _ A1.out).mono ?_); rintro e w' ⟨rfl, ⟨nd, rfl⟩⟩; refine ⟨_, rfl, ?_⟩) | ((with_reducible refine gate_callee (f := 22) rfl ?_); refine goesL_ (some 7) rfl rfl Tryd.func22 (by kernel_rfl) rfl #[.int .i64 0] rfl (by (try simp only [List.map_toArray, List.map_cons, List.map_nil]); first | done | rfl | (simp only [List.length_drop, List.length_take]; rfl)) ?_; (with_reducible refine (graph_Parts.calls k 0 t113 _ (by first | exact HG.out | (repeat (first | exact HG.out | apply GLaid.drewN | apply GLaid.drew))) A2.out).mono ?_); rintro e w' ⟨rfl, ⟨nd, rfl⟩⟩; refine ⟨_, rfl, ?_⟩))
    go_ret
    exact ⟨by first | rfl | (rw [HLAST.out]; done) | (simp [HLAST.out]; done) | (have HL_ := HLAST.out; simp_all; done) | (simp; done) | (simp [*]; done), by repeat (first | exact Drawn0.refl _ | apply Drawn0.step)⟩
  ·rw [if_neg c4] at H
   have c4b0 : (t111 == 0) = false := beq_eq_false_iff_ne.mpr c4
   have c4b1 : (t111 != 0) = true := bne_iff_ne.mpr c4
   obtain rfl := Option.some.inj H
   go_enter Tryd.func12, Tryd.ntmps12
   go_wp2_with (first | ((with_reducible refine gate_callee (f := 17) rfl ?_); refine goesL_ (some 4) rfl rfl Tryd.func17 (by kernel_rfl) rfl #[.int .i64 0] rfl (by (try simp only [List.map_toArray, List.map_cons, List.map_nil]); first | done | rfl | (simp only [List.length_drop, List.length_take]; rfl)) ?_; (with_reducible refine (graph_Ends.calls 0 t111 t112 _ A1.out).mono ?_); rintro e w' ⟨rfl, ⟨nd, rfl⟩⟩; refine ⟨_, rfl, ?_⟩) | ((with_reducible refine gate_callee (f := 22) rfl ?_); refine goesL_ (some 7) rfl rfl Tryd.func22 (by kernel_rfl) rfl #[.int .i64 0] rfl (by (try simp only [List.map_toArray, List.map_cons, List.map_nil]); first | done | rfl | (simp only [List.length_drop, List.length_take]; rfl)) ?_; (with_reducible refine (graph_Parts.calls k 0 t113 _ (by first | exact HG.out | (repeat (first | exact HG.out | apply GLaid.drewN | apply GLaid.drew))) A2.out).mono ?_); rintro e w' ⟨rfl, ⟨nd, rfl⟩⟩; refine ⟨_, rfl, ?_⟩))
   go_ret
   exact ⟨by first | rfl | (rw [HLAST.out]; done) | (simp [HLAST.out]; done) | (have HL_ := HLAST.out; simp_all; done) | (simp; done) | (simp [*]; done), by repeat (first | exact Drawn0.refl _ | apply Drawn0.step)⟩
 ·rw [if_neg c3] at H
  have c3b0 : (t113 == 7) = false := beq_eq_false_iff_ne.mpr c3
  have c3b1 : (t113 != 7) = true := bne_iff_ne.mpr c3
  obtain rfl := Option.some.inj H
  go_enter Tryd.func12, Tryd.ntmps12
  go_wp2_with (first | ((with_reducible refine gate_callee (f := 17) rfl ?_); refine goesL_ (some 4) rfl rfl Tryd.func17 (by kernel_rfl) rfl #[.int .i64 0] rfl (by (try simp only [List.map_toArray, List.map_cons, List.map_nil]); first | done | rfl | (simp only [List.length_drop, List.length_take]; rfl)) ?_; (with_reducible refine (graph_Ends.calls 0 t111 t112 _ A1.out).mono ?_); rintro e w' ⟨rfl, ⟨nd, rfl⟩⟩; refine ⟨_, rfl, ?_⟩) | ((with_reducible refine gate_callee (f := 22) rfl ?_); refine goesL_ (some 7) rfl rfl Tryd.func22 (by kernel_rfl) rfl #[.int .i64 0] rfl (by (try simp only [List.map_toArray, List.map_cons, List.map_nil]); first | done | rfl | (simp only [List.length_drop, List.length_take]; rfl)) ?_; (with_reducible refine (graph_Parts.calls k 0 t113 _ (by first | exact HG.out | (repeat (first | exact HG.out | apply GLaid.drewN | apply GLaid.drew))) A2.out).mono ?_); rintro e w' ⟨rfl, ⟨nd, rfl⟩⟩; refine ⟨_, rfl, ?_⟩))
  go_ret
  exact ⟨by first | rfl | (rw [HLAST.out]; done) | (simp [HLAST.out]; done) | (have HL_ := HLAST.out; simp_all; done) | (simp; done) | (simp [*]; done), by repeat (first | exact Drawn0.refl _ | apply Drawn0.step)⟩

/-! ### dynamoref15_Ends: function 18 -/
def dynamoref15_Ends.f (a0 : Int) : Option (Int × Int) := if a0 = 0 then (some (0, 4)) else (if a0 = 1 then (some (1, 4)) else (if a0 = 2 then (some (2, 5)) else (if a0 = 3 then (some (3, 5)) else (if a0 = 4 then (some (4, 5)) else (if a0 = 5 then (some (4, 6)) else (if a0 = 6 then (some (5, 6)) else (some ((-1), (-1)))))))))
set_option maxHeartbeats 8000000 in
set_option maxRecDepth 100000 in
theorem dynamoref15_Ends.calls (a0 : Int) (r1 : Int) (r2 : Int) (w : World) (h : dynamoref15_Ends.f a0 = some (r1, r2)) :
  Calls Tryd.prog 18 #[.int .i64 a0] w fun e w' => e = .returned (.tuple #[.int .i64 r1, .int .i64 r2]) ∧ Drawn0 w w' := by
 have H : (if a0 = 0 then (some (0, 4)) else (if a0 = 1 then (some (1, 4)) else (if a0 = 2 then (some (2, 5)) else (if a0 = 3 then (some (3, 5)) else (if a0 = 4 then (some (4, 5)) else (if a0 = 5 then (some (4, 6)) else (if a0 = 6 then (some (5, 6)) else (some ((-1), (-1)))))))))) = some (r1, r2) := h
 clear h
 by_cases c2 : a0 = 0
 ·rw [if_pos c2] at H
  have c2b0 : (a0 == 0) = true := beq_iff_eq.mpr c2
  have c2b1 : (a0 != 0) = false := bne_eq_false_iff_eq.mpr c2
  clear c2
  simp only [Option.some.injEq, Prod.mk.injEq] at H
  obtain ⟨rfl, rfl⟩ := H
  go_enter Tryd.func18, Tryd.ntmps18
  go_wp2
  go_ret2
  exact ⟨by first | rfl | (rw [HLAST.out]; done) | (simp [HLAST.out]; done) | (have HL_ := HLAST.out; simp_all; done) | (simp; done) | (simp [*]; done), by repeat (first | exact Drawn0.refl _ | apply Drawn0.step)⟩
 ·rw [if_neg c2] at H
  have c2b0 : (a0 == 0) = false := beq_eq_false_iff_ne.mpr c2
  have c2b1 : (a0 != 0) = true := bne_iff_ne.mpr c2
  by_cases c3 : a0 = 1
  ·rw [if_pos c3] at H
   have c3b0 : (a0 == 1) = true := beq_iff_eq.mpr c3
   have c3b1 : (a0 != 1) = false := bne_eq_false_iff_eq.mpr c3
   clear c3
   simp only [Option.some.injEq, Prod.mk.injEq] at H
   obtain ⟨rfl, rfl⟩ := H
   go_enter Tryd.func18, Tryd.ntmps18
   go_wp2
   go_ret2
   exact ⟨by first | rfl | (rw [HLAST.out]; done) | (simp [HLAST.out]; done) | (have HL_ := HLAST.out; simp_all; done) | (simp; done) | (simp [*]; done), by repeat (first | exact Drawn0.refl _ | apply Drawn0.step)⟩
  ·rw [if_neg c3] at H
   have c3b0 : (a0 == 1) = false := beq_eq_false_iff_ne.mpr c3
   have c3b1 : (a0 != 1) = true := bne_iff_ne.mpr c3
   by_cases c4 : a0 = 2
   ·rw [if_pos c4] at H
    have c4b0 : (a0 == 2) = true := beq_iff_eq.mpr c4
    have c4b1 : (a0 != 2) = false := bne_eq_false_iff_eq.mpr c4
    clear c4
    simp only [Option.some.injEq, Prod.mk.injEq] at H
    obtain ⟨rfl, rfl⟩ := H
    go_enter Tryd.func18, Tryd.ntmps18
    go_wp2
    go_ret2
    exact ⟨by first | rfl | (rw [HLAST.out]; done) | (simp [HLAST.out]; done) | (have HL_ := HLAST.out; simp_all; done) | (simp; done) | (simp [*]; done), by repeat (first | exact Drawn0.refl _ | apply Drawn0.step)⟩
   ·rw [if_neg c4] at H
    have c4b0 : (a0 == 2) = false := beq_eq_false_iff_ne.mpr c4
    have c4b1 : (a0 != 2) = true := bne_iff_ne.mpr c4
    by_cases c5 : a0 = 3
    ·rw [if_pos c5] at H
     have c5b0 : (a0 == 3) = true := beq_iff_eq.mpr c5
     have c5b1 : (a0 != 3) = false := bne_eq_false_iff_eq.mpr c5
     clear c5
     simp only [Option.some.injEq, Prod.mk.injEq] at H
     obtain ⟨rfl, rfl⟩ := H
     go_enter Tryd.func18, Tryd.ntmps18
     go_wp2
     go_ret2
     exact ⟨by first | rfl | (rw [HLAST.out]; done) | (simp [HLAST.out]; done) | (have HL_ := HLAST.out; simp_all; done) | (simp; done) | (simp [*]; done), by repeat (first | exact Drawn0.refl _ | apply Drawn0.step)⟩
    ·rw [if_neg c5] at H
     have c5b0 : (a0 == 3) = false := beq_eq_false_iff_ne.mpr c5
     have c5b1 : (a0 != 3) = true := bne_iff_ne.mpr c5
     by_cases c6 : a0 = 4
     ·rw [if_pos c6] at H
      have c6b0 : (a0 == 4) = true := beq_iff_eq.mpr c6
      have c6b1 : (a0 != 4) = false := bne_eq_false_iff_eq.mpr c6
      clear c6
      simp only [Option.some.injEq, Prod.mk.injEq] at H
      obtain ⟨rfl, rfl⟩ := H
      go_enter Tryd.func18, Tryd.ntmps18
      go_wp2
      go_ret2
      exact ⟨by first | rfl | (rw [HLAST.out]; done) | (simp [HLAST.out]; done) | (have HL_ := HLAST.out; simp_all; done) | (simp; done) | (simp [*]; done), by repeat (first | exact Drawn0.refl _ | apply Drawn0.step)⟩
     ·rw [if_neg c6] at H
      have c6b0 : (a0 == 4) = false := beq_eq_false_iff_ne.mpr c6
      have c6b1 : (a0 != 4) = true := bne_iff_ne.mpr c6
      by_cases c7 : a0 = 5
      ·rw [if_pos c7] at H
       have c7b0 : (a0 == 5) = true := beq_iff_eq.mpr c7
       have c7b1 : (a0 != 5) = false := bne_eq_false_iff_eq.mpr c7
       clear c7
       simp only [Option.some.injEq, Prod.mk.injEq] at H
       obtain ⟨rfl, rfl⟩ := H
       go_enter Tryd.func18, Tryd.ntmps18
       go_wp2
       go_ret2
       exact ⟨by first | rfl | (rw [HLAST.out]; done) | (simp [HLAST.out]; done) | (have HL_ := HLAST.out; simp_all; done) | (simp; done) | (simp [*]; done), by repeat (first | exact Drawn0.refl _ | apply Drawn0.step)⟩
      ·rw [if_neg c7] at H
       have c7b0 : (a0 == 5) = false := beq_eq_false_iff_ne.mpr c7
       have c7b1 : (a0 != 5) = true := bne_iff_ne.mpr c7
       by_cases c8 : a0 = 6
       ·rw [if_pos c8] at H
        have c8b0 : (a0 == 6) = true := beq_iff_eq.mpr c8
        have c8b1 : (a0 != 6) = false := bne_eq_false_iff_eq.mpr c8
        clear c8
        simp only [Option.some.injEq, Prod.mk.injEq] at H
        obtain ⟨rfl, rfl⟩ := H
        go_enter Tryd.func18, Tryd.ntmps18
        go_wp2
        go_ret2
        exact ⟨by first | rfl | (rw [HLAST.out]; done) | (simp [HLAST.out]; done) | (have HL_ := HLAST.out; simp_all; done) | (simp; done) | (simp [*]; done), by repeat (first | exact Drawn0.refl _ | apply Drawn0.step)⟩
       ·rw [if_neg c8] at H
        have c8b0 : (a0 == 6) = false := beq_eq_false_iff_ne.mpr c8
        have c8b1 : (a0 != 6) = true := bne_iff_ne.mpr c8
        simp only [Option.some.injEq, Prod.mk.injEq] at H
        obtain ⟨rfl, rfl⟩ := H
        go_enter Tryd.func18, Tryd.ntmps18
        go_wp2
        go_ret2
        exact ⟨by first | rfl | (rw [HLAST.out]; done) | (simp [HLAST.out]; done) | (have HL_ := HLAST.out; simp_all; done) | (simp; done) | (simp [*]; done), by repeat (first | exact Drawn0.refl _ | apply Drawn0.step)⟩

end Go.Proofs.YtjmggdccmggboabDoor.PGraphSays
