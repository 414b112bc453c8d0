-- written by this work with wip/mkprint2.py
import Derived.Test.YtjmggdccmggboabDoorPGraphSaysx0
import Derived.Test.YtjmggdccmggboabDoorPGraphSaysx1
namespace Go.Proofs.YtjmggdccmggboabDoor.PGraphSays
open Go.RowKit Go.Proofs.YtjmggdccmggboabDoorW.PrintWords Go.Proofs.YtjmggdccmggboabDoorW.PrintLast Go.Proofs.YtjmggdccmggboabDoorW.PrintMore
attribute [local go_sem] max2_int min2_int max_two min_two max_three min_three max_four min_four   -- for this text's walks alone
set_option linter.unusedVariables false
set_option linter.unusedSimpArgs false
open Go.Proofs.YtjmggdccmggboabDoor.Tz

/-! ### dynamoref15_Reach: function 19 -/
mutual
def dynamoref15_Reach.j0 : Nat → Int → Int → Bool → Option (Int)
 | 0, _, _, _ => none
 | k + 1, x0, x1, x15 => if x15 = true then (some 0) else (if 0 ≤ (IntKind.u64.wrap (x1)) then (dynamoref15_Reach.l0 k x0 (shl .i64 1 (IntKind.u64.wrap (x1))) 0) else (none))
def dynamoref15_Reach.l0 : Nat → Int → Int → Int → Option (Int)
 | 0, _, _, _ => none
 | k + 1, x0, x5, x6 => if x6 < 7 then (dynamoref15_Reach.l1 k x0 x5 x6 0) else (some x5)
def dynamoref15_Reach.l1 : Nat → Int → Int → Int → Int → Option (Int)
 | 0, _, _, _, _ => none
 | k + 1, x0, x5, x6, x7 => if x7 < 7 then ((dynamoref15_Ends.f x7).bind fun bt115 => (if 0 ≤ (IntKind.u64.wrap (x7)) then (if (Go.bits .and .i64 (shr .i64 x0 (IntKind.u64.wrap (x7))) 1) = 1 then (if 0 ≤ (IntKind.u64.wrap (bt115.1)) then (if (Go.bits .and .i64 (shr .i64 x5 (IntKind.u64.wrap (bt115.1))) 1) = 1 then (if 0 ≤ (IntKind.u64.wrap (bt115.2)) then (dynamoref15_Reach.l1 k x0 (Go.bits .or .i64 (Go.bits .or .i64 x5 (shl .i64 1 (IntKind.u64.wrap (bt115.1)))) (shl .i64 1 (IntKind.u64.wrap (bt115.2)))) x6 (wrap64 (x7 + 1))) else (none)) else (if 0 ≤ (IntKind.u64.wrap (bt115.2)) then (if (Go.bits .and .i64 (shr .i64 x5 (IntKind.u64.wrap (bt115.2))) 1) = 1 then (dynamoref15_Reach.l1 k x0 (Go.bits .or .i64 (Go.bits .or .i64 x5 (shl .i64 1 (IntKind.u64.wrap (bt115.1)))) (shl .i64 1 (IntKind.u64.wrap (bt115.2)))) x6 (wrap64 (x7 + 1))) else (dynamoref15_Reach.l1 k x0 x5 x6 (wrap64 (x7 + 1)))) else (none))) else (none)) else (dynamoref15_Reach.l1 k x0 x5 x6 (wrap64 (x7 + 1)))) else (none))) else (dynamoref15_Reach.l0 k x0 x5 (wrap64 (x6 + 1)))
end
def dynamoref15_Reach.f (k : Nat) (a0 : Int) (a1 : Int) : Option (Int) := if a1 < 0 then (dynamoref15_Reach.j0 k a0 a1 true) else (dynamoref15_Reach.j0 k a0 a1 (decide (a1 > 6)))
theorem dynamoref15_Reach.mono_l : ∀ k, (∀ y0 y1 y2, LeO (dynamoref15_Reach.j0 k y0 y1 y2) (dynamoref15_Reach.j0 (k + 1) y0 y1 y2)) ∧ (∀ y0 y1 y2, LeO (dynamoref15_Reach.l0 k y0 y1 y2) (dynamoref15_Reach.l0 (k + 1) y0 y1 y2)) ∧ (∀ y0 y1 y2 y3, LeO (dynamoref15_Reach.l1 k y0 y1 y2 y3) (dynamoref15_Reach.l1 (k + 1) y0 y1 y2 y3))
 | 0 => ⟨fun _ _ _ r h => by simp [dynamoref15_Reach.j0] at h, fun _ _ _ r h => by simp [dynamoref15_Reach.l0] at h, fun _ _ _ _ r h => by simp [dynamoref15_Reach.l1] at h⟩
 | k + 1 => by
  obtain ⟨ih0, ih1, ih2⟩ := dynamoref15_Reach.mono_l k
  refine ⟨?_, ?_, ?_⟩
  ·intro y0 y1 y2
   unfold dynamoref15_Reach.j0
   repeat' first
   | (with_reducible exact ih0 _ _ _)
   | (with_reducible exact ih1 _ _ _)
   | (with_reducible exact ih2 _ _ _ _)
   | (with_reducible exact LeO.refl _)
   | (with_reducible exact LeO.none _)
   | (with_reducible refine LeO.ite ?_ ?_)
   | (with_reducible refine LeO.bind ?_ (fun _ => ?_))
   | exact ih0 _ _ _
   | exact ih1 _ _ _
   | exact ih2 _ _ _ _
   | exact LeO.none _
   | refine LeO.ite ?_ ?_
   | refine LeO.bind ?_ (fun _ => ?_)
  ·intro y0 y1 y2
   unfold dynamoref15_Reach.l0
   repeat' first
   | (with_reducible exact ih0 _ _ _)
   | (with_reducible exact ih1 _ _ _)
   | (with_reducible exact ih2 _ _ _ _)
   | (with_reducible exact LeO.refl _)
   | (with_reducible exact LeO.none _)
   | (with_reducible refine LeO.ite ?_ ?_)
   | (with_reducible refine LeO.bind ?_ (fun _ => ?_))
   | exact ih0 _ _ _
   | exact ih1 _ _ _
   | exact ih2 _ _ _ _
   | exact LeO.none _
   | refine LeO.ite ?_ ?_
   | refine LeO.bind ?_ (fun _ => ?_)
  ·intro y0 y1 y2 y3
   unfold dynamoref15_Reach.l1
   repeat' first
   | (with_reducible exact ih0 _ _ _)
   | (with_reducible exact ih1 _ _ _)
   | (with_reducible exact ih2 _ _ _ _)
   | (with_reducible exact LeO.refl _)
   | (with_reducible exact LeO.none _)
   | (with_reducible refine LeO.ite ?_ ?_)
   | (with_reducible refine LeO.bind ?_ (fun _ => ?_))
   | exact ih0 _ _ _
   | exact ih1 _ _ _
   | exact ih2 _ _ _ _
   | exact LeO.none _
   | refine LeO.ite ?_ ?_
   | refine LeO.bind ?_ (fun _ => ?_)
theorem dynamoref15_Reach.mono : ∀ a0 a1 k, LeO (dynamoref15_Reach.f k a0 a1) (dynamoref15_Reach.f (k + 1) a0 a1) := by
 intro a0 a1 k
 obtain ⟨ih0, ih1, ih2⟩ := dynamoref15_Reach.mono_l k
 unfold dynamoref15_Reach.f
 repeat' first
   | (with_reducible exact ih0 _ _ _)
   | (with_reducible exact ih1 _ _ _)
   | (with_reducible exact ih2 _ _ _ _)
   | (with_reducible exact LeO.refl _)
   | (with_reducible exact LeO.none _)
   | (with_reducible refine LeO.ite ?_ ?_)
   | (with_reducible refine LeO.bind ?_ (fun _ => ?_))
   | exact ih0 _ _ _
   | exact ih1 _ _ _
   | exact ih2 _ _ _ _
   | exact LeO.none _
   | refine LeO.ite ?_ ?_
   | refine LeO.bind ?_ (fun _ => ?_)
set_option maxHeartbeats 8000000 in
set_option maxRecDepth 100000 in
theorem dynamoref15_Reach.calls (k : Nat) (a0 : Int) (a1 : Int) (r : Int) (w : World) (h : dynamoref15_Reach.f k a0 a1 = some r) :
  Calls Tryd.prog 19 #[.int .i64 a0, .int .i64 a1] w fun e w' => e = .returned (.int .i64 r) ∧ Drawn0 w w' := by
 have H : (if a1 < 0 then (dynamoref15_Reach.j0 k a0 a1 true) else (dynamoref15_Reach.j0 k a0 a1 (decide (a1 > 6)))) = some r := h
 clear h
 have HC3 := Aside0.mk H
 clear H
 go_enter Tryd.func19, Tryd.ntmps19
 go_upto_region 1 with (fail)
 go_cut [15] (fun v15 wc => ∃ (kq : Nat) (x15_2 : Bool), v15 = .bool x15_2 ∧ Aside0 (dynamoref15_Reach.j0 kq a0 a1 x15_2 = some r) ∧ Aside0 (kq ≤ k) ∧ Drawn0 w wc)
 case first =>
  have H := HC3.out
  clear HC3
  by_cases c4 : a1 < 0
  ·rw [if_pos c4] at H
   have c4b0 : decide (a1 < 0) = true := decide_eq_true c4
   clear c4
   (first | rw [c4b0] | (simp only [i64_w, i32_w]; rw [c4b0]) | skip)
   have H' := Aside0.mk H
   clear H
   go_wp2
   go_meet
   case rel => exact ⟨_, (true), (by first | rfl | (simp; done) | (simp [*]; done)), H', ⟨by first | omega | exact Nat.le_refl _⟩, by repeat (first | exact Drawn0.refl _ | apply Drawn0.step)⟩
  ·rw [if_neg c4] at H
   have c4b0 : decide (a1 < 0) = false := decide_eq_false c4
   clear c4
   (first | rw [c4b0] | (simp only [i64_w, i32_w]; rw [c4b0]) | skip)
   have H' := Aside0.mk H
   clear H
   go_wp2
   go_meet
   case rel => exact ⟨_, (decide (a1 > 6)), (by first | rfl | (simp; done) | (simp [*]; done)), H', ⟨by first | omega | exact Nat.le_refl _⟩, by repeat (first | exact Drawn0.refl _ | apply Drawn0.step)⟩
 case rest =>
  clear HC3
  try clear c1
  try clear p2
  try clear c4
  try clear c4b0
  obtain ⟨kq, x15_2, rfl, HA, HJ2, ⟨mc2, rfl⟩⟩ := hcut
  cases kq with
  | zero => exact absurd HA.out (by simp [dynamoref15_Reach.j0])
  | succ kj2 =>
   have H := HA.out
   clear HA
   simp only [dynamoref15_Reach.j0] at H
   by_cases c5 : x15_2 = true
   ·subst c5
    have H1 : (some 0) = some r := by first | (rw [if_pos rfl] at H; exact H) | exact H | rfl
    clear H
    have H := H1
    clear H1
    obtain rfl := Option.some.inj H
    go_wp2
    go_ret
    exact ⟨by first | rfl | (rw [HLAST.out]; done) | (simp [HLAST.out]; done) | (have HL_ := HLAST.out; simp_all; done) | (simp; done) | (simp [*]; done), by repeat (first | exact Drawn0.refl _ | apply Drawn0.step)⟩
   ·replace c5 := Bool.eq_false_iff.mpr c5
    subst c5
    have H1 : (if 0 ≤ (IntKind.u64.wrap (a1)) then (dynamoref15_Reach.l0 kj2 a0 (shl .i64 1 (IntKind.u64.wrap (a1))) 0) else (none)) = some r := by first | (rw [if_neg (show ¬ (false = true) by decide)] at H; exact H) | exact H | rfl
    clear H
    have H := H1
    clear H1
    obtain ⟨ji6, hji6⟩ : ∃ j_ : Int, (IntKind.u64.wrap (a1)) = j_ := ⟨_, rfl⟩
    replace H : (if 0 ≤ (ji6) then (dynamoref15_Reach.l0 kj2 a0 (shl .i64 1 (ji6)) 0) else (none)) = some r := by first | (rw [hji6] at H; exact H) | (simp only [hji6] at H ⊢; exact H)
    by_cases c7 : 0 ≤ (ji6)
    ·rw [if_pos c7] at H
     have c7b0 := eq_true c7
     have c7b1 : decide (0 ≤ (ji6)) = true := decide_eq_true c7
     clear c7
     obtain ⟨ji8, hji8⟩ : ∃ j_ : Int, (shl .i64 1 (ji6)) = j_ := ⟨_, rfl⟩
     replace H : (dynamoref15_Reach.l0 kj2 a0 ji8 0) = some r := by first | (rw [hji8] at H; exact H) | (simp only [hji8] at H ⊢; exact H)
     have hji8_ : (IntKind.i64.wrap (1 * 2 ^ min (ji6).toNat 64)) = ji8 := hji8
     have hji8z : (ji6) ≤ 64 → (IntKind.i64.wrap (1 * 2 ^ (ji6).toNat)) = ji8 := shl_small hji8
     have hji8u : (IntKind.i64.wrap (2 ^ min (ji6).toNat 64)) = ji8 := by have h_ := hji8_; rw [Int.one_mul] at h_; exact h_
     have hji8v : (ji6) ≤ 64 → (IntKind.i64.wrap (2 ^ (ji6).toNat)) = ji8 := fun hle_ => by have h_ := hji8z hle_; rw [Int.one_mul] at h_; exact h_
     have hji8y : (wrap64 (1 * 2 ^ min (ji6).toNat 64)) = ji8 := (i64_w _).symm.trans hji8_
     have hji8x : (ji6) ≤ 64 → (wrap64 (1 * 2 ^ (ji6).toNat)) = ji8 := fun h_ => (i64_w _).symm.trans (hji8z h_)
     have H' := Aside0.mk H
     clear H
     go_wp2
     go_loopg [5, 6] kj2 (fun kq v5 v6 w' => ∃ (x5_2 : Int) (x6_2 : Int), v5 = .int .i64 x5_2 ∧ v6 = .int .i64 x6_2 ∧ Aside0 (dynamoref15_Reach.l0 kq a0 x5_2 x6_2 = some r) ∧ Aside0 (kq ≤ kj2) ∧ Drawn0 w w')
     case atStart => exact ⟨(ji8), (0), (by first | rfl | (simp; done) | (simp only [← hji8] <;> (first | rfl | simp)) | (simp [*]; done)), (by first | rfl | (simp; done) | (simp [*]; done)), H', ⟨Nat.le_refl _⟩, by repeat (first | exact Drawn0.refl _ | apply Drawn0.step)⟩
     case round =>
      clear H'
      try clear c1
      try clear c2
      try clear p2
      try clear c4
      try clear c4b0
      try clear c5
      try clear p6
      try clear c7
      try clear c7b0
      try clear c7b1
      try clear p2
      obtain ⟨x5_2, x6_2, rfl, rfl, HA, HK2, ⟨m2, rfl⟩⟩ := hrel
      cases gk with
      | zero => exact absurd HA.out (by simp [dynamoref15_Reach.l0])
      | succ k2 =>
       have H := HA.out
       clear HA
       simp only [dynamoref15_Reach.l0] at H
       by_cases c9 : x6_2 < 7
       ·rw [if_pos c9] at H
        have c9b0 : decide (x6_2 < 7) = true := decide_eq_true c9
        clear c9
        have H' := Aside0.mk H
        clear H
        go_wp2
        go_loopg [5, 7] k2 (fun kq v5 v7 w' => ∃ (x5_3 : Int) (x7_3 : Int), v5 = .int .i64 x5_3 ∧ v7 = .int .i64 x7_3 ∧ Aside0 (dynamoref15_Reach.l1 kq a0 x5_3 x6_2 x7_3 = some r) ∧ Aside0 (kq ≤ k2) ∧ Drawn0 w w')
        case atStart => exact ⟨(x5_2), (0), (by first | rfl | (simp; done) | (simp [*]; done)), (by first | rfl | (simp; done) | (simp [*]; done)), H', ⟨Nat.le_refl _⟩, by repeat (first | exact Drawn0.refl _ | apply Drawn0.step)⟩
        case round =>
         clear H'
         try clear c1
         try clear c2
         try clear p2
         try clear c4
         try clear c4b0
         try clear c5
         try clear p6
         try clear c7
         try clear c7b0
         try clear c7b1
         try clear c9
         try clear c9b0
         try clear p2
         try clear p6
         obtain ⟨x5_3, x7_3, rfl, rfl, HA, HK3, ⟨m3, rfl⟩⟩ := hrel
         cases gk with
         | zero => exact absurd HA.out (by simp [dynamoref15_Reach.l1])
         | succ k3 =>
          have H := HA.out
          clear HA
          simp only [dynamoref15_Reach.l1] at H
          by_cases c10 : x7_3 < 7
          ·rw [if_pos c10] at H
           have c10b0 : decide (x7_3 < 7) = true := decide_eq_true c10
           clear c10
           replace H := Option.bind_eq_some_iff.mp H
           obtain ⟨⟨t115, t116⟩, A110, H⟩ := H
           replace H : (if 0 ≤ (IntKind.u64.wrap (x7_3)) then (if (Go.bits .and .i64 (shr .i64 a0 (IntKind.u64.wrap (x7_3))) 1) = 1 then (if 0 ≤ (IntKind.u64.wrap (t115)) then (if (Go.bits .and .i64 (shr .i64 x5_3 (IntKind.u64.wrap (t115))) 1) = 1 then (if 0 ≤ (IntKind.u64.wrap (t116)) then (dynamoref15_Reach.l1 k3 a0 (Go.bits .or .i64 (Go.bits .or .i64 x5_3 (shl .i64 1 (IntKind.u64.wrap (t115)))) (shl .i64 1 (IntKind.u64.wrap (t116)))) x6_2 (wrap64 (x7_3 + 1))) else (none)) else (if 0 ≤ (IntKind.u64.wrap (t116)) then (if (Go.bits .and .i64 (shr .i64 x5_3 (IntKind.u64.wrap (t116))) 1) = 1 then (dynamoref15_Reach.l1 k3 a0 (Go.bits .or .i64 (Go.bits .or .i64 x5_3 (shl .i64 1 (IntKind.u64.wrap (t115)))) (shl .i64 1 (IntKind.u64.wrap (t116)))) x6_2 (wrap64 (x7_3 + 1))) else (dynamoref15_Reach.l1 k3 a0 x5_3 x6_2 (wrap64 (x7_3 + 1)))) else (none))) else (none)) else (dynamoref15_Reach.l1 k3 a0 x5_3 x6_2 (wrap64 (x7_3 + 1)))) else (none)) = some r := H
           have A11 := Aside0.mk A110
           clear A110
           obtain ⟨ji12, hji12⟩ : ∃ j_ : Int, (IntKind.u64.wrap (x7_3)) = j_ := ⟨_, rfl⟩
           replace H : (if 0 ≤ (ji12) then (if (Go.bits .and .i64 (shr .i64 a0 (ji12)) 1) = 1 then (if 0 ≤ (IntKind.u64.wrap (t115)) then (if (Go.bits .and .i64 (shr .i64 x5_3 (IntKind.u64.wrap (t115))) 1) = 1 then (if 0 ≤ (IntKind.u64.wrap (t116)) then (dynamoref15_Reach.l1 k3 a0 (Go.bits .or .i64 (Go.bits .or .i64 x5_3 (shl .i64 1 (IntKind.u64.wrap (t115)))) (shl .i64 1 (IntKind.u64.wrap (t116)))) x6_2 (wrap64 (x7_3 + 1))) else (none)) else (if 0 ≤ (IntKind.u64.wrap (t116)) then (if (Go.bits .and .i64 (shr .i64 x5_3 (IntKind.u64.wrap (t116))) 1) = 1 then (dynamoref15_Reach.l1 k3 a0 (Go.bits .or .i64 (Go.bits .or .i64 x5_3 (shl .i64 1 (IntKind.u64.wrap (t115)))) (shl .i64 1 (IntKind.u64.wrap (t116)))) x6_2 (wrap64 (x7_3 + 1))) else (dynamoref15_Reach.l1 k3 a0 x5_3 x6_2 (wrap64 (x7_3 + 1)))) else (none))) else (none)) else (dynamoref15_Reach.l1 k3 a0 x5_3 x6_2 (wrap64 (x7_3 + 1)))) else (none)) = some r := by first | (rw [hji12] at H; exact H) | (simp only [hji12] at H ⊢; exact H)
           (try rw [hji12] at A11)
           by_cases c13 : 0 ≤ (ji12)
           ·rw [if_pos c13] at H
            have c13b0 := eq_true c13
            have c13b1 : decide (0 ≤ (ji12)) = true := decide_eq_true c13
            clear c13
            obtain ⟨ji14, hji14⟩ : ∃ j_ : Int, (shr .i64 a0 (ji12)) = j_ := ⟨_, rfl⟩
            replace H : (if (Go.bits .and .i64 (ji14) 1) = 1 then (if 0 ≤ (IntKind.u64.wrap (t115)) then (if (Go.bits .and .i64 (shr .i64 x5_3 (IntKind.u64.wrap (t115))) 1) = 1 then (if 0 ≤ (IntKind.u64.wrap (t116)) then (dynamoref15_Reach.l1 k3 a0 (Go.bits .or .i64 (Go.bits .or .i64 x5_3 (shl .i64 1 (IntKind.u64.wrap (t115)))) (shl .i64 1 (IntKind.u64.wrap (t116)))) x6_2 (wrap64 (x7_3 + 1))) else (none)) else (if 0 ≤ (IntKind.u64.wrap (t116)) then (if (Go.bits .and .i64 (shr .i64 x5_3 (IntKind.u64.wrap (t116))) 1) = 1 then (dynamoref15_Reach.l1 k3 a0 (Go.bits .or .i64 (Go.bits .or .i64 x5_3 (shl .i64 1 (IntKind.u64.wrap (t115)))) (shl .i64 1 (IntKind.u64.wrap (t116)))) x6_2 (wrap64 (x7_3 + 1))) else (dynamoref15_Reach.l1 k3 a0 x5_3 x6_2 (wrap64 (x7_3 + 1)))) else (none))) else (none)) else (dynamoref15_Reach.l1 k3 a0 x5_3 x6_2 (wrap64 (x7_3 + 1)))) = some r := by first | (rw [hji14] at H; exact H) | (simp only [hji14] at H ⊢; exact H)
            (try rw [hji14] at A11)
            have hji14_ : (a0 / 2 ^ min (ji12).toNat 64) = ji14 := hji14
            have hji14z : (ji12) ≤ 64 → (a0 / 2 ^ (ji12).toNat) = ji14 := shr_small hji14
            by_cases c15 : (Go.bits .and .i64 (ji14) 1) = 1
            ·rw [if_pos c15] at H
             have c15b0 : ((Go.bits .and .i64 (ji14) 1) == 1) = true := beq_iff_eq.mpr c15
             have c15b1 : ((Go.bits .and .i64 (ji14) 1) != 1) = false := bne_eq_false_iff_eq.mpr c15
             clear c15
             obtain ⟨ji16, hji16⟩ : ∃ j_ : Int, (IntKind.u64.wrap (t115)) = j_ := ⟨_, rfl⟩
             replace H : (if 0 ≤ (ji16) then (if (Go.bits .and .i64 (shr .i64 x5_3 (ji16)) 1) = 1 then (if 0 ≤ (IntKind.u64.wrap (t116)) then (dynamoref15_Reach.l1 k3 a0 (Go.bits .or .i64 (Go.bits .or .i64 x5_3 (shl .i64 1 (ji16))) (shl .i64 1 (IntKind.u64.wrap (t116)))) x6_2 (wrap64 (x7_3 + 1))) else (none)) else (if 0 ≤ (IntKind.u64.wrap (t116)) then (if (Go.bits .and .i64 (shr .i64 x5_3 (IntKind.u64.wrap (t116))) 1) = 1 then (dynamoref15_Reach.l1 k3 a0 (Go.bits .or .i64 (Go.bits .or .i64 x5_3 (shl .i64 1 (ji16))) (shl .i64 1 (IntKind.u64.wrap (t116)))) x6_2 (wrap64 (x7_3 + 1))) else (dynamoref15_Reach.l1 k3 a0 x5_3 x6_2 (wrap64 (x7_3 + 1)))) else (none))) else (none)) = some r := by first | (rw [hji16] at H; exact H) | (simp only [hji16] at H ⊢; exact H)
             (try rw [hji16] at A11)
             by_cases c17 : 0 ≤ (ji16)
             ·rw [if_pos c17] at H
              have c17b0 := eq_true c17
              have c17b1 : decide (0 ≤ (ji16)) = true := decide_eq_true c17
              clear c17
              obtain ⟨ji18, hji18⟩ : ∃ j_ : Int, (shr .i64 x5_3 (ji16)) = j_ := ⟨_, rfl⟩
              replace H : (if (Go.bits .and .i64 (ji18) 1) = 1 then (if 0 ≤ (IntKind.u64.wrap (t116)) then (dynamoref15_Reach.l1 k3 a0 (Go.bits .or .i64 (Go.bits .or .i64 x5_3 (shl .i64 1 (ji16))) (shl .i64 1 (IntKind.u64.wrap (t116)))) x6_2 (wrap64 (x7_3 + 1))) else (none)) else (if 0 ≤ (IntKind.u64.wrap (t116)) then (if (Go.bits .and .i64 (shr .i64 x5_3 (IntKind.u64.wrap (t116))) 1) = 1 then (dynamoref15_Reach.l1 k3 a0 (Go.bits .or .i64 (Go.bits .or .i64 x5_3 (shl .i64 1 (ji16))) (shl .i64 1 (IntKind.u64.wrap (t116)))) x6_2 (wrap64 (x7_3 + 1))) else (dynamoref15_Reach.l1 k3 a0 x5_3 x6_2 (wrap64 (x7_3 + 1)))) else (none))) = some r := by first | (rw [hji18] at H; exact H) | (simp only [hji18] at H ⊢; exact H)
              (try rw [hji18] at A11)
              have hji18_ : (x5_3 / 2 ^ min (ji16).toNat 64) = ji18 := hji18
              have hji18z : (ji16) ≤ 64 → (x5_3 / 2 ^ (ji16).toNat) = ji18 := shr_small hji18
              by_cases c19 : (Go.bits .and .i64 (ji18) 1) = 1
              ·rw [if_pos c19] at H
               have c19b0 : ((Go.bits .and .i64 (ji18) 1) == 1) = true := beq_iff_eq.mpr c19
               have c19b1 : ((Go.bits .and .i64 (ji18) 1) != 1) = false := bne_eq_false_iff_eq.mpr c19
               clear c19
               have c20b0 := eq_true (of_decide_eq_true (by first | (with_reducible assumption) | assumption) : 0 ≤ (ji16))
               obtain ⟨ji21, hji21⟩ : ∃ j_ : Int, (shl .i64 1 (ji16)) = j_ := ⟨_, rfl⟩
               replace H : (if 0 ≤ (IntKind.u64.wrap (t116)) then (dynamoref15_Reach.l1 k3 a0 (Go.bits .or .i64 (Go.bits .or .i64 x5_3 (ji21)) (shl .i64 1 (IntKind.u64.wrap (t116)))) x6_2 (wrap64 (x7_3 + 1))) else (none)) = some r := by first | (rw [hji21] at H; exact H) | (simp only [hji21] at H ⊢; exact H)
               (try rw [hji21] at A11)
               have hji21_ : (IntKind.i64.wrap (1 * 2 ^ min (ji16).toNat 64)) = ji21 := hji21
               have hji21z : (ji16) ≤ 64 → (IntKind.i64.wrap (1 * 2 ^ (ji16).toNat)) = ji21 := shl_small hji21
               have hji21u : (IntKind.i64.wrap (2 ^ min (ji16).toNat 64)) = ji21 := by have h_ := hji21_; rw [Int.one_mul] at h_; exact h_
               have hji21v : (ji16) ≤ 64 → (IntKind.i64.wrap (2 ^ (ji16).toNat)) = ji21 := fun hle_ => by have h_ := hji21z hle_; rw [Int.one_mul] at h_; exact h_
               have hji21y : (wrap64 (1 * 2 ^ min (ji16).toNat 64)) = ji21 := (i64_w _).symm.trans hji21_
               have hji21x : (ji16) ≤ 64 → (wrap64 (1 * 2 ^ (ji16).toNat)) = ji21 := fun h_ => (i64_w _).symm.trans (hji21z h_)
               obtain ⟨ji22, hji22⟩ : ∃ j_ : Int, (IntKind.u64.wrap (t116)) = j_ := ⟨_, rfl⟩
               replace H : (if 0 ≤ (ji22) then (dynamoref15_Reach.l1 k3 a0 (Go.bits .or .i64 (Go.bits .or .i64 x5_3 (ji21)) (shl .i64 1 (ji22))) x6_2 (wrap64 (x7_3 + 1))) else (none)) = some r := by first | (rw [hji22] at H; exact H) | (simp only [hji22] at H ⊢; exact H)
               (try rw [hji22] at A11)
               by_cases c23 : 0 ≤ (ji22)
               ·rw [if_pos c23] at H
                have c23b0 := eq_true c23
                have c23b1 : decide (0 ≤ (ji22)) = true := decide_eq_true c23
                clear c23
                obtain ⟨ji24, hji24⟩ : ∃ j_ : Int, (shl .i64 1 (ji22)) = j_ := ⟨_, rfl⟩
                replace H : (dynamoref15_Reach.l1 k3 a0 (Go.bits .or .i64 (Go.bits .or .i64 x5_3 (ji21)) (ji24)) x6_2 (wrap64 (x7_3 + 1))) = some r := by first | (rw [hji24] at H; exact H) | (simp only [hji24] at H ⊢; exact H)
                (try rw [hji24] at A11)
                have hji24_ : (IntKind.i64.wrap (1 * 2 ^ min (ji22).toNat 64)) = ji24 := hji24
                have hji24z : (ji22) ≤ 64 → (IntKind.i64.wrap (1 * 2 ^ (ji22).toNat)) = ji24 := shl_small hji24
                have hji24u : (IntKind.i64.wrap (2 ^ min (ji22).toNat 64)) = ji24 := by have h_ := hji24_; rw [Int.one_mul] at h_; exact h_
                have hji24v : (ji22) ≤ 64 → (IntKind.i64.wrap (2 ^ (ji22).toNat)) = ji24 := fun hle_ => by have h_ := hji24z hle_; rw [Int.one_mul] at h_; exact h_
                have hji24y : (wrap64 (1 * 2 ^ min (ji22).toNat 64)) = ji24 := (i64_w _).symm.trans hji24_
                have hji24x : (ji22) ≤ 64 → (wrap64 (1 * 2 ^ (ji22).toNat)) = ji24 := fun h_ => (i64_w _).symm.trans (hji24z h_)
                have H' := Aside0.mk H
                clear H
                go_wp2_with (first | ((with_reducible refine gate_callee (f := 18) rfl ?_); refine goesL_ (some 29) rfl rfl Tryd.func18 (by kernel_rfl) rfl #[.int .i64 x7_3] rfl (by (try simp only [List.map_toArray, List.map_cons, List.map_nil]); first | done | rfl | (simp only [List.length_drop, List.length_take]; rfl)) ?_; (with_reducible refine (dynamoref15_Ends.calls x7_3 t115 t116 _ A11.out).mono ?_); rintro e w' ⟨rfl, ⟨nd, rfl⟩⟩; refine ⟨_, rfl, ?_⟩))
                go_roundg k3
                case measure => have := HJ2.out; have := HK2.out; have := HK3.out; omega
                case rel => exact ⟨(Go.bits .or .i64 (Go.bits .or .i64 x5_3 (ji21)) (ji24)), (wrap64 (x7_3 + 1)), (by first | rfl | (simp; done) | (simp only [← hji21, ← hji24] <;> (first | rfl | simp)) | (simp [*]; done)), (by first | rfl | (simp; done) | (simp [*]; done)), H', ⟨by have := HJ2.out; have := HK2.out; have := HK3.out; omega⟩, by repeat (first | exact Drawn0.refl _ | apply Drawn0.step)⟩
               ·rw [if_neg c23] at H
                exact absurd H (by simp)
              ·rw [if_neg c19] at H
               have c19b0 : ((Go.bits .and .i64 (ji18) 1) == 1) = false := beq_eq_false_iff_ne.mpr c19
               have c19b1 : ((Go.bits .and .i64 (ji18) 1) != 1) = true := bne_iff_ne.mpr c19
               obtain ⟨ji25, hji25⟩ : ∃ j_ : Int, (IntKind.u64.wrap (t116)) = j_ := ⟨_, rfl⟩
               replace H : (if 0 ≤ (ji25) then (if (Go.bits .and .i64 (shr .i64 x5_3 (ji25)) 1) = 1 then (dynamoref15_Reach.l1 k3 a0 (Go.bits .or .i64 (Go.bits .or .i64 x5_3 (shl .i64 1 (ji16))) (shl .i64 1 (ji25))) x6_2 (wrap64 (x7_3 + 1))) else (dynamoref15_Reach.l1 k3 a0 x5_3 x6_2 (wrap64 (x7_3 + 1)))) else (none)) = some r := by first | (rw [hji25] at H; exact H) | (simp only [hji25] at H ⊢; exact H)
               (try rw [hji25] at A11)
               by_cases c26 : 0 ≤ (ji25)
               ·rw [if_pos c26] at H
                have c26b0 := eq_true c26
                have c26b1 : decide (0 ≤ (ji25)) = true := decide_eq_true c26
                clear c26
                obtain ⟨ji27, hji27⟩ : ∃ j_ : Int, (shr .i64 x5_3 (ji25)) = j_ := ⟨_, rfl⟩
                replace H : (if (Go.bits .and .i64 (ji27) 1) = 1 then (dynamoref15_Reach.l1 k3 a0 (Go.bits .or .i64 (Go.bits .or .i64 x5_3 (shl .i64 1 (ji16))) (shl .i64 1 (ji25))) x6_2 (wrap64 (x7_3 + 1))) else (dynamoref15_Reach.l1 k3 a0 x5_3 x6_2 (wrap64 (x7_3 + 1)))) = some r := by first | (rw [hji27] at H; exact H) | (simp only [hji27] at H ⊢; exact H)
                (try rw [hji27] at A11)
                have hji27_ : (x5_3 / 2 ^ min (ji25).toNat 64) = ji27 := hji27
                have hji27z : (ji25) ≤ 64 → (x5_3 / 2 ^ (ji25).toNat) = ji27 := shr_small hji27
                by_cases c28 : (Go.bits .and .i64 (ji27) 1) = 1
                ·rw [if_pos c28] at H
                 have c28b0 : ((Go.bits .and .i64 (ji27) 1) == 1) = true := beq_iff_eq.mpr c28
                 have c28b1 : ((Go.bits .and .i64 (ji27) 1) != 1) = false := bne_eq_false_iff_eq.mpr c28
                 clear c28
                 have c29b0 := eq_true (of_decide_eq_true (by first | (with_reducible assumption) | assumption) : 0 ≤ (ji16))
                 obtain ⟨ji30, hji30⟩ : ∃ j_ : Int, (shl .i64 1 (ji16)) = j_ := ⟨_, rfl⟩
                 replace H : (dynamoref15_Reach.l1 k3 a0 (Go.bits .or .i64 (Go.bits .or .i64 x5_3 (ji30)) (shl .i64 1 (ji25))) x6_2 (wrap64 (x7_3 + 1))) = some r := by first | (rw [hji30] at H; exact H) | (simp only [hji30] at H ⊢; exact H)
                 (try rw [hji30] at A11)
                 have hji30_ : (IntKind.i64.wrap (1 * 2 ^ min (ji16).toNat 64)) = ji30 := hji30
                 have hji30z : (ji16) ≤ 64 → (IntKind.i64.wrap (1 * 2 ^ (ji16).toNat)) = ji30 := shl_small hji30
                 have hji30u : (IntKind.i64.wrap (2 ^ min (ji16).toNat 64)) = ji30 := by have h_ := hji30_; rw [Int.one_mul] at h_; exact h_
                 have hji30v : (ji16) ≤ 64 → (IntKind.i64.wrap (2 ^ (ji16).toNat)) = ji30 := fun hle_ => by have h_ := hji30z hle_; rw [Int.one_mul] at h_; exact h_
                 have hji30y : (wrap64 (1 * 2 ^ min (ji16).toNat 64)) = ji30 := (i64_w _).symm.trans hji30_
                 have hji30x : (ji16) ≤ 64 → (wrap64 (1 * 2 ^ (ji16).toNat)) = ji30 := fun h_ => (i64_w _).symm.trans (hji30z h_)
                 have c31b0 := eq_true (of_decide_eq_true (by first | (with_reducible assumption) | assumption) : 0 ≤ (ji25))
                 obtain ⟨ji32, hji32⟩ : ∃ j_ : Int, (shl .i64 1 (ji25)) = j_ := ⟨_, rfl⟩
                 replace H : (dynamoref15_Reach.l1 k3 a0 (Go.bits .or .i64 (Go.bits .or .i64 x5_3 (ji30)) (ji32)) x6_2 (wrap64 (x7_3 + 1))) = some r := by first | (rw [hji32] at H; exact H) | (simp only [hji32] at H ⊢; exact H)
                 (try rw [hji32] at A11)
                 have hji32_ : (IntKind.i64.wrap (1 * 2 ^ min (ji25).toNat 64)) = ji32 := hji32
                 have hji32z : (ji25) ≤ 64 → (IntKind.i64.wrap (1 * 2 ^ (ji25).toNat)) = ji32 := shl_small hji32
                 have hji32u : (IntKind.i64.wrap (2 ^ min (ji25).toNat 64)) = ji32 := by have h_ := hji32_; rw [Int.one_mul] at h_; exact h_
                 have hji32v : (ji25) ≤ 64 → (IntKind.i64.wrap (2 ^ (ji25).toNat)) = ji32 := fun hle_ => by have h_ := hji32z hle_; rw [Int.one_mul] at h_; exact h_
                 have hji32y : (wrap64 (1 * 2 ^ min (ji25).toNat 64)) = ji32 := (i64_w _).symm.trans hji32_
                 have hji32x : (ji25) ≤ 64 → (wrap64 (1 * 2 ^ (ji25).toNat)) = ji32 := fun h_ => (i64_w _).symm.trans (hji32z h_)
                 have H' := Aside0.mk H
                 clear H
                 go_wp2_with (first | ((with_reducible refine gate_callee (f := 18) rfl ?_); refine goesL_ (some 29) rfl rfl Tryd.func18 (by kernel_rfl) rfl #[.int .i64 x7_3] rfl (by (try simp only [List.map_toArray, List.map_cons, List.map_nil]); first | done | rfl | (simp only [List.length_drop, List.length_take]; rfl)) ?_; (with_reducible refine (dynamoref15_Ends.calls x7_3 t115 t116 _ A11.out).mono ?_); rintro e w' ⟨rfl, ⟨nd, rfl⟩⟩; refine ⟨_, rfl, ?_⟩))
                 go_roundg k3
                 case measure => have := HJ2.out; have := HK2.out; have := HK3.out; omega
                 case rel => exact ⟨(Go.bits .or .i64 (Go.bits .or .i64 x5_3 (ji30)) (ji32)), (wrap64 (x7_3 + 1)), (by first | rfl | (simp; done) | (simp only [← hji30, ← hji32] <;> (first | rfl | simp)) | (simp [*]; done)), (by first | rfl | (simp; done) | (simp [*]; done)), H', ⟨by have := HJ2.out; have := HK2.out; have := HK3.out; omega⟩, by repeat (first | exact Drawn0.refl _ | apply Drawn0.step)⟩
                ·rw [if_neg c28] at H
                 have c28b0 : ((Go.bits .and .i64 (ji27) 1) == 1) = false := beq_eq_false_iff_ne.mpr c28
                 have c28b1 : ((Go.bits .and .i64 (ji27) 1) != 1) = true := bne_iff_ne.mpr c28
                 have H' := Aside0.mk H
                 clear H
                 go_wp2_with (first | ((with_reducible refine gate_callee (f := 18) rfl ?_); refine goesL_ (some 29) rfl rfl Tryd.func18 (by kernel_rfl) rfl #[.int .i64 x7_3] rfl (by (try simp only [List.map_toArray, List.map_cons, List.map_nil]); first | done | rfl | (simp only [List.length_drop, List.length_take]; rfl)) ?_; (with_reducible refine (dynamoref15_Ends.calls x7_3 t115 t116 _ A11.out).mono ?_); rintro e w' ⟨rfl, ⟨nd, rfl⟩⟩; refine ⟨_, rfl, ?_⟩))
                 go_roundg k3
                 case measure => have := HJ2.out; have := HK2.out; have := HK3.out; omega
                 case rel => exact ⟨(x5_3), (wrap64 (x7_3 + 1)), (by first | rfl | (simp; done) | (simp [*]; done)), (by first | rfl | (simp; done) | (simp [*]; done)), H', ⟨by have := HJ2.out; have := HK2.out; have := HK3.out; omega⟩, by repeat (first | exact Drawn0.refl _ | apply Drawn0.step)⟩
               ·rw [if_neg c26] at H
                exact absurd H (by simp)
             ·rw [if_neg c17] at H
              exact absurd H (by simp)
            ·rw [if_neg c15] at H
             have c15b0 : ((Go.bits .and .i64 (ji14) 1) == 1) = false := beq_eq_false_iff_ne.mpr c15
             have c15b1 : ((Go.bits .and .i64 (ji14) 1) != 1) = true := bne_iff_ne.mpr c15
             have H' := Aside0.mk H
             clear H
             go_wp2_with (first | ((with_reducible refine gate_callee (f := 18) rfl ?_); refine goesL_ (some 29) rfl rfl Tryd.func18 (by kernel_rfl) rfl #[.int .i64 x7_3] rfl (by (try simp only [List.map_toArray, List.map_cons, List.map_nil]); first | done | rfl | (simp only [List.length_drop, List.length_take]; rfl)) ?_; (with_reducible refine (dynamoref15_Ends.calls x7_3 t115 t116 _ A11.out).mono ?_); rintro e w' ⟨rfl, ⟨nd, rfl⟩⟩; refine ⟨_, rfl, ?_⟩))
             go_roundg k3
             case measure => have := HJ2.out; have := HK2.out; have := HK3.out; omega
             case rel => exact ⟨(x5_3), (wrap64 (x7_3 + 1)), (by first | rfl | (simp; done) | (simp [*]; done)), (by first | rfl | (simp; done) | (simp [*]; done)), H', ⟨by have := HJ2.out; have := HK2.out; have := HK3.out; omega⟩, by repeat (first | exact Drawn0.refl _ | apply Drawn0.step)⟩
           ·rw [if_neg c13] at H
            exact absurd H (by simp)
          ·rw [if_neg c10] at H
           have c10b0 : decide (x7_3 < 7) = false := decide_eq_false c10
           clear c10
           have H' := Aside0.mk H
           clear H
           go_wp2
           go_roundg k3
           case measure => have := HJ2.out; have := HK2.out; have := HK3.out; omega
           case rel => exact ⟨(x5_3), (wrap64 (x6_2 + 1)), (by first | rfl | (simp; done) | (simp [*]; done)), (by first | rfl | (simp; done) | (simp [*]; done)), H', ⟨by have := HJ2.out; have := HK2.out; have := HK3.out; omega⟩, by repeat (first | exact Drawn0.refl _ | apply Drawn0.step)⟩
       ·rw [if_neg c9] at H
        have c9b0 : decide (x6_2 < 7) = false := decide_eq_false c9
        clear c9
        obtain rfl := Option.some.inj H
        go_wp2
        go_ret
        exact ⟨by first | rfl | (rw [HLAST.out]; done) | (simp [HLAST.out]; done) | (have HL_ := HLAST.out; simp_all; done) | (simp; done) | (simp only [← hji6, ← hji8] <;> (first | rfl | simp)) | (simp [*]; done), by repeat (first | exact Drawn0.refl _ | apply Drawn0.step)⟩
    ·rw [if_neg c7] at H
     exact absurd H (by simp)

/-! ### dynamoref15_bits: function 39 -/
def dynamoref15_bits.l0 : Nat → Int → Int → Int → Option (Int)
 | 0, _, _, _ => none
 | k + 1, x0, x3, x4 => if x4 < 32 then (if 0 ≤ (IntKind.u64.wrap (x4)) then (dynamoref15_bits.l0 k x0 (wrap64 (x3 + (Go.bits .and .i64 (shr .i64 x0 (IntKind.u64.wrap (x4))) 1))) (wrap64 (x4 + 1))) else (none)) else (some x3)
def dynamoref15_bits.f (k : Nat) (a0 : Int) : Option (Int) := dynamoref15_bits.l0 k a0 0 0
theorem dynamoref15_bits.mono_l : ∀ k, (∀ y0 y1 y2, LeO (dynamoref15_bits.l0 k y0 y1 y2) (dynamoref15_bits.l0 (k + 1) y0 y1 y2))
 | 0 => fun _ _ _ r h => by simp [dynamoref15_bits.l0] at h
 | k + 1 => by
  have ih0 := dynamoref15_bits.mono_l k
  ·intro y0 y1 y2
   unfold dynamoref15_bits.l0
   repeat' first
   | (with_reducible exact ih0 _ _ _)
   | (with_reducible exact LeO.refl _)
   | (with_reducible exact LeO.none _)
   | (with_reducible refine LeO.ite ?_ ?_)
   | (with_reducible refine LeO.bind ?_ (fun _ => ?_))
   | exact ih0 _ _ _
   | exact LeO.none _
   | refine LeO.ite ?_ ?_
   | refine LeO.bind ?_ (fun _ => ?_)
theorem dynamoref15_bits.mono : ∀ a0 k, LeO (dynamoref15_bits.f k a0) (dynamoref15_bits.f (k + 1) a0) := by
 intro a0 k
 have ih0 := dynamoref15_bits.mono_l k
 unfold dynamoref15_bits.f
 repeat' first
   | (with_reducible exact ih0 _ _ _)
   | (with_reducible exact LeO.refl _)
   | (with_reducible exact LeO.none _)
   | (with_reducible refine LeO.ite ?_ ?_)
   | (with_reducible refine LeO.bind ?_ (fun _ => ?_))
   | exact ih0 _ _ _
   | exact LeO.none _
   | refine LeO.ite ?_ ?_
   | refine LeO.bind ?_ (fun _ => ?_)
set_option maxHeartbeats 8000000 in
set_option maxRecDepth 100000 in
theorem dynamoref15_bits.calls (k : Nat) (a0 : Int) (r : Int) (w : World) (h : dynamoref15_bits.f k a0 = some r) :
  Calls Tryd.prog 39 #[.int .i64 a0] w fun e w' => e = .returned (.int .i64 r) ∧ Drawn0 w w' := by
 have H : (dynamoref15_bits.l0 k a0 0 0) = some r := h
 clear h
 have H' := Aside0.mk H
 clear H
 go_enter Tryd.func39, Tryd.ntmps39
 go_wp2
 go_loopg [3, 4] k (fun kq v3 v4 w' => ∃ (x3_1 : Int) (x4_1 : Int), v3 = .int .i64 x3_1 ∧ v4 = .int .i64 x4_1 ∧ Aside0 (dynamoref15_bits.l0 kq a0 x3_1 x4_1 = some r) ∧ Aside0 (kq ≤ k) ∧ Drawn0 w w')
 case atStart => exact ⟨(0), (0), (by first | rfl | (simp; done) | (simp [*]; done)), (by first | rfl | (simp; done) | (simp [*]; done)), H', ⟨Nat.le_refl _⟩, by repeat (first | exact Drawn0.refl _ | apply Drawn0.step)⟩
 case round =>
  clear H'
  obtain ⟨x3_1, x4_1, rfl, rfl, HA, HK1, ⟨m1, rfl⟩⟩ := hrel
  cases gk with
  | zero => exact absurd HA.out (by simp [dynamoref15_bits.l0])
  | succ k1 =>
   have H := HA.out
   clear HA
   simp only [dynamoref15_bits.l0] at H
   by_cases c2 : x4_1 < 32
   ·rw [if_pos c2] at H
    have c2b0 : decide (x4_1 < 32) = true := decide_eq_true c2
    clear c2
    obtain ⟨ji3, hji3⟩ : ∃ j_ : Int, (IntKind.u64.wrap (x4_1)) = j_ := ⟨_, rfl⟩
    replace H : (if 0 ≤ (ji3) then (dynamoref15_bits.l0 k1 a0 (wrap64 (x3_1 + (Go.bits .and .i64 (shr .i64 a0 (ji3)) 1))) (wrap64 (x4_1 + 1))) else (none)) = some r := by first | (rw [hji3] at H; exact H) | (simp only [hji3] at H ⊢; exact H)
    by_cases c4 : 0 ≤ (ji3)
    ·rw [if_pos c4] at H
     have c4b0 := eq_true c4
     have c4b1 : decide (0 ≤ (ji3)) = true := decide_eq_true c4
     clear c4
     obtain ⟨ji5, hji5⟩ : ∃ j_ : Int, (shr .i64 a0 (ji3)) = j_ := ⟨_, rfl⟩
     replace H : (dynamoref15_bits.l0 k1 a0 (wrap64 (x3_1 + (Go.bits .and .i64 (ji5) 1))) (wrap64 (x4_1 + 1))) = some r := by first | (rw [hji5] at H; exact H) | (simp only [hji5] at H ⊢; exact H)
     have hji5_ : (a0 / 2 ^ min (ji3).toNat 64) = ji5 := hji5
     have hji5z : (ji3) ≤ 64 → (a0 / 2 ^ (ji3).toNat) = ji5 := shr_small hji5
     have H' := Aside0.mk H
     clear H
     go_wp2
     go_roundg k1
     case measure => have := HK1.out; omega
     case rel => exact ⟨(wrap64 (x3_1 + (Go.bits .and .i64 (ji5) 1))), (wrap64 (x4_1 + 1)), (by first | rfl | (simp; done) | (simp only [← hji5] <;> (first | rfl | simp)) | (simp [*]; done)), (by first | rfl | (simp; done) | (simp [*]; done)), H', ⟨by have := HK1.out; omega⟩, by repeat (first | exact Drawn0.refl _ | apply Drawn0.step)⟩
    ·rw [if_neg c4] at H
     exact absurd H (by simp)
   ·rw [if_neg c2] at H
    have c2b0 : decide (x4_1 < 32) = false := decide_eq_false c2
    clear c2
    obtain rfl := Option.some.inj H
    go_wp2
    go_ret
    exact ⟨by first | rfl | (rw [HLAST.out]; done) | (simp [HLAST.out]; done) | (have HL_ := HLAST.out; simp_all; done) | (simp; done) | (simp [*]; done), by repeat (first | exact Drawn0.refl _ | apply Drawn0.step)⟩

/-! ### dynamoref15_Feeds: function 16 -/
mutual
def dynamoref15_Feeds.j0 : Nat → Int → Int → Bool → Option (Int)
 | 0, _, _, _ => none
 | k + 1, x0, x1, x12 => if x12 = true then (some (-1)) else ((dynamoref15_Reach.f k x0 x1).bind fun t117 => ((dynamoref15_bits.f k (Go.bits .and .i64 t117 15)).bind fun t118 => (if t118 = 1 then (dynamoref15_Feeds.l0 k (Go.bits .and .i64 t117 15) 0) else (some (-1)))))
def dynamoref15_Feeds.l0 : Nat → Int → Int → Option (Int)
 | 0, _, _ => none
 | k + 1, x5, x6 => if x6 < 4 then (if 0 ≤ (IntKind.u64.wrap (x6)) then (if x5 = (shl .i64 1 (IntKind.u64.wrap (x6))) then (some x6) else (dynamoref15_Feeds.l0 k x5 (wrap64 (x6 + 1)))) else (none)) else (some (-1))
end
def dynamoref15_Feeds.f (k : Nat) (a0 : Int) (a1 : Int) : Option (Int) := if a1 < 4 then (dynamoref15_Feeds.j0 k a0 a1 true) else (dynamoref15_Feeds.j0 k a0 a1 (decide (a1 > 6)))
theorem dynamoref15_Feeds.mono_l : ∀ k, (∀ y0 y1 y2, LeO (dynamoref15_Feeds.j0 k y0 y1 y2) (dynamoref15_Feeds.j0 (k + 1) y0 y1 y2)) ∧ (∀ y0 y1, LeO (dynamoref15_Feeds.l0 k y0 y1) (dynamoref15_Feeds.l0 (k + 1) y0 y1))
 | 0 => ⟨fun _ _ _ r h => by simp [dynamoref15_Feeds.j0] at h, fun _ _ r h => by simp [dynamoref15_Feeds.l0] at h⟩
 | k + 1 => by
  obtain ⟨ih0, ih1⟩ := dynamoref15_Feeds.mono_l k
  refine ⟨?_, ?_⟩
  ·intro y0 y1 y2
   unfold dynamoref15_Feeds.j0
   repeat' first
   | (with_reducible exact ih0 _ _ _)
   | (with_reducible exact ih1 _ _)
   | (with_reducible exact dynamoref15_Reach.mono _ _ _)
   | (with_reducible exact dynamoref15_bits.mono _ _)
   | (with_reducible exact LeO.refl _)
   | (with_reducible exact LeO.none _)
   | (with_reducible refine LeO.ite ?_ ?_)
   | (with_reducible refine LeO.bind ?_ (fun _ => ?_))
   | exact ih0 _ _ _
   | exact ih1 _ _
   | exact dynamoref15_Reach.mono _ _ _
   | exact dynamoref15_bits.mono _ _
   | exact LeO.none _
   | refine LeO.ite ?_ ?_
   | refine LeO.bind ?_ (fun _ => ?_)
  ·intro y0 y1
   unfold dynamoref15_Feeds.l0
   repeat' first
   | (with_reducible exact ih0 _ _ _)
   | (with_reducible exact ih1 _ _)
   | (with_reducible exact dynamoref15_Reach.mono _ _ _)
   | (with_reducible exact dynamoref15_bits.mono _ _)
   | (with_reducible exact LeO.refl _)
   | (with_reducible exact LeO.none _)
   | (with_reducible refine LeO.ite ?_ ?_)
   | (with_reducible refine LeO.bind ?_ (fun _ => ?_))
   | exact ih0 _ _ _
   | exact ih1 _ _
   | exact dynamoref15_Reach.mono _ _ _
   | exact dynamoref15_bits.mono _ _
   | exact LeO.none _
   | refine LeO.ite ?_ ?_
   | refine LeO.bind ?_ (fun _ => ?_)
theorem dynamoref15_Feeds.mono : ∀ a0 a1 k, LeO (dynamoref15_Feeds.f k a0 a1) (dynamoref15_Feeds.f (k + 1) a0 a1) := by
 intro a0 a1 k
 obtain ⟨ih0, ih1⟩ := dynamoref15_Feeds.mono_l k
 unfold dynamoref15_Feeds.f
 repeat' first
   | (with_reducible exact ih0 _ _ _)
   | (with_reducible exact ih1 _ _)
   | (with_reducible exact dynamoref15_Reach.mono _ _ _)
   | (with_reducible exact dynamoref15_bits.mono _ _)
   | (with_reducible exact LeO.refl _)
   | (with_reducible exact LeO.none _)
   | (with_reducible refine LeO.ite ?_ ?_)
   | (with_reducible refine LeO.bind ?_ (fun _ => ?_))
   | exact ih0 _ _ _
   | exact ih1 _ _
   | exact dynamoref15_Reach.mono _ _ _
   | exact dynamoref15_bits.mono _ _
   | exact LeO.none _
   | refine LeO.ite ?_ ?_
   | refine LeO.bind ?_ (fun _ => ?_)
set_option maxHeartbeats 8000000 in
set_option maxRecDepth 100000 in
theorem dynamoref15_Feeds.calls (k : Nat) (a0 : Int) (a1 : Int) (r : Int) (w : World) (h : dynamoref15_Feeds.f k a0 a1 = some r) :
  Calls Tryd.prog 16 #[.int .i64 a0, .int .i64 a1] w fun e w' => e = .returned (.int .i64 r) ∧ Drawn0 w w' := by
 have H : (if a1 < 4 then (dynamoref15_Feeds.j0 k a0 a1 true) else (dynamoref15_Feeds.j0 k a0 a1 (decide (a1 > 6)))) = some r := h
 clear h
 have HC3 := Aside0.mk H
 clear H
 go_enter Tryd.func16, Tryd.ntmps16
 go_upto_region 1 with (fail)
 go_cut [12] (fun v12 wc => ∃ (kq : Nat) (x12_2 : Bool), v12 = .bool x12_2 ∧ Aside0 (dynamoref15_Feeds.j0 kq a0 a1 x12_2 = some r) ∧ Aside0 (kq ≤ k) ∧ Drawn0 w wc)
 case first =>
  have H := HC3.out
  clear HC3
  by_cases c4 : a1 < 4
  ·rw [if_pos c4] at H
   have c4b0 : decide (a1 < 4) = true := decide_eq_true c4
   clear c4
   (first | rw [c4b0] | (simp only [i64_w, i32_w]; rw [c4b0]) | skip)
   have H' := Aside0.mk H
   clear H
   go_wp2
   go_meet
   case rel => exact ⟨_, (true), (by first | rfl | (simp; done) | (simp [*]; done)), H', ⟨by first | omega | exact Nat.le_refl _⟩, by repeat (first | exact Drawn0.refl _ | apply Drawn0.step)⟩
  ·rw [if_neg c4] at H
   have c4b0 : decide (a1 < 4) = false := decide_eq_false c4
   clear c4
   (first | rw [c4b0] | (simp only [i64_w, i32_w]; rw [c4b0]) | skip)
   have H' := Aside0.mk H
   clear H
   go_wp2
   go_meet
   case rel => exact ⟨_, (decide (a1 > 6)), (by first | rfl | (simp; done) | (simp [*]; done)), H', ⟨by first | omega | exact Nat.le_refl _⟩, by repeat (first | exact Drawn0.refl _ | apply Drawn0.step)⟩
 case rest =>
  clear HC3
  try clear c1
  try clear p2
  try clear c4
  try clear c4b0
  obtain ⟨kq, x12_2, rfl, HA, HJ2, ⟨mc2, rfl⟩⟩ := hcut
  cases kq with
  | zero => exact absurd HA.out (by simp [dynamoref15_Feeds.j0])
  | succ kj2 =>
   have H := HA.out
   clear HA
   simp only [dynamoref15_Feeds.j0] at H
   by_cases c5 : x12_2 = true
   ·subst c5
    have H1 : (some (-1)) = some r := by first | (rw [if_pos rfl] at H; exact H) | exact H | rfl
    clear H
    have H := H1
    clear H1
    obtain rfl := Option.some.inj H
    go_wp2
    go_ret
    exact ⟨by first | rfl | (rw [HLAST.out]; done) | (simp [HLAST.out]; done) | (have HL_ := HLAST.out; simp_all; done) | (simp; done) | (simp [*]; done), by repeat (first | exact Drawn0.refl _ | apply Drawn0.step)⟩
   ·replace c5 := Bool.eq_false_iff.mpr c5
    subst c5
    have H1 : ((dynamoref15_Reach.f kj2 a0 a1).bind fun t117 => ((dynamoref15_bits.f kj2 (Go.bits .and .i64 t117 15)).bind fun t118 => (if t118 = 1 then (dynamoref15_Feeds.l0 kj2 (Go.bits .and .i64 t117 15) 0) else (some (-1))))) = some r := by first | (rw [if_neg (show ¬ (false = true) by decide)] at H; exact H) | exact H | rfl
    clear H
    have H := H1
    clear H1
    replace H := Option.bind_eq_some_iff.mp H
    obtain ⟨t117, A60, H⟩ := H
    replace H : ((dynamoref15_bits.f kj2 (Go.bits .and .i64 t117 15)).bind fun t118 => (if t118 = 1 then (dynamoref15_Feeds.l0 kj2 (Go.bits .and .i64 t117 15) 0) else (some (-1)))) = some r := H
    have A6 := Aside0.mk A60
    clear A60
    replace H := Option.bind_eq_some_iff.mp H
    obtain ⟨t118, A70, H⟩ := H
    replace H : (if t118 = 1 then (dynamoref15_Feeds.l0 kj2 (Go.bits .and .i64 t117 15) 0) else (some (-1))) = some r := H
    have A7 := Aside0.mk A70
    clear A70
    by_cases c8 : t118 = 1
    ·rw [if_pos c8] at H
     have c8b0 : (t118 == 1) = true := beq_iff_eq.mpr c8
     have c8b1 : (t118 != 1) = false := bne_eq_false_iff_eq.mpr c8
     clear c8
     have H' := Aside0.mk H
     clear H
     go_wp2_with (first | ((with_reducible refine gate_callee (f := 19) rfl ?_); refine goesL_ (some 15) rfl rfl Tryd.func19 (by kernel_rfl) rfl #[.int .i64 a0, .int .i64 a1] rfl (by (try simp only [List.map_toArray, List.map_cons, List.map_nil]); first | done | rfl | (simp only [List.length_drop, List.length_take]; rfl)) ?_; (with_reducible refine (dynamoref15_Reach.calls kj2 a0 a1 t117 _ A6.out).mono ?_); rintro e w' ⟨rfl, ⟨nd, rfl⟩⟩; refine ⟨_, rfl, ?_⟩) | ((with_reducible refine gate_callee (f := 39) rfl ?_); refine goesL_ (some 18) rfl rfl Tryd.func39 (by kernel_rfl) rfl #[.int .i64 (Go.bits .and .i64 t117 15)] rfl (by (try simp only [List.map_toArray, List.map_cons, List.map_nil]); first | done | rfl | (simp only [List.length_drop, List.length_take]; rfl)) ?_; (with_reducible refine (dynamoref15_bits.calls kj2 (Go.bits .and .i64 t117 15) t118 _ A7.out).mono ?_); rintro e w' ⟨rfl, ⟨nd, rfl⟩⟩; refine ⟨_, rfl, ?_⟩))
     go_loopg [6] kj2 (fun kq v6 w' => ∃ (x6_2 : Int), v6 = .int .i64 x6_2 ∧ Aside0 (dynamoref15_Feeds.l0 kq (Go.bits .and .i64 t117 15) x6_2 = some r) ∧ Aside0 (kq ≤ kj2) ∧ Drawn0 w w')
     case atStart => exact ⟨(0), (by first | rfl | (simp; done) | (simp [*]; done)), H', ⟨Nat.le_refl _⟩, by repeat (first | exact Drawn0.refl _ | apply Drawn0.step)⟩
     case round =>
      clear H'
      try clear c1
      try clear c2
      try clear p2
      try clear c3
      try clear c4
      try clear c4b0
      try clear c5
      try clear c8
      try clear c8b0
      try clear c8b1
      try clear p2
      obtain ⟨x6_2, rfl, HA, HK2, ⟨m2, rfl⟩⟩ := hrel
      cases gk with
      | zero => exact absurd HA.out (by simp [dynamoref15_Feeds.l0])
      | succ k2 =>
       have H := HA.out
       clear HA
       simp only [dynamoref15_Feeds.l0] at H
       by_cases c9 : x6_2 < 4
       ·rw [if_pos c9] at H
        have c9b0 : decide (x6_2 < 4) = true := decide_eq_true c9
        clear c9
        obtain ⟨ji10, hji10⟩ : ∃ j_ : Int, (IntKind.u64.wrap (x6_2)) = j_ := ⟨_, rfl⟩
        replace H : (if 0 ≤ (ji10) then (if (Go.bits .and .i64 t117 15) = (shl .i64 1 (ji10)) then (some x6_2) else (dynamoref15_Feeds.l0 k2 (Go.bits .and .i64 t117 15) (wrap64 (x6_2 + 1)))) else (none)) = some r := by first | (rw [hji10] at H; exact H) | (simp only [hji10] at H ⊢; exact H)
        by_cases c11 : 0 ≤ (ji10)
        ·rw [if_pos c11] at H
         have c11b0 := eq_true c11
         have c11b1 : decide (0 ≤ (ji10)) = true := decide_eq_true c11
         clear c11
         obtain ⟨ji12, hji12⟩ : ∃ j_ : Int, (shl .i64 1 (ji10)) = j_ := ⟨_, rfl⟩
         replace H : (if (Go.bits .and .i64 t117 15) = (ji12) then (some x6_2) else (dynamoref15_Feeds.l0 k2 (Go.bits .and .i64 t117 15) (wrap64 (x6_2 + 1)))) = some r := by first | (rw [hji12] at H; exact H) | (simp only [hji12] at H ⊢; exact H)
         have hji12_ : (IntKind.i64.wrap (1 * 2 ^ min (ji10).toNat 64)) = ji12 := hji12
         have hji12z : (ji10) ≤ 64 → (IntKind.i64.wrap (1 * 2 ^ (ji10).toNat)) = ji12 := shl_small hji12
         have hji12u : (IntKind.i64.wrap (2 ^ min (ji10).toNat 64)) = ji12 := by have h_ := hji12_; rw [Int.one_mul] at h_; exact h_
         have hji12v : (ji10) ≤ 64 → (IntKind.i64.wrap (2 ^ (ji10).toNat)) = ji12 := fun hle_ => by have h_ := hji12z hle_; rw [Int.one_mul] at h_; exact h_
         have hji12y : (wrap64 (1 * 2 ^ min (ji10).toNat 64)) = ji12 := (i64_w _).symm.trans hji12_
         have hji12x : (ji10) ≤ 64 → (wrap64 (1 * 2 ^ (ji10).toNat)) = ji12 := fun h_ => (i64_w _).symm.trans (hji12z h_)
         by_cases c13 : (Go.bits .and .i64 t117 15) = (ji12)
         ·rw [if_pos c13] at H
          have c13b0 : ((Go.bits .and .i64 t117 15) == (ji12)) = true := beq_iff_eq.mpr c13
          have c13b1 : ((Go.bits .and .i64 t117 15) != (ji12)) = false := bne_eq_false_iff_eq.mpr c13
          clear c13
          obtain rfl := Option.some.inj H
          go_wp2
          go_ret
          exact ⟨by first | rfl | (rw [HLAST.out]; done) | (simp [HLAST.out]; done) | (have HL_ := HLAST.out; simp_all; done) | (simp; done) | (simp only [← hji10, ← hji12] <;> (first | rfl | simp)) | (simp [*]; done), by repeat (first | exact Drawn0.refl _ | apply Drawn0.step)⟩
         ·rw [if_neg c13] at H
          have c13b0 : ((Go.bits .and .i64 t117 15) == (ji12)) = false := beq_eq_false_iff_ne.mpr c13
          have c13b1 : ((Go.bits .and .i64 t117 15) != (ji12)) = true := bne_iff_ne.mpr c13
          have H' := Aside0.mk H
          clear H
          go_wp2
          go_roundg k2
          case measure => have := HJ2.out; have := HK2.out; omega
          case rel => exact ⟨(wrap64 (x6_2 + 1)), (by first | rfl | (simp; done) | (simp [*]; done)), H', ⟨by have := HJ2.out; have := HK2.out; omega⟩, by repeat (first | exact Drawn0.refl _ | apply Drawn0.step)⟩
        ·rw [if_neg c11] at H
         exact absurd H (by simp)
       ·rw [if_neg c9] at H
        have c9b0 : decide (x6_2 < 4) = false := decide_eq_false c9
        clear c9
        obtain rfl := Option.some.inj H
        go_wp2
        go_ret
        exact ⟨by first | rfl | (rw [HLAST.out]; done) | (simp [HLAST.out]; done) | (have HL_ := HLAST.out; simp_all; done) | (simp; done) | (simp [*]; done), by repeat (first | exact Drawn0.refl _ | apply Drawn0.step)⟩
    ·rw [if_neg c8] at H
     have c8b0 : (t118 == 1) = false := beq_eq_false_iff_ne.mpr c8
     have c8b1 : (t118 != 1) = true := bne_iff_ne.mpr c8
     obtain rfl := Option.some.inj H
     go_wp2_with (first | ((with_reducible refine gate_callee (f := 19) rfl ?_); refine goesL_ (some 15) rfl rfl Tryd.func19 (by kernel_rfl) rfl #[.int .i64 a0, .int .i64 a1] rfl (by (try simp only [List.map_toArray, List.map_cons, List.map_nil]); first | done | rfl | (simp only [List.length_drop, List.length_take]; rfl)) ?_; (with_reducible refine (dynamoref15_Reach.calls kj2 a0 a1 t117 _ A6.out).mono ?_); rintro e w' ⟨rfl, ⟨nd, rfl⟩⟩; refine ⟨_, rfl, ?_⟩) | ((with_reducible refine gate_callee (f := 39) rfl ?_); refine goesL_ (some 18) rfl rfl Tryd.func39 (by kernel_rfl) rfl #[.int .i64 (Go.bits .and .i64 t117 15)] rfl (by (try simp only [List.map_toArray, List.map_cons, List.map_nil]); first | done | rfl | (simp only [List.length_drop, List.length_take]; rfl)) ?_; (with_reducible refine (dynamoref15_bits.calls kj2 (Go.bits .and .i64 t117 15) t118 _ A7.out).mono ?_); rintro e w' ⟨rfl, ⟨nd, rfl⟩⟩; refine ⟨_, rfl, ?_⟩))
     go_ret
     exact ⟨by first | rfl | (rw [HLAST.out]; done) | (simp [HLAST.out]; done) | (have HL_ := HLAST.out; simp_all; done) | (simp; done) | (simp [*]; done), by repeat (first | exact Drawn0.refl _ | apply Drawn0.step)⟩

/-! ### graph_Joined: function 20 -/
def graph_Joined.l0 : Nat → Int → Int → Option (Bool)
 | 0, _, _ => none
 | k + 1, x0, x4 => if x4 < 4 then ((graph_fed.f k x0 x4).bind fun t119 => ((bits_OnesCount.f (IntKind.u64.wrap (t119))).bind fun t120 => (if t120 > 1 then (some true) else (graph_Joined.l0 k x0 (wrap64 (x4 + 1)))))) else (some false)
def graph_Joined.f (k : Nat) (a0 : Int) : Option (Bool) := graph_Joined.l0 k a0 0
theorem graph_Joined.mono_l : ∀ k, (∀ y0 y1, LeO (graph_Joined.l0 k y0 y1) (graph_Joined.l0 (k + 1) y0 y1))
 | 0 => fun _ _ r h => by simp [graph_Joined.l0] at h
 | k + 1 => by
  have ih0 := graph_Joined.mono_l k
  ·intro y0 y1
   unfold graph_Joined.l0
   repeat' first
   | (with_reducible exact ih0 _ _)
   | (with_reducible exact graph_fed.mono _ _ _)
   | (with_reducible exact LeO.refl _)
   | (with_reducible exact LeO.none _)
   | (with_reducible refine LeO.ite ?_ ?_)
   | (with_reducible refine LeO.bind ?_ (fun _ => ?_))
   | exact ih0 _ _
   | exact graph_fed.mono _ _ _
   | exact LeO.none _
   | refine LeO.ite ?_ ?_
   | refine LeO.bind ?_ (fun _ => ?_)
theorem graph_Joined.mono : ∀ a0 k, LeO (graph_Joined.f k a0) (graph_Joined.f (k + 1) a0) := by
 intro a0 k
 have ih0 := graph_Joined.mono_l k
 unfold graph_Joined.f
 repeat' first
   | (with_reducible exact ih0 _ _)
   | (with_reducible exact graph_fed.mono _ _ _)
   | (with_reducible exact LeO.refl _)
   | (with_reducible exact LeO.none _)
   | (with_reducible refine LeO.ite ?_ ?_)
   | (with_reducible refine LeO.bind ?_ (fun _ => ?_))
   | exact ih0 _ _
   | exact graph_fed.mono _ _ _
   | exact LeO.none _
   | refine LeO.ite ?_ ?_
   | refine LeO.bind ?_ (fun _ => ?_)
set_option maxHeartbeats 8000000 in
set_option maxRecDepth 100000 in
theorem graph_Joined.calls (k : Nat) (a0 : Int) (r : Bool) (w : World) (h : graph_Joined.f k a0 = some r) :
  Calls Tryd.prog 20 #[.int .i64 a0] w fun e w' => e = .returned (.bool r) ∧ Drawn0 w w' := by
 have H : (graph_Joined.l0 k a0 0) = some r := h
 clear h
 have H' := Aside0.mk H
 clear H
 go_enter Tryd.func20, Tryd.ntmps20
 go_wp2
 go_loopg [4] k (fun kq v4 w' => ∃ (x4_1 : Int), v4 = .int .i64 x4_1 ∧ Aside0 (graph_Joined.l0 kq a0 x4_1 = some r) ∧ Aside0 (kq ≤ k) ∧ Drawn0 w w')
 case atStart => exact ⟨(0), (by first | rfl | (simp; done) | (simp [*]; done)), H', ⟨Nat.le_refl _⟩, by repeat (first | exact Drawn0.refl _ | apply Drawn0.step)⟩
 case round =>
  clear H'
  obtain ⟨x4_1, rfl, HA, HK1, ⟨m1, rfl⟩⟩ := hrel
  cases gk with
  | zero => exact absurd HA.out (by simp [graph_Joined.l0])
  | succ k1 =>
   have H := HA.out
   clear HA
   simp only [graph_Joined.l0] at H
   by_cases c2 : x4_1 < 4
   ·rw [if_pos c2] at H
    have c2b0 : decide (x4_1 < 4) = true := decide_eq_true c2
    clear c2
    replace H := Option.bind_eq_some_iff.mp H
    obtain ⟨t119, A30, H⟩ := H
    replace H : ((bits_OnesCount.f (IntKind.u64.wrap (t119))).bind fun t120 => (if t120 > 1 then (some true) else (graph_Joined.l0 k1 a0 (wrap64 (x4_1 + 1))))) = some r := H
    have A3 := Aside0.mk A30
    clear A30
    replace H := Option.bind_eq_some_iff.mp H
    obtain ⟨t120, A40, H⟩ := H
    replace H : (if t120 > 1 then (some true) else (graph_Joined.l0 k1 a0 (wrap64 (x4_1 + 1)))) = some r := H
    have A4 := Aside0.mk A40
    clear A40
    by_cases c5 : t120 > 1
    ·rw [if_pos c5] at H
     have c5b0 : decide (1 < t120) = true := decide_eq_true c5
     clear c5
     obtain rfl := Option.some.inj H
     go_wp2_with (first | ((with_reducible refine gate_callee (f := 36) rfl ?_); refine goesL_ (some 9) rfl rfl Tryd.func36 (by kernel_rfl) rfl #[.int .i64 a0, .int .i64 x4_1] rfl (by (try simp only [List.map_toArray, List.map_cons, List.map_nil]); first | done | rfl | (simp only [List.length_drop, List.length_take]; rfl)) ?_; (with_reducible refine (graph_fed.calls k1 a0 x4_1 t119 _ A3.out).mono ?_); rintro e w' ⟨rfl, ⟨nd, rfl⟩⟩; refine ⟨_, rfl, ?_⟩) | ((with_reducible refine gate_callee (f := 37) rfl ?_); refine goesL_ (some 11) rfl rfl Tryd.func37 (by kernel_rfl) rfl #[.int .u64 (IntKind.u64.wrap (t119))] rfl (by (try simp only [List.map_toArray, List.map_cons, List.map_nil]); first | done | rfl | (simp only [List.length_drop, List.length_take]; rfl)) ?_; (with_reducible refine (bits_OnesCount.calls (IntKind.u64.wrap (t119)) t120 _ A4.out).mono ?_); rintro e w' ⟨rfl, ⟨nd, rfl⟩⟩; refine ⟨_, rfl, ?_⟩))
     go_ret
     exact ⟨by first | rfl | (rw [HLAST.out]; done) | (simp [HLAST.out]; done) | (have HL_ := HLAST.out; simp_all; done) | (simp; done) | (simp [*]; done), by repeat (first | exact Drawn0.refl _ | apply Drawn0.step)⟩
    ·rw [if_neg c5] at H
     have c5b0 : decide (1 < t120) = false := decide_eq_false c5
     clear c5
     have H' := Aside0.mk H
     clear H
     go_wp2_with (first | ((with_reducible refine gate_callee (f := 36) rfl ?_); refine goesL_ (some 9) rfl rfl Tryd.func36 (by kernel_rfl) rfl #[.int .i64 a0, .int .i64 x4_1] rfl (by (try simp only [List.map_toArray, List.map_cons, List.map_nil]); first | done | rfl | (simp only [List.length_drop, List.length_take]; rfl)) ?_; (with_reducible refine (graph_fed.calls k1 a0 x4_1 t119 _ A3.out).mono ?_); rintro e w' ⟨rfl, ⟨nd, rfl⟩⟩; refine ⟨_, rfl, ?_⟩) | ((with_reducible refine gate_callee (f := 37) rfl ?_); refine goesL_ (some 11) rfl rfl Tryd.func37 (by kernel_rfl) rfl #[.int .u64 (IntKind.u64.wrap (t119))] rfl (by (try simp only [List.map_toArray, List.map_cons, List.map_nil]); first | done | rfl | (simp only [List.length_drop, List.length_take]; rfl)) ?_; (with_reducible refine (bits_OnesCount.calls (IntKind.u64.wrap (t119)) t120 _ A4.out).mono ?_); rintro e w' ⟨rfl, ⟨nd, rfl⟩⟩; refine ⟨_, rfl, ?_⟩))
     go_roundg k1
     case measure => have := HK1.out; omega
     case rel => exact ⟨(wrap64 (x4_1 + 1)), (by first | rfl | (simp; done) | (simp [*]; done)), H', ⟨by have := HK1.out; omega⟩, by repeat (first | exact Drawn0.refl _ | apply Drawn0.step)⟩
   ·rw [if_neg c2] at H
    have c2b0 : decide (x4_1 < 4) = false := decide_eq_false c2
    clear c2
    obtain rfl := Option.some.inj H
    go_wp2
    go_ret
    exact ⟨by first | rfl | (rw [HLAST.out]; done) | (simp [HLAST.out]; done) | (have HL_ := HLAST.out; simp_all; done) | (simp; done) | (simp [*]; done), by repeat (first | exact Drawn0.refl _ | apply Drawn0.step)⟩

/-! ### dynamoref15_Joined: function 21 -/
def dynamoref15_Joined.l0 : Nat → Int → Int → Option (Bool)
 | 0, _, _ => none
 | k + 1, x0, x3 => if x3 < 4 then ((dynamoref15_Reach.f k x0 x3).bind fun t121 => ((dynamoref15_bits.f k (Go.bits .and .i64 t121 15)).bind fun t122 => (if t122 > 1 then (some true) else (dynamoref15_Joined.l0 k x0 (wrap64 (x3 + 1)))))) else (some false)
def dynamoref15_Joined.f (k : Nat) (a0 : Int) : Option (Bool) := dynamoref15_Joined.l0 k a0 0
theorem dynamoref15_Joined.mono_l : ∀ k, (∀ y0 y1, LeO (dynamoref15_Joined.l0 k y0 y1) (dynamoref15_Joined.l0 (k + 1) y0 y1))
 | 0 => fun _ _ r h => by simp [dynamoref15_Joined.l0] at h
 | k + 1 => by
  have ih0 := dynamoref15_Joined.mono_l k
  ·intro y0 y1
   unfold dynamoref15_Joined.l0
   repeat' first
   | (with_reducible exact ih0 _ _)
   | (with_reducible exact dynamoref15_Reach.mono _ _ _)
   | (with_reducible exact dynamoref15_bits.mono _ _)
   | (with_reducible exact LeO.refl _)
   | (with_reducible exact LeO.none _)
   | (with_reducible refine LeO.ite ?_ ?_)
   | (with_reducible refine LeO.bind ?_ (fun _ => ?_))
   | exact ih0 _ _
   | exact dynamoref15_Reach.mono _ _ _
   | exact dynamoref15_bits.mono _ _
   | exact LeO.none _
   | refine LeO.ite ?_ ?_
   | refine LeO.bind ?_ (fun _ => ?_)
theorem dynamoref15_Joined.mono : ∀ a0 k, LeO (dynamoref15_Joined.f k a0) (dynamoref15_Joined.f (k + 1) a0) := by
 intro a0 k
 have ih0 := dynamoref15_Joined.mono_l k
 unfold dynamoref15_Joined.f
 repeat' first
   | (with_reducible exact ih0 _ _)
   | (with_reducible exact dynamoref15_Reach.mono _ _ _)
   | (with_reducible exact dynamoref15_bits.mono _ _)
   | (with_reducible exact LeO.refl _)
   | (with_reducible exact LeO.none _)
   | (with_reducible refine LeO.ite ?_ ?_)
   | (with_reducible refine LeO.bind ?_ (fun _ => ?_))
   | exact ih0 _ _
   | exact dynamoref15_Reach.mono _ _ _
   | exact dynamoref15_bits.mono _ _
   | exact LeO.none _
   | refine LeO.ite ?_ ?_
   | refine LeO.bind ?_ (fun _ => ?_)
set_option maxHeartbeats 8000000 in
set_option maxRecDepth 100000 in
theorem dynamoref15_Joined.calls (k : Nat) (a0 : Int) (r : Bool) (w : World) (h : dynamoref15_Joined.f k a0 = some r) :
  Calls Tryd.prog 21 #[.int .i64 a0] w fun e w' => e = .returned (.bool r) ∧ Drawn0 w w' := by
 have H : (dynamoref15_Joined.l0 k a0 0) = some r := h
 clear h
 have H' := Aside0.mk H
 clear H
 go_enter Tryd.func21, Tryd.ntmps21
 go_wp2
 go_loopg [3] k (fun kq v3 w' => ∃ (x3_1 : Int), v3 = .int .i64 x3_1 ∧ Aside0 (dynamoref15_Joined.l0 kq a0 x3_1 = some r) ∧ Aside0 (kq ≤ k) ∧ Drawn0 w w')
 case atStart => exact ⟨(0), (by first | rfl | (simp; done) | (simp [*]; done)), H', ⟨Nat.le_refl _⟩, by repeat (first | exact Drawn0.refl _ | apply Drawn0.step)⟩
 case round =>
  clear H'
  obtain ⟨x3_1, rfl, HA, HK1, ⟨m1, rfl⟩⟩ := hrel
  cases gk with
  | zero => exact absurd HA.out (by simp [dynamoref15_Joined.l0])
  | succ k1 =>
   have H := HA.out
   clear HA
   simp only [dynamoref15_Joined.l0] at H
   by_cases c2 : x3_1 < 4
   ·rw [if_pos c2] at H
    have c2b0 : decide (x3_1 < 4) = true := decide_eq_true c2
    clear c2
    replace H := Option.bind_eq_some_iff.mp H
    obtain ⟨t121, A30, H⟩ := H
    replace H : ((dynamoref15_bits.f k1 (Go.bits .and .i64 t121 15)).bind fun t122 => (if t122 > 1 then (some true) else (dynamoref15_Joined.l0 k1 a0 (wrap64 (x3_1 + 1))))) = some r := H
    have A3 := Aside0.mk A30
    clear A30
    replace H := Option.bind_eq_some_iff.mp H
    obtain ⟨t122, A40, H⟩ := H
    replace H : (if t122 > 1 then (some true) else (dynamoref15_Joined.l0 k1 a0 (wrap64 (x3_1 + 1)))) = some r := H
    have A4 := Aside0.mk A40
    clear A40
    by_cases c5 : t122 > 1
    ·rw [if_pos c5] at H
     have c5b0 : decide (1 < t122) = true := decide_eq_true c5
     clear c5
     obtain rfl := Option.some.inj H
     go_wp2_with (first | ((with_reducible refine gate_callee (f := 19) rfl ?_); refine goesL_ (some 10) rfl rfl Tryd.func19 (by kernel_rfl) rfl #[.int .i64 a0, .int .i64 x3_1] rfl (by (try simp only [List.map_toArray, List.map_cons, List.map_nil]); first | done | rfl | (simp only [List.length_drop, List.length_take]; rfl)) ?_; (with_reducible refine (dynamoref15_Reach.calls k1 a0 x3_1 t121 _ A3.out).mono ?_); rintro e w' ⟨rfl, ⟨nd, rfl⟩⟩; refine ⟨_, rfl, ?_⟩) | ((with_reducible refine gate_callee (f := 39) rfl ?_); refine goesL_ (some 12) rfl rfl Tryd.func39 (by kernel_rfl) rfl #[.int .i64 (Go.bits .and .i64 t121 15)] rfl (by (try simp only [List.map_toArray, List.map_cons, List.map_nil]); first | done | rfl | (simp only [List.length_drop, List.length_take]; rfl)) ?_; (with_reducible refine (dynamoref15_bits.calls k1 (Go.bits .and .i64 t121 15) t122 _ A4.out).mono ?_); rintro e w' ⟨rfl, ⟨nd, rfl⟩⟩; refine ⟨_, rfl, ?_⟩))
     go_ret
     exact ⟨by first | rfl | (rw [HLAST.out]; done) | (simp [HLAST.out]; done) | (have HL_ := HLAST.out; simp_all; done) | (simp; done) | (simp [*]; done), by repeat (first | exact Drawn0.refl _ | apply Drawn0.step)⟩
    ·rw [if_neg c5] at H
     have c5b0 : decide (1 < t122) = false := decide_eq_false c5
     clear c5
     have H' := Aside0.mk H
     clear H
     go_wp2_with (first | ((with_reducible refine gate_callee (f := 19) rfl ?_); refine goesL_ (some 10) rfl rfl Tryd.func19 (by kernel_rfl) rfl #[.int .i64 a0, .int .i64 x3_1] rfl (by (try simp only [List.map_toArray, List.map_cons, List.map_nil]); first | done | rfl | (simp only [List.length_drop, List.length_take]; rfl)) ?_; (with_reducible refine (dynamoref15_Reach.calls k1 a0 x3_1 t121 _ A3.out).mono ?_); rintro e w' ⟨rfl, ⟨nd, rfl⟩⟩; refine ⟨_, rfl, ?_⟩) | ((with_reducible refine gate_callee (f := 39) rfl ?_); refine goesL_ (some 12) rfl rfl Tryd.func39 (by kernel_rfl) rfl #[.int .i64 (Go.bits .and .i64 t121 15)] rfl (by (try simp only [List.map_toArray, List.map_cons, List.map_nil]); first | done | rfl | (simp only [List.length_drop, List.length_take]; rfl)) ?_; (with_reducible refine (dynamoref15_bits.calls k1 (Go.bits .and .i64 t121 15) t122 _ A4.out).mono ?_); rintro e w' ⟨rfl, ⟨nd, rfl⟩⟩; refine ⟨_, rfl, ?_⟩))
     go_roundg k1
     case measure => have := HK1.out; omega
     case rel => exact ⟨(wrap64 (x3_1 + 1)), (by first | rfl | (simp; done) | (simp [*]; done)), H', ⟨by have := HK1.out; omega⟩, by repeat (first | exact Drawn0.refl _ | apply Drawn0.step)⟩
   ·rw [if_neg c2] at H
    have c2b0 : decide (x3_1 < 4) = false := decide_eq_false c2
    clear c2
    obtain rfl := Option.some.inj H
    go_wp2
    go_ret
    exact ⟨by first | rfl | (rw [HLAST.out]; done) | (simp [HLAST.out]; done) | (have HL_ := HLAST.out; simp_all; done) | (simp; done) | (simp [*]; done), by repeat (first | exact Drawn0.refl _ | apply Drawn0.step)⟩

end Go.Proofs.YtjmggdccmggboabDoor.PGraphSays
