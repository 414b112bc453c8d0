-- written by this work with wip/mkprint2.py
import Derived.Test.YtjmggdccmggboabDoorPGraphFeedsx0
import Derived.Test.YtjmggdccmggboabDoorPGraphFeedsx1
import Derived.Test.YtjmggdccmggboabDoorPGraphFeedsx2
namespace Go.Proofs.YtjmggdccmggboabDoor.PGraphFeeds
open Go.RowKit Go.Proofs.YtjmggdccmggboabDoorW.PrintWords Go.Proofs.YtjmggdccmggboabDoorW.PrintLast Go.Proofs.YtjmggdccmggboabDoorW.PrintMore
attribute [local go_sem] max2_int min2_int max_two min_two max_three min_three max_four min_four   -- for this text's walks alone
set_option linter.unusedVariables false
set_option linter.unusedSimpArgs false
open Go.Proofs.YtjmggdccmggboabDoor.Tz

/-! ### dynamolaw21_GraphFeeds: function 3 -/
def dynamolaw21_GraphFeeds.l0 : Nat → Int → Int → Bool → Int → Int → Int → Option (Bool)
 | 0, _, _, _, _, _, _ => none
 | k + 1, x0, x1, x5, x6, x7, x8 => if x8 < 4 then ((graph_Reach.f k x0 x1).bind fun t123 => (if 0 ≤ (IntKind.u64.wrap (x8)) then (if (Go.bits .and .i64 (shr .i64 t123 (IntKind.u64.wrap (x8))) 1) = 1 then (dynamolaw21_GraphFeeds.l0 k x0 x1 x5 x6 (wrap64 (x7 + 1)) (wrap64 (x8 + 1))) else (dynamolaw21_GraphFeeds.l0 k x0 x1 x5 x6 x7 (wrap64 (x8 + 1)))) else (none))) else (if x6 < 0 then (if x5 = true then (if x7 = 1 then (some false) else (some (x6 == (-1)))) else (some false)) else (if x5 = true then (if x7 = 1 then (if x6 < 4 then ((graph_Reach.f k x0 x6).bind fun t124 => (if 0 ≤ (IntKind.u64.wrap (x1)) then (if (Go.bits .and .i64 (shr .i64 t124 (IntKind.u64.wrap (x1))) 1) = 1 then ((graph_Feeds.f k x0 0).bind fun t125 => (if t125 = (-1) then ((graph_Feeds.f k x0 7).bind fun t126 => (if t126 = (-1) then ((dynamoref15_Feeds.f k x0 x1).bind fun t127 => (some (t127 == x6))) else (some false))) else (some false))) else (some false)) else (none))) else (some false)) else (some false)) else (some false)))
def dynamolaw21_GraphFeeds.f (k : Nat) (a0 : Int) (a1 : Int) : Option (Bool) := (dynamolaw21_first.f k).bind fun t119 => (if t119 = true then ((dynamoworld_Number.f a0 128).bind fun t120 => ((dynamoworld_Number.f a1 3).bind fun t121 => ((graph_Feeds.f k t120 (wrap64 (4 + t121))).bind fun t122 => (dynamolaw21_GraphFeeds.l0 k t120 (wrap64 (4 + t121)) t119 t122 0 0)))) else (some false))
theorem dynamolaw21_GraphFeeds.mono_l : ∀ k, (∀ y0 y1 y2 y3 y4 y5, LeO (dynamolaw21_GraphFeeds.l0 k y0 y1 y2 y3 y4 y5) (dynamolaw21_GraphFeeds.l0 (k + 1) y0 y1 y2 y3 y4 y5))
 | 0 => fun _ _ _ _ _ _ r h => by simp [dynamolaw21_GraphFeeds.l0] at h
 | k + 1 => by
  have ih0 := dynamolaw21_GraphFeeds.mono_l k
  ·intro y0 y1 y2 y3 y4 y5
   unfold dynamolaw21_GraphFeeds.l0
   repeat' first
   | (with_reducible exact ih0 _ _ _ _ _ _)
   | (with_reducible exact dynamolaw21_first.mono _)
   | (with_reducible exact dynamoref15_Feeds.mono _ _ _)
   | (with_reducible exact graph_Feeds.mono _ _ _)
   | (with_reducible exact graph_Reach.mono _ _ _)
   | (with_reducible exact LeO.refl _)
   | (with_reducible exact LeO.none _)
   | (with_reducible refine LeO.ite ?_ ?_)
   | (with_reducible refine LeO.bind ?_ (fun _ => ?_))
   | exact ih0 _ _ _ _ _ _
   | exact dynamolaw21_first.mono _
   | exact dynamoref15_Feeds.mono _ _ _
   | exact graph_Feeds.mono _ _ _
   | exact graph_Reach.mono _ _ _
   | exact LeO.none _
   | refine LeO.ite ?_ ?_
   | refine LeO.bind ?_ (fun _ => ?_)
theorem dynamolaw21_GraphFeeds.mono : ∀ a0 a1 k, LeO (dynamolaw21_GraphFeeds.f k a0 a1) (dynamolaw21_GraphFeeds.f (k + 1) a0 a1) := by
 intro a0 a1 k
 have ih0 := dynamolaw21_GraphFeeds.mono_l k
 unfold dynamolaw21_GraphFeeds.f
 repeat' first
   | (with_reducible exact ih0 _ _ _ _ _ _)
   | (with_reducible exact dynamolaw21_first.mono _)
   | (with_reducible exact dynamoref15_Feeds.mono _ _ _)
   | (with_reducible exact graph_Feeds.mono _ _ _)
   | (with_reducible exact graph_Reach.mono _ _ _)
   | (with_reducible exact LeO.refl _)
   | (with_reducible exact LeO.none _)
   | (with_reducible refine LeO.ite ?_ ?_)
   | (with_reducible refine LeO.bind ?_ (fun _ => ?_))
   | exact ih0 _ _ _ _ _ _
   | exact dynamolaw21_first.mono _
   | exact dynamoref15_Feeds.mono _ _ _
   | exact graph_Feeds.mono _ _ _
   | exact graph_Reach.mono _ _ _
   | exact LeO.none _
   | refine LeO.ite ?_ ?_
   | refine LeO.bind ?_ (fun _ => ?_)
set_option maxHeartbeats 8000000 in
set_option maxRecDepth 100000 in
theorem dynamolaw21_GraphFeeds.calls (k : Nat) (a0 : Int) (a1 : Int) (w : World) (hG : GLaid w) (h : dynamolaw21_GraphFeeds.f k a0 a1 = some true) :
  Calls Tryd.prog 3 #[.int .i64 a0, .int .i64 a1] w fun e w' => e = .returned (.bool true) ∧ Drawn0 w w' := by
 have HG := Aside0.mk hG
 clear hG
 have H : ((dynamolaw21_first.f k).bind fun t119 => (if t119 = true then ((dynamoworld_Number.f a0 128).bind fun t120 => ((dynamoworld_Number.f a1 3).bind fun t121 => ((graph_Feeds.f k t120 (wrap64 (4 + t121))).bind fun t122 => (dynamolaw21_GraphFeeds.l0 k t120 (wrap64 (4 + t121)) t119 t122 0 0)))) else (some false))) = some true := h
 clear h
 replace H := Option.bind_eq_some_iff.mp H
 obtain ⟨t119, A30, H⟩ := H
 replace H : (if t119 = true then ((dynamoworld_Number.f a0 128).bind fun t120 => ((dynamoworld_Number.f a1 3).bind fun t121 => ((graph_Feeds.f k t120 (wrap64 (4 + t121))).bind fun t122 => (dynamolaw21_GraphFeeds.l0 k t120 (wrap64 (4 + t121)) t119 t122 0 0)))) else (some false)) = some true := H
 have A3 := Aside0.mk A30
 clear A30
 by_cases c4 : t119 = true
 ·subst c4
  have H1 : ((dynamoworld_Number.f a0 128).bind fun t120 => ((dynamoworld_Number.f a1 3).bind fun t121 => ((graph_Feeds.f k t120 (wrap64 (4 + t121))).bind fun t122 => (dynamolaw21_GraphFeeds.l0 k t120 (wrap64 (4 + t121)) true t122 0 0)))) = some true := by first | (rw [if_pos rfl] at H; exact H) | exact H | rfl
  clear H
  have H := H1
  clear H1
  replace H := Option.bind_eq_some_iff.mp H
  obtain ⟨t120, A50, H⟩ := H
  replace H : ((dynamoworld_Number.f a1 3).bind fun t121 => ((graph_Feeds.f k t120 (wrap64 (4 + t121))).bind fun t122 => (dynamolaw21_GraphFeeds.l0 k t120 (wrap64 (4 + t121)) true t122 0 0))) = some true := H
  have A5 := Aside0.mk A50
  clear A50
  replace H := Option.bind_eq_some_iff.mp H
  obtain ⟨t121, A60, H⟩ := H
  replace H : ((graph_Feeds.f k t120 (wrap64 (4 + t121))).bind fun t122 => (dynamolaw21_GraphFeeds.l0 k t120 (wrap64 (4 + t121)) true t122 0 0)) = some true := H
  have A6 := Aside0.mk A60
  clear A60
  replace H := Option.bind_eq_some_iff.mp H
  obtain ⟨t122, A70, H⟩ := H
  replace H : (dynamolaw21_GraphFeeds.l0 k t120 (wrap64 (4 + t121)) true t122 0 0) = some true := H
  have A7 := Aside0.mk A70
  clear A70
  have H' := Aside0.mk H
  clear H
  go_enter Tryd.func3, Tryd.ntmps3
  go_wp2_with (first | ((with_reducible refine gate_callee (f := 12) rfl ?_); refine goesL_ (some 9) rfl rfl Tryd.func12 (by kernel_rfl) rfl #[] rfl (by (try simp only [List.map_toArray, List.map_cons, List.map_nil]); first | done | rfl | (simp only [List.length_drop, List.length_take]; rfl)) ?_; (with_reducible refine (dynamolaw21_first.calls k  true _ (by first | exact HG.out | (repeat (first | exact HG.out | apply GLaid.drewN | apply GLaid.drew))) A3.out).mono ?_); rintro e w' ⟨rfl, ⟨nd, rfl⟩⟩; refine ⟨_, rfl, ?_⟩) | ((with_reducible refine gate_callee (f := 13) rfl ?_); refine goesL_ (some 13) rfl rfl Tryd.func13 (by kernel_rfl) rfl #[.int .i64 a0, .int .i64 128] rfl (by (try simp only [List.map_toArray, List.map_cons, List.map_nil]); first | done | rfl | (simp only [List.length_drop, List.length_take]; rfl)) ?_; (with_reducible refine (dynamoworld_Number.calls a0 128 t120 _ A5.out).mono ?_); rintro e w' ⟨rfl, ⟨nd, rfl⟩⟩; refine ⟨_, rfl, ?_⟩) | ((with_reducible refine gate_callee (f := 13) rfl ?_); refine goesL_ (some 15) rfl rfl Tryd.func13 (by kernel_rfl) rfl #[.int .i64 a1, .int .i64 3] rfl (by (try simp only [List.map_toArray, List.map_cons, List.map_nil]); first | done | rfl | (simp only [List.length_drop, List.length_take]; rfl)) ?_; (with_reducible refine (dynamoworld_Number.calls a1 3 t121 _ A6.out).mono ?_); rintro e w' ⟨rfl, ⟨nd, rfl⟩⟩; refine ⟨_, rfl, ?_⟩) | ((with_reducible refine gate_callee (f := 14) rfl ?_); refine goesL_ (some 19) rfl rfl Tryd.func14 (by kernel_rfl) rfl #[.int .i64 t120, .int .i64 (wrap64 (4 + t121))] rfl (by (try simp only [List.map_toArray, List.map_cons, List.map_nil]); first | done | rfl | (simp only [List.length_drop, List.length_take]; rfl)) ?_; (with_reducible refine (graph_Feeds.calls k t120 (wrap64 (4 + t121)) t122 _ (by first | exact HG.out | (repeat (first | exact HG.out | apply GLaid.drewN | apply GLaid.drew))) A7.out).mono ?_); rintro e w' ⟨rfl, ⟨nd, rfl⟩⟩; refine ⟨_, rfl, ?_⟩))
  go_loopg [7, 8] k (fun kq v7 v8 w' => ∃ (x7_1 : Int) (x8_1 : Int), v7 = .int .i64 x7_1 ∧ v8 = .int .i64 x8_1 ∧ Aside0 (dynamolaw21_GraphFeeds.l0 kq t120 (wrap64 (4 + t121)) true t122 x7_1 x8_1 = some true) ∧ Aside0 (kq ≤ k) ∧ Drawn0 w w')
  case atStart => exact ⟨(0), (0), (by first | rfl | (simp; done) | (simp [*]; done)), (by first | rfl | (simp; done) | (simp [*]; done)), H', ⟨Nat.le_refl _⟩, by repeat (first | exact Drawn0.refl _ | apply Drawn0.step)⟩
  case round =>
   clear H'
   try clear c1
   try clear p2
   try clear c3
   try clear c4
   try clear p6
   obtain ⟨x7_1, x8_1, rfl, rfl, HA, HK1, ⟨m1, rfl⟩⟩ := hrel
   cases gk with
   | zero => exact absurd HA.out (by simp [dynamolaw21_GraphFeeds.l0])
   | succ k1 =>
    have H := HA.out
    clear HA
    simp only [dynamolaw21_GraphFeeds.l0] at H
    by_cases c8 : x8_1 < 4
    ·rw [if_pos c8] at H
     have c8b0 : decide (x8_1 < 4) = true := decide_eq_true c8
     clear c8
     replace H := Option.bind_eq_some_iff.mp H
     obtain ⟨t123, A90, H⟩ := H
     replace H : (if 0 ≤ (IntKind.u64.wrap (x8_1)) then (if (Go.bits .and .i64 (shr .i64 t123 (IntKind.u64.wrap (x8_1))) 1) = 1 then (dynamolaw21_GraphFeeds.l0 k1 t120 (wrap64 (4 + t121)) true t122 (wrap64 (x7_1 + 1)) (wrap64 (x8_1 + 1))) else (dynamolaw21_GraphFeeds.l0 k1 t120 (wrap64 (4 + t121)) true t122 x7_1 (wrap64 (x8_1 + 1)))) else (none)) = some true := H
     have A9 := Aside0.mk A90
     clear A90
     obtain ⟨ji10, hji10⟩ : ∃ j_ : Int, (IntKind.u64.wrap (x8_1)) = j_ := ⟨_, rfl⟩
     replace H : (if 0 ≤ (ji10) then (if (Go.bits .and .i64 (shr .i64 t123 (ji10)) 1) = 1 then (dynamolaw21_GraphFeeds.l0 k1 t120 (wrap64 (4 + t121)) true t122 (wrap64 (x7_1 + 1)) (wrap64 (x8_1 + 1))) else (dynamolaw21_GraphFeeds.l0 k1 t120 (wrap64 (4 + t121)) true t122 x7_1 (wrap64 (x8_1 + 1)))) else (none)) = some true := by first | (rw [hji10] at H; exact H) | (simp only [hji10] at H ⊢; exact H)
     (try rw [hji10] at A9)
     by_cases c11 : 0 ≤ (ji10)
     ·rw [if_pos c11] at H
      have c11b0 := eq_true c11
      have c11b1 : decide (0 ≤ (ji10)) = true := decide_eq_true c11
      clear c11
      obtain ⟨ji12, hji12⟩ : ∃ j_ : Int, (shr .i64 t123 (ji10)) = j_ := ⟨_, rfl⟩
      replace H : (if (Go.bits .and .i64 (ji12) 1) = 1 then (dynamolaw21_GraphFeeds.l0 k1 t120 (wrap64 (4 + t121)) true t122 (wrap64 (x7_1 + 1)) (wrap64 (x8_1 + 1))) else (dynamolaw21_GraphFeeds.l0 k1 t120 (wrap64 (4 + t121)) true t122 x7_1 (wrap64 (x8_1 + 1)))) = some true := by first | (rw [hji12] at H; exact H) | (simp only [hji12] at H ⊢; exact H)
      (try rw [hji12] at A9)
      have hji12_ : (t123 / 2 ^ min (ji10).toNat 64) = ji12 := hji12
      have hji12z : (ji10) ≤ 64 → (t123 / 2 ^ (ji10).toNat) = ji12 := shr_small hji12
      by_cases c13 : (Go.bits .and .i64 (ji12) 1) = 1
      ·rw [if_pos c13] at H
       have c13b0 : ((Go.bits .and .i64 (ji12) 1) == 1) = true := beq_iff_eq.mpr c13
       have c13b1 : ((Go.bits .and .i64 (ji12) 1) != 1) = false := bne_eq_false_iff_eq.mpr c13
       clear c13
       have H' := Aside0.mk H
       clear H
       go_wp2_with (first | ((with_reducible refine gate_callee (f := 15) rfl ?_); refine goesL_ (some 26) rfl rfl Tryd.func15 (by kernel_rfl) rfl #[.int .i64 t120, .int .i64 (wrap64 (4 + t121))] rfl (by (try simp only [List.map_toArray, List.map_cons, List.map_nil]); first | done | rfl | (simp only [List.length_drop, List.length_take]; rfl)) ?_; (with_reducible refine (graph_Reach.calls k1 t120 (wrap64 (4 + t121)) t123 _ A9.out).mono ?_); rintro e w' ⟨rfl, ⟨nd, rfl⟩⟩; refine ⟨_, rfl, ?_⟩))
       go_roundg k1
       case measure => have := HK1.out; omega
       case rel => exact ⟨(wrap64 (x7_1 + 1)), (wrap64 (x8_1 + 1)), (by first | rfl | (simp; done) | (simp [*]; done)), (by first | rfl | (simp; done) | (simp [*]; done)), H', ⟨by have := HK1.out; omega⟩, by repeat (first | exact Drawn0.refl _ | apply Drawn0.step)⟩
      ·rw [if_neg c13] at H
       have c13b0 : ((Go.bits .and .i64 (ji12) 1) == 1) = false := beq_eq_false_iff_ne.mpr c13
       have c13b1 : ((Go.bits .and .i64 (ji12) 1) != 1) = true := bne_iff_ne.mpr c13
       have H' := Aside0.mk H
       clear H
       go_wp2_with (first | ((with_reducible refine gate_callee (f := 15) rfl ?_); refine goesL_ (some 26) rfl rfl Tryd.func15 (by kernel_rfl) rfl #[.int .i64 t120, .int .i64 (wrap64 (4 + t121))] rfl (by (try simp only [List.map_toArray, List.map_cons, List.map_nil]); first | done | rfl | (simp only [List.length_drop, List.length_take]; rfl)) ?_; (with_reducible refine (graph_Reach.calls k1 t120 (wrap64 (4 + t121)) t123 _ A9.out).mono ?_); rintro e w' ⟨rfl, ⟨nd, rfl⟩⟩; refine ⟨_, rfl, ?_⟩))
       go_roundg k1
       case measure => have := HK1.out; omega
       case rel => exact ⟨(x7_1), (wrap64 (x8_1 + 1)), (by first | rfl | (simp; done) | (simp [*]; done)), (by first | rfl | (simp; done) | (simp [*]; done)), H', ⟨by have := HK1.out; omega⟩, by repeat (first | exact Drawn0.refl _ | apply Drawn0.step)⟩
     ·rw [if_neg c11] at H
      exact absurd H (by simp)
    ·rw [if_neg c8] at H
     have c8b0 : decide (x8_1 < 4) = false := decide_eq_false c8
     clear c8
     by_cases c14 : t122 < 0
     ·rw [if_pos c14] at H
      have c14b0 : decide (t122 < 0) = true := decide_eq_true c14
      clear c14
      have H1 : (if x7_1 = 1 then (some false) else (some (t122 == (-1)))) = some true := by first | (with_reducible exact H) | (rw [if_pos rfl] at H; exact H) | exact H | rfl
      clear H
      have H := H1
      clear H1
      by_cases c15 : x7_1 = 1
      ·rw [if_pos c15] at H
       have c15b0 : (x7_1 == 1) = true := beq_iff_eq.mpr c15
       have c15b1 : (x7_1 != 1) = false := bne_eq_false_iff_eq.mpr c15
       clear c15
       exact absurd H (by simp)
      ·rw [if_neg c15] at H
       have c15b0 : (x7_1 == 1) = false := beq_eq_false_iff_ne.mpr c15
       have c15b1 : (x7_1 != 1) = true := bne_iff_ne.mpr c15
       have HLAST := Aside0.mk (Option.some.inj H)
       clear H
       go_wp2
       all_goals (try go_ret)
       all_goals first | (exfalso; simp_all; done) | exact ⟨by first | rfl | (rw [HLAST.out]; done) | (simp [HLAST.out]; done) | (have HL_ := HLAST.out; simp_all; done) | (simp; done) | (simp [*]; done), by repeat (first | exact Drawn0.refl _ | apply Drawn0.step)⟩
     ·rw [if_neg c14] at H
      have c14b0 : decide (t122 < 0) = false := decide_eq_false c14
      clear c14
      have H1 : (if x7_1 = 1 then (if t122 < 4 then ((graph_Reach.f k1 t120 t122).bind fun t124 => (if 0 ≤ (IntKind.u64.wrap ((wrap64 (4 + t121)))) then (if (Go.bits .and .i64 (shr .i64 t124 (IntKind.u64.wrap ((wrap64 (4 + t121))))) 1) = 1 then ((graph_Feeds.f k1 t120 0).bind fun t125 => (if t125 = (-1) then ((graph_Feeds.f k1 t120 7).bind fun t126 => (if t126 = (-1) then ((dynamoref15_Feeds.f k1 t120 (wrap64 (4 + t121))).bind fun t127 => (some (t127 == t122))) else (some false))) else (some false))) else (some false)) else (none))) else (some false)) else (some false)) = some true := by first | (with_reducible exact H) | (rw [if_pos rfl] at H; exact H) | exact H | rfl
      clear H
      have H := H1
      clear H1
      by_cases c16 : x7_1 = 1
      ·rw [if_pos c16] at H
       have c16b0 : (x7_1 == 1) = true := beq_iff_eq.mpr c16
       have c16b1 : (x7_1 != 1) = false := bne_eq_false_iff_eq.mpr c16
       clear c16
       by_cases c17 : t122 < 4
       ·rw [if_pos c17] at H
        have c17b0 : decide (t122 < 4) = true := decide_eq_true c17
        clear c17
        replace H := Option.bind_eq_some_iff.mp H
        obtain ⟨t124, A180, H⟩ := H
        replace H : (if 0 ≤ (IntKind.u64.wrap ((wrap64 (4 + t121)))) then (if (Go.bits .and .i64 (shr .i64 t124 (IntKind.u64.wrap ((wrap64 (4 + t121))))) 1) = 1 then ((graph_Feeds.f k1 t120 0).bind fun t125 => (if t125 = (-1) then ((graph_Feeds.f k1 t120 7).bind fun t126 => (if t126 = (-1) then ((dynamoref15_Feeds.f k1 t120 (wrap64 (4 + t121))).bind fun t127 => (some (t127 == t122))) else (some false))) else (some false))) else (some false)) else (none)) = some true := H
        have A18 := Aside0.mk A180
        clear A180
        obtain ⟨ji19, hji19⟩ : ∃ j_ : Int, (IntKind.u64.wrap ((wrap64 (4 + t121)))) = j_ := ⟨_, rfl⟩
        replace H : (if 0 ≤ (ji19) then (if (Go.bits .and .i64 (shr .i64 t124 (ji19)) 1) = 1 then ((graph_Feeds.f k1 t120 0).bind fun t125 => (if t125 = (-1) then ((graph_Feeds.f k1 t120 7).bind fun t126 => (if t126 = (-1) then ((dynamoref15_Feeds.f k1 t120 (wrap64 (4 + t121))).bind fun t127 => (some (t127 == t122))) else (some false))) else (some false))) else (some false)) else (none)) = some true := by first | (rw [hji19] at H; exact H) | (simp only [hji19] at H ⊢; exact H)
        (try rw [hji19] at A18)
        by_cases c20 : 0 ≤ (ji19)
        ·rw [if_pos c20] at H
         have c20b0 := eq_true c20
         have c20b1 : decide (0 ≤ (ji19)) = true := decide_eq_true c20
         clear c20
         obtain ⟨ji21, hji21⟩ : ∃ j_ : Int, (shr .i64 t124 (ji19)) = j_ := ⟨_, rfl⟩
         replace H : (if (Go.bits .and .i64 (ji21) 1) = 1 then ((graph_Feeds.f k1 t120 0).bind fun t125 => (if t125 = (-1) then ((graph_Feeds.f k1 t120 7).bind fun t126 => (if t126 = (-1) then ((dynamoref15_Feeds.f k1 t120 (wrap64 (4 + t121))).bind fun t127 => (some (t127 == t122))) else (some false))) else (some false))) else (some false)) = some true := by first | (rw [hji21] at H; exact H) | (simp only [hji21] at H ⊢; exact H)
         (try rw [hji21] at A18)
         have hji21_ : (t124 / 2 ^ min (ji19).toNat 64) = ji21 := hji21
         have hji21z : (ji19) ≤ 64 → (t124 / 2 ^ (ji19).toNat) = ji21 := shr_small hji21
         by_cases c22 : (Go.bits .and .i64 (ji21) 1) = 1
         ·rw [if_pos c22] at H
          have c22b0 : ((Go.bits .and .i64 (ji21) 1) == 1) = true := beq_iff_eq.mpr c22
          have c22b1 : ((Go.bits .and .i64 (ji21) 1) != 1) = false := bne_eq_false_iff_eq.mpr c22
          clear c22
          replace H := Option.bind_eq_some_iff.mp H
          obtain ⟨t125, A230, H⟩ := H
          replace H : (if t125 = (-1) then ((graph_Feeds.f k1 t120 7).bind fun t126 => (if t126 = (-1) then ((dynamoref15_Feeds.f k1 t120 (wrap64 (4 + t121))).bind fun t127 => (some (t127 == t122))) else (some false))) else (some false)) = some true := H
          have A23 := Aside0.mk A230
          clear A230
          by_cases c24 : t125 = (-1)
          ·rw [if_pos c24] at H
           have c24b0 : (t125 == (-1)) = true := beq_iff_eq.mpr c24
           have c24b1 : (t125 != (-1)) = false := bne_eq_false_iff_eq.mpr c24
           clear c24
           replace H := Option.bind_eq_some_iff.mp H
           obtain ⟨t126, A250, H⟩ := H
           replace H : (if t126 = (-1) then ((dynamoref15_Feeds.f k1 t120 (wrap64 (4 + t121))).bind fun t127 => (some (t127 == t122))) else (some false)) = some true := H
           have A25 := Aside0.mk A250
           clear A250
           by_cases c26 : t126 = (-1)
           ·rw [if_pos c26] at H
            have c26b0 : (t126 == (-1)) = true := beq_iff_eq.mpr c26
            have c26b1 : (t126 != (-1)) = false := bne_eq_false_iff_eq.mpr c26
            clear c26
            replace H := Option.bind_eq_some_iff.mp H
            obtain ⟨t127, A270, H⟩ := H
            replace H : (some (t127 == t122)) = some true := H
            have A27 := Aside0.mk A270
            clear A270
            have HLAST := Aside0.mk (Option.some.inj H)
            clear H
            go_wp2_with (first | (go_at_call 15; (with_reducible refine (graph_Reach.calls k1 t120 t122 t124 _ A18.out).mono ?_); rintro e w' ⟨rfl, ⟨nd, rfl⟩⟩) | (go_at_call 14; (with_reducible refine (graph_Feeds.calls k1 t120 0 t125 _ (by first | exact HG.out | (repeat (first | exact HG.out | apply GLaid.drewN | apply GLaid.drew))) A23.out).mono ?_); rintro e w' ⟨rfl, ⟨nd, rfl⟩⟩) | (go_at_call 14; (with_reducible refine (graph_Feeds.calls k1 t120 7 t126 _ (by first | exact HG.out | (repeat (first | exact HG.out | apply GLaid.drewN | apply GLaid.drew))) A25.out).mono ?_); rintro e w' ⟨rfl, ⟨nd, rfl⟩⟩) | (go_at_call 16; (with_reducible refine (dynamoref15_Feeds.calls k1 t120 (wrap64 (4 + t121)) t127 _ A27.out).mono ?_); rintro e w' ⟨rfl, ⟨nd, rfl⟩⟩))
            all_goals (try go_ret)
            all_goals first | (exfalso; simp_all; done) | exact ⟨by first | rfl | (rw [HLAST.out]; done) | (simp [HLAST.out]; done) | (have HL_ := HLAST.out; simp_all; done) | (simp; done) | (simp only [← hji19, ← hji21] <;> (first | rfl | simp)) | (simp [*]; done), by repeat (first | exact Drawn0.refl _ | apply Drawn0.step)⟩
           ·rw [if_neg c26] at H
            have c26b0 : (t126 == (-1)) = false := beq_eq_false_iff_ne.mpr c26
            have c26b1 : (t126 != (-1)) = true := bne_iff_ne.mpr c26
            exact absurd H (by simp)
          ·rw [if_neg c24] at H
           have c24b0 : (t125 == (-1)) = false := beq_eq_false_iff_ne.mpr c24
           have c24b1 : (t125 != (-1)) = true := bne_iff_ne.mpr c24
           exact absurd H (by simp)
         ·rw [if_neg c22] at H
          have c22b0 : ((Go.bits .and .i64 (ji21) 1) == 1) = false := beq_eq_false_iff_ne.mpr c22
          have c22b1 : ((Go.bits .and .i64 (ji21) 1) != 1) = true := bne_iff_ne.mpr c22
          exact absurd H (by simp)
        ·rw [if_neg c20] at H
         exact absurd H (by simp)
       ·rw [if_neg c17] at H
        have c17b0 : decide (t122 < 4) = false := decide_eq_false c17
        clear c17
        exact absurd H (by simp)
      ·rw [if_neg c16] at H
       have c16b0 : (x7_1 == 1) = false := beq_eq_false_iff_ne.mpr c16
       have c16b1 : (x7_1 != 1) = true := bne_iff_ne.mpr c16
       exact absurd H (by simp)
 ·replace c4 := Bool.eq_false_iff.mpr c4
  subst c4
  have H1 : (some false) = some true := by first | (rw [if_neg (show ¬ (false = true) by decide)] at H; exact H) | exact H | rfl
  clear H
  have H := H1
  clear H1
  exact absurd H (by simp)

/-- THE ONE PURE STATEMENT of dynamolaw21_GraphFeeds: yours. -/
def dynamolaw21_GraphFeeds.Pure : Prop := ∀ (a0 : Int) (a1 : Int), (Lit.int .i64 a0).wf = true → (Lit.int .i64 a1).wf = true → ∃ k, dynamolaw21_GraphFeeds.f k a0 a1 = some true
theorem dynamolaw21_GraphFeeds.walk (P : dynamolaw21_GraphFeeds.Pure) (a0 : Int) (a1 : Int) (w : World) (hG : GLaid w) (w0 : (Lit.int .i64 a0).wf = true) (w1 : (Lit.int .i64 a1).wf = true) :
  Calls Tryd.prog 3 #[.int .i64 a0, .int .i64 a1] w fun e w' => e = .returned (.bool true) ∧ Below w.heap.size w w' := by
 obtain ⟨k, h⟩ := P a0 a1 w0 w1
 refine (dynamolaw21_GraphFeeds.calls k a0 a1 w hG h).mono ?_
 rintro e w' ⟨rfl, hd⟩
 exact ⟨rfl, hd.below⟩

end Go.Proofs.YtjmggdccmggboabDoor.PGraphFeeds
