-- written by this work with wip/mkprint2.py
import Derived.Test.YtjmggdccmggboabDoorPGraphSaysx0
import Derived.Test.YtjmggdccmggboabDoorPGraphSaysx1
import Derived.Test.YtjmggdccmggboabDoorPGraphSaysx2
namespace Go.Proofs.YtjmggdccmggboabDoor.PGraphSays
open Go.RowKit Go.Proofs.YtjmggdccmggboabDoorW.PrintWords Go.Proofs.YtjmggdccmggboabDoorW.PrintLast Go.Proofs.YtjmggdccmggboabDoorW.PrintMore
attribute [local go_sem] max2_int min2_int max_two min_two max_three min_three max_four min_four   -- for this text's walks alone
set_option linter.unusedVariables false
set_option linter.unusedSimpArgs false
open Go.Proofs.YtjmggdccmggboabDoor.Tz

/-! ### dynamoref15_Parts: function 23 -/
def dynamoref15_Parts.l0 : Nat → Int → Int → Int → Option (Int)
 | 0, _, _, _ => none
 | k + 1, x0, x3, x4 => if x4 < 7 then ((dynamoref15_Reach.f k x0 x4).bind fun t123 => (if 0 ≤ (IntKind.u64.wrap (x4)) then (if (Go.bits .and .i64 t123 (wrap64 ((shl .i64 1 (IntKind.u64.wrap (x4))) - 1))) = 0 then (dynamoref15_Parts.l0 k x0 (wrap64 (x3 + 1)) (wrap64 (x4 + 1))) else (dynamoref15_Parts.l0 k x0 x3 (wrap64 (x4 + 1)))) else (none))) else (some x3)
def dynamoref15_Parts.f (k : Nat) (a0 : Int) : Option (Int) := dynamoref15_Parts.l0 k a0 0 0
theorem dynamoref15_Parts.mono_l : ∀ k, (∀ y0 y1 y2, LeO (dynamoref15_Parts.l0 k y0 y1 y2) (dynamoref15_Parts.l0 (k + 1) y0 y1 y2))
 | 0 => fun _ _ _ r h => by simp [dynamoref15_Parts.l0] at h
 | k + 1 => by
  have ih0 := dynamoref15_Parts.mono_l k
  ·intro y0 y1 y2
   unfold dynamoref15_Parts.l0
   repeat' first
   | (with_reducible exact ih0 _ _ _)
   | (with_reducible exact dynamoref15_Reach.mono _ _ _)
   | (with_reducible exact LeO.refl _)
   | (with_reducible exact LeO.none _)
   | (with_reducible refine LeO.ite ?_ ?_)
   | (with_reducible refine LeO.bind ?_ (fun _ => ?_))
   | exact ih0 _ _ _
   | exact dynamoref15_Reach.mono _ _ _
   | exact LeO.none _
   | refine LeO.ite ?_ ?_
   | refine LeO.bind ?_ (fun _ => ?_)
theorem dynamoref15_Parts.mono : ∀ a0 k, LeO (dynamoref15_Parts.f k a0) (dynamoref15_Parts.f (k + 1) a0) := by
 intro a0 k
 have ih0 := dynamoref15_Parts.mono_l k
 unfold dynamoref15_Parts.f
 repeat' first
   | (with_reducible exact ih0 _ _ _)
   | (with_reducible exact dynamoref15_Reach.mono _ _ _)
   | (with_reducible exact LeO.refl _)
   | (with_reducible exact LeO.none _)
   | (with_reducible refine LeO.ite ?_ ?_)
   | (with_reducible refine LeO.bind ?_ (fun _ => ?_))
   | exact ih0 _ _ _
   | exact dynamoref15_Reach.mono _ _ _
   | exact LeO.none _
   | refine LeO.ite ?_ ?_
   | refine LeO.bind ?_ (fun _ => ?_)
set_option maxHeartbeats 8000000 in
set_option maxRecDepth 100000 in
theorem dynamoref15_Parts.calls (k : Nat) (a0 : Int) (r : Int) (w : World) (h : dynamoref15_Parts.f k a0 = some r) :
  Calls Tryd.prog 23 #[.int .i64 a0] w fun e w' => e = .returned (.int .i64 r) ∧ Drawn0 w w' := by
 have H : (dynamoref15_Parts.l0 k a0 0 0) = some r := h
 clear h
 have H' := Aside0.mk H
 clear H
 go_enter Tryd.func23, Tryd.ntmps23
 go_wp2
 go_loopg [3, 4] k (fun kq v3 v4 w' => ∃ (x3_1 : Int) (x4_1 : Int), v3 = .int .i64 x3_1 ∧ v4 = .int .i64 x4_1 ∧ Aside0 (dynamoref15_Parts.l0 kq a0 x3_1 x4_1 = some r) ∧ Aside0 (kq ≤ k) ∧ Drawn0 w w')
 case atStart => exact ⟨(0), (0), (by first | rfl | (simp; done) | (simp [*]; done)), (by first | rfl | (simp; done) | (simp [*]; done)), H', ⟨Nat.le_refl _⟩, by repeat (first | exact Drawn0.refl _ | apply Drawn0.step)⟩
 case round =>
  clear H'
  obtain ⟨x3_1, x4_1, rfl, rfl, HA, HK1, ⟨m1, rfl⟩⟩ := hrel
  cases gk with
  | zero => exact absurd HA.out (by simp [dynamoref15_Parts.l0])
  | succ k1 =>
   have H := HA.out
   clear HA
   simp only [dynamoref15_Parts.l0] at H
   by_cases c2 : x4_1 < 7
   ·rw [if_pos c2] at H
    have c2b0 : decide (x4_1 < 7) = true := decide_eq_true c2
    clear c2
    replace H := Option.bind_eq_some_iff.mp H
    obtain ⟨t123, A30, H⟩ := H
    replace H : (if 0 ≤ (IntKind.u64.wrap (x4_1)) then (if (Go.bits .and .i64 t123 (wrap64 ((shl .i64 1 (IntKind.u64.wrap (x4_1))) - 1))) = 0 then (dynamoref15_Parts.l0 k1 a0 (wrap64 (x3_1 + 1)) (wrap64 (x4_1 + 1))) else (dynamoref15_Parts.l0 k1 a0 x3_1 (wrap64 (x4_1 + 1)))) else (none)) = some r := H
    have A3 := Aside0.mk A30
    clear A30
    obtain ⟨ji4, hji4⟩ : ∃ j_ : Int, (IntKind.u64.wrap (x4_1)) = j_ := ⟨_, rfl⟩
    replace H : (if 0 ≤ (ji4) then (if (Go.bits .and .i64 t123 (wrap64 ((shl .i64 1 (ji4)) - 1))) = 0 then (dynamoref15_Parts.l0 k1 a0 (wrap64 (x3_1 + 1)) (wrap64 (x4_1 + 1))) else (dynamoref15_Parts.l0 k1 a0 x3_1 (wrap64 (x4_1 + 1)))) else (none)) = some r := by first | (rw [hji4] at H; exact H) | (simp only [hji4] at H ⊢; exact H)
    (try rw [hji4] at A3)
    by_cases c5 : 0 ≤ (ji4)
    ·rw [if_pos c5] at H
     have c5b0 := eq_true c5
     have c5b1 : decide (0 ≤ (ji4)) = true := decide_eq_true c5
     clear c5
     obtain ⟨ji6, hji6⟩ : ∃ j_ : Int, (shl .i64 1 (ji4)) = j_ := ⟨_, rfl⟩
     replace H : (if (Go.bits .and .i64 t123 (wrap64 ((ji6) - 1))) = 0 then (dynamoref15_Parts.l0 k1 a0 (wrap64 (x3_1 + 1)) (wrap64 (x4_1 + 1))) else (dynamoref15_Parts.l0 k1 a0 x3_1 (wrap64 (x4_1 + 1)))) = some r := by first | (rw [hji6] at H; exact H) | (simp only [hji6] at H ⊢; exact H)
     (try rw [hji6] at A3)
     have hji6_ : (IntKind.i64.wrap (1 * 2 ^ min (ji4).toNat 64)) = ji6 := hji6
     have hji6z : (ji4) ≤ 64 → (IntKind.i64.wrap (1 * 2 ^ (ji4).toNat)) = ji6 := shl_small hji6
     have hji6u : (IntKind.i64.wrap (2 ^ min (ji4).toNat 64)) = ji6 := by have h_ := hji6_; rw [Int.one_mul] at h_; exact h_
     have hji6v : (ji4) ≤ 64 → (IntKind.i64.wrap (2 ^ (ji4).toNat)) = ji6 := fun hle_ => by have h_ := hji6z hle_; rw [Int.one_mul] at h_; exact h_
     have hji6y : (wrap64 (1 * 2 ^ min (ji4).toNat 64)) = ji6 := (i64_w _).symm.trans hji6_
     have hji6x : (ji4) ≤ 64 → (wrap64 (1 * 2 ^ (ji4).toNat)) = ji6 := fun h_ => (i64_w _).symm.trans (hji6z h_)
     by_cases c7 : (Go.bits .and .i64 t123 (wrap64 ((ji6) - 1))) = 0
     ·rw [if_pos c7] at H
      have c7b0 : ((Go.bits .and .i64 t123 (wrap64 ((ji6) - 1))) == 0) = true := beq_iff_eq.mpr c7
      have c7b1 : ((Go.bits .and .i64 t123 (wrap64 ((ji6) - 1))) != 0) = false := bne_eq_false_iff_eq.mpr c7
      clear c7
      have H' := Aside0.mk H
      clear H
      go_wp2_with (first | ((with_reducible refine gate_callee (f := 19) rfl ?_); refine goesL_ (some 12) rfl rfl Tryd.func19 (by kernel_rfl) rfl #[.int .i64 a0, .int .i64 x4_1] rfl (by (try simp only [List.map_toArray, List.map_cons, List.map_nil]); first | done | rfl | (simp only [List.length_drop, List.length_take]; rfl)) ?_; (with_reducible refine (dynamoref15_Reach.calls k1 a0 x4_1 t123 _ A3.out).mono ?_); rintro e w' ⟨rfl, ⟨nd, rfl⟩⟩; refine ⟨_, rfl, ?_⟩))
      go_roundg k1
      case measure => have := HK1.out; omega
      case rel => exact ⟨(wrap64 (x3_1 + 1)), (wrap64 (x4_1 + 1)), (by first | rfl | (simp; done) | (simp [*]; done)), (by first | rfl | (simp; done) | (simp [*]; done)), H', ⟨by have := HK1.out; omega⟩, by repeat (first | exact Drawn0.refl _ | apply Drawn0.step)⟩
     ·rw [if_neg c7] at H
      have c7b0 : ((Go.bits .and .i64 t123 (wrap64 ((ji6) - 1))) == 0) = false := beq_eq_false_iff_ne.mpr c7
      have c7b1 : ((Go.bits .and .i64 t123 (wrap64 ((ji6) - 1))) != 0) = true := bne_iff_ne.mpr c7
      have H' := Aside0.mk H
      clear H
      go_wp2_with (first | ((with_reducible refine gate_callee (f := 19) rfl ?_); refine goesL_ (some 12) rfl rfl Tryd.func19 (by kernel_rfl) rfl #[.int .i64 a0, .int .i64 x4_1] rfl (by (try simp only [List.map_toArray, List.map_cons, List.map_nil]); first | done | rfl | (simp only [List.length_drop, List.length_take]; rfl)) ?_; (with_reducible refine (dynamoref15_Reach.calls k1 a0 x4_1 t123 _ A3.out).mono ?_); rintro e w' ⟨rfl, ⟨nd, rfl⟩⟩; refine ⟨_, rfl, ?_⟩))
      go_roundg k1
      case measure => have := HK1.out; omega
      case rel => exact ⟨(x3_1), (wrap64 (x4_1 + 1)), (by first | rfl | (simp; done) | (simp [*]; done)), (by first | rfl | (simp; done) | (simp [*]; done)), H', ⟨by have := HK1.out; omega⟩, by repeat (first | exact Drawn0.refl _ | apply Drawn0.step)⟩
    ·rw [if_neg c5] at H
     exact absurd H (by simp)
   ·rw [if_neg c2] at H
    have c2b0 : decide (x4_1 < 7) = false := decide_eq_false c2
    clear c2
    obtain rfl := Option.some.inj H
    go_wp2
    go_ret
    exact ⟨by first | rfl | (rw [HLAST.out]; done) | (simp [HLAST.out]; done) | (have HL_ := HLAST.out; simp_all; done) | (simp; done) | (simp [*]; done), by repeat (first | exact Drawn0.refl _ | apply Drawn0.step)⟩

/-! ### dynamolaw21_GraphSays: function 4 -/
def dynamolaw21_GraphSays.l0 : Nat → Int → Int → Bool → Int → Int → Int → Int → Int → Option (Bool)
 | 0, _, _, _, _, _, _, _, _ => none
 | k + 1, x0, x1, x7, x8, x9, x10, x11, x12 => if x12 < 128 then ((graph_Reach.f k (Go.bits .xor .i64 x0 x12) x1).bind fun t129 => ((dynamoref15_Reach.f k (Go.bits .xor .i64 x0 x12) x1).bind fun t130 => (if t129 = t130 then ((graph_Joined.f k (Go.bits .xor .i64 x0 x12)).bind fun t131 => ((dynamoref15_Joined.f k (Go.bits .xor .i64 x0 x12)).bind fun t132 => (if (t131 != t132) = true then (some false) else ((graph_Feeds.f k (Go.bits .xor .i64 x0 x12) x1).bind fun t133 => ((dynamoref15_Feeds.f k (Go.bits .xor .i64 x0 x12) x1).bind fun t134 => (if t133 = t134 then ((graph_Parts.f k (Go.bits .xor .i64 x0 x12)).bind fun t135 => ((dynamoref15_Parts.f k (Go.bits .xor .i64 x0 x12)).bind fun t136 => (if t135 = t136 then (dynamolaw21_GraphSays.l0 k x0 x1 x7 x8 x9 x10 x11 (wrap64 (x12 + 7))) else (some false)))) else (some false))))))) else (some false)))) else (if x7 = true then (if x8 = x10 then (some (x9 == x11)) else (some false)) else (some false))
def dynamolaw21_GraphSays.f (k : Nat) (a0 : Int) (a1 : Int) (a2 : Int) : Option (Bool) := (dynamolaw21_first.f k).bind fun t124 => (if t124 = true then ((graph_Ends.f a2).bind fun bt125 => ((dynamoref15_Ends.f a2).bind fun bt127 => (dynamolaw21_GraphSays.l0 k a0 a1 t124 bt125.1 bt125.2 bt127.1 bt127.2 0))) else (some false))
theorem dynamolaw21_GraphSays.mono_l : ∀ k, (∀ y0 y1 y2 y3 y4 y5 y6 y7, LeO (dynamolaw21_GraphSays.l0 k y0 y1 y2 y3 y4 y5 y6 y7) (dynamolaw21_GraphSays.l0 (k + 1) y0 y1 y2 y3 y4 y5 y6 y7))
 | 0 => fun _ _ _ _ _ _ _ _ r h => by simp [dynamolaw21_GraphSays.l0] at h
 | k + 1 => by
  have ih0 := dynamolaw21_GraphSays.mono_l k
  ·intro y0 y1 y2 y3 y4 y5 y6 y7
   unfold dynamolaw21_GraphSays.l0
   repeat' first
   | (with_reducible exact ih0 _ _ _ _ _ _ _ _)
   | (with_reducible exact dynamolaw21_first.mono _)
   | (with_reducible exact dynamoref15_Feeds.mono _ _ _)
   | (with_reducible exact dynamoref15_Joined.mono _ _)
   | (with_reducible exact dynamoref15_Parts.mono _ _)
   | (with_reducible exact dynamoref15_Reach.mono _ _ _)
   | (with_reducible exact graph_Feeds.mono _ _ _)
   | (with_reducible exact graph_Joined.mono _ _)
   | (with_reducible exact graph_Parts.mono _ _)
   | (with_reducible exact graph_Reach.mono _ _ _)
   | (with_reducible exact LeO.refl _)
   | (with_reducible exact LeO.none _)
   | (with_reducible refine LeO.ite ?_ ?_)
   | (with_reducible refine LeO.bind ?_ (fun _ => ?_))
   | exact ih0 _ _ _ _ _ _ _ _
   | exact dynamolaw21_first.mono _
   | exact dynamoref15_Feeds.mono _ _ _
   | exact dynamoref15_Joined.mono _ _
   | exact dynamoref15_Parts.mono _ _
   | exact dynamoref15_Reach.mono _ _ _
   | exact graph_Feeds.mono _ _ _
   | exact graph_Joined.mono _ _
   | exact graph_Parts.mono _ _
   | exact graph_Reach.mono _ _ _
   | exact LeO.none _
   | refine LeO.ite ?_ ?_
   | refine LeO.bind ?_ (fun _ => ?_)
theorem dynamolaw21_GraphSays.mono : ∀ a0 a1 a2 k, LeO (dynamolaw21_GraphSays.f k a0 a1 a2) (dynamolaw21_GraphSays.f (k + 1) a0 a1 a2) := by
 intro a0 a1 a2 k
 have ih0 := dynamolaw21_GraphSays.mono_l k
 unfold dynamolaw21_GraphSays.f
 repeat' first
   | (with_reducible exact ih0 _ _ _ _ _ _ _ _)
   | (with_reducible exact dynamolaw21_first.mono _)
   | (with_reducible exact dynamoref15_Feeds.mono _ _ _)
   | (with_reducible exact dynamoref15_Joined.mono _ _)
   | (with_reducible exact dynamoref15_Parts.mono _ _)
   | (with_reducible exact dynamoref15_Reach.mono _ _ _)
   | (with_reducible exact graph_Feeds.mono _ _ _)
   | (with_reducible exact graph_Joined.mono _ _)
   | (with_reducible exact graph_Parts.mono _ _)
   | (with_reducible exact graph_Reach.mono _ _ _)
   | (with_reducible exact LeO.refl _)
   | (with_reducible exact LeO.none _)
   | (with_reducible refine LeO.ite ?_ ?_)
   | (with_reducible refine LeO.bind ?_ (fun _ => ?_))
   | exact ih0 _ _ _ _ _ _ _ _
   | exact dynamolaw21_first.mono _
   | exact dynamoref15_Feeds.mono _ _ _
   | exact dynamoref15_Joined.mono _ _
   | exact dynamoref15_Parts.mono _ _
   | exact dynamoref15_Reach.mono _ _ _
   | exact graph_Feeds.mono _ _ _
   | exact graph_Joined.mono _ _
   | exact graph_Parts.mono _ _
   | exact graph_Reach.mono _ _ _
   | exact LeO.none _
   | refine LeO.ite ?_ ?_
   | refine LeO.bind ?_ (fun _ => ?_)
set_option maxHeartbeats 8000000 in
set_option maxRecDepth 100000 in
theorem dynamolaw21_GraphSays.calls (k : Nat) (a0 : Int) (a1 : Int) (a2 : Int) (w : World) (hG : GLaid w) (h : dynamolaw21_GraphSays.f k a0 a1 a2 = some true) :
  Calls Tryd.prog 4 #[.int .i64 a0, .int .i64 a1, .int .i64 a2] w fun e w' => e = .returned (.bool true) ∧ Drawn0 w w' := by
 have HG := Aside0.mk hG
 clear hG
 have H : ((dynamolaw21_first.f k).bind fun t124 => (if t124 = true then ((graph_Ends.f a2).bind fun bt125 => ((dynamoref15_Ends.f a2).bind fun bt127 => (dynamolaw21_GraphSays.l0 k a0 a1 t124 bt125.1 bt125.2 bt127.1 bt127.2 0))) else (some false))) = some true := h
 clear h
 replace H := Option.bind_eq_some_iff.mp H
 obtain ⟨t124, A40, H⟩ := H
 replace H : (if t124 = true then ((graph_Ends.f a2).bind fun bt125 => ((dynamoref15_Ends.f a2).bind fun bt127 => (dynamolaw21_GraphSays.l0 k a0 a1 t124 bt125.1 bt125.2 bt127.1 bt127.2 0))) else (some false)) = some true := H
 have A4 := Aside0.mk A40
 clear A40
 by_cases c5 : t124 = true
 ·subst c5
  have H1 : ((graph_Ends.f a2).bind fun bt125 => ((dynamoref15_Ends.f a2).bind fun bt127 => (dynamolaw21_GraphSays.l0 k a0 a1 true bt125.1 bt125.2 bt127.1 bt127.2 0))) = some true := by first | (rw [if_pos rfl] at H; exact H) | exact H | rfl
  clear H
  have H := H1
  clear H1
  replace H := Option.bind_eq_some_iff.mp H
  obtain ⟨⟨t125, t126⟩, A60, H⟩ := H
  replace H : ((dynamoref15_Ends.f a2).bind fun bt127 => (dynamolaw21_GraphSays.l0 k a0 a1 true t125 t126 bt127.1 bt127.2 0)) = some true := H
  have A6 := Aside0.mk A60
  clear A60
  replace H := Option.bind_eq_some_iff.mp H
  obtain ⟨⟨t127, t128⟩, A70, H⟩ := H
  replace H : (dynamolaw21_GraphSays.l0 k a0 a1 true t125 t126 t127 t128 0) = some true := H
  have A7 := Aside0.mk A70
  clear A70
  have H' := Aside0.mk H
  clear H
  go_enter Tryd.func4, Tryd.ntmps4
  go_wp2_with (first | ((with_reducible refine gate_callee (f := 12) rfl ?_); refine goesL_ (some 14) rfl rfl Tryd.func12 (by kernel_rfl) rfl #[] rfl (by (try simp only [List.map_toArray, List.map_cons, List.map_nil]); first | done | rfl | (simp only [List.length_drop, List.length_take]; rfl)) ?_; (with_reducible refine (dynamolaw21_first.calls k  true _ (by first | exact HG.out | (repeat (first | exact HG.out | apply GLaid.drewN | apply GLaid.drew))) A4.out).mono ?_); rintro e w' ⟨rfl, ⟨nd, rfl⟩⟩; refine ⟨_, rfl, ?_⟩) | ((with_reducible refine gate_callee (f := 17) rfl ?_); refine goesL_ (some 19) rfl rfl Tryd.func17 (by kernel_rfl) rfl #[.int .i64 a2] rfl (by (try simp only [List.map_toArray, List.map_cons, List.map_nil]); first | done | rfl | (simp only [List.length_drop, List.length_take]; rfl)) ?_; (with_reducible refine (graph_Ends.calls a2 t125 t126 _ A6.out).mono ?_); rintro e w' ⟨rfl, ⟨nd, rfl⟩⟩; refine ⟨_, rfl, ?_⟩) | ((with_reducible refine gate_callee (f := 18) rfl ?_); refine goesL_ (some 24) rfl rfl Tryd.func18 (by kernel_rfl) rfl #[.int .i64 a2] rfl (by (try simp only [List.map_toArray, List.map_cons, List.map_nil]); first | done | rfl | (simp only [List.length_drop, List.length_take]; rfl)) ?_; (with_reducible refine (dynamoref15_Ends.calls a2 t127 t128 _ A7.out).mono ?_); rintro e w' ⟨rfl, ⟨nd, rfl⟩⟩; refine ⟨_, rfl, ?_⟩))
  go_loopg [12] k (fun kq v12 w' => ∃ (x12_1 : Int), v12 = .int .i64 x12_1 ∧ Aside0 (dynamolaw21_GraphSays.l0 kq a0 a1 true t125 t126 t127 t128 x12_1 = some true) ∧ Aside0 (kq ≤ k) ∧ Drawn0 w w')
  case atStart => exact ⟨(0), (by first | rfl | (simp; done) | (simp [*]; done)), H', ⟨Nat.le_refl _⟩, by repeat (first | exact Drawn0.refl _ | apply Drawn0.step)⟩
  case round =>
   clear H'
   try clear c1
   try clear p2
   try clear c4
   try clear c5
   obtain ⟨x12_1, rfl, HA, HK1, ⟨m1, rfl⟩⟩ := hrel
   cases gk with
   | zero => exact absurd HA.out (by simp [dynamolaw21_GraphSays.l0])
   | succ k1 =>
    have H := HA.out
    clear HA
    simp only [dynamolaw21_GraphSays.l0] at H
    by_cases c8 : x12_1 < 128
    ·rw [if_pos c8] at H
     have c8b0 : decide (x12_1 < 128) = true := decide_eq_true c8
     clear c8
     replace H := Option.bind_eq_some_iff.mp H
     obtain ⟨t129, A90, H⟩ := H
     replace H : ((dynamoref15_Reach.f k1 (Go.bits .xor .i64 a0 x12_1) a1).bind fun t130 => (if t129 = t130 then ((graph_Joined.f k1 (Go.bits .xor .i64 a0 x12_1)).bind fun t131 => ((dynamoref15_Joined.f k1 (Go.bits .xor .i64 a0 x12_1)).bind fun t132 => (if (t131 != t132) = true then (some false) else ((graph_Feeds.f k1 (Go.bits .xor .i64 a0 x12_1) a1).bind fun t133 => ((dynamoref15_Feeds.f k1 (Go.bits .xor .i64 a0 x12_1) a1).bind fun t134 => (if t133 = t134 then ((graph_Parts.f k1 (Go.bits .xor .i64 a0 x12_1)).bind fun t135 => ((dynamoref15_Parts.f k1 (Go.bits .xor .i64 a0 x12_1)).bind fun t136 => (if t135 = t136 then (dynamolaw21_GraphSays.l0 k1 a0 a1 true t125 t126 t127 t128 (wrap64 (x12_1 + 7))) else (some false)))) else (some false))))))) else (some false))) = some true := H
     have A9 := Aside0.mk A90
     clear A90
     replace H := Option.bind_eq_some_iff.mp H
     obtain ⟨t130, A100, H⟩ := H
     replace H : (if t129 = t130 then ((graph_Joined.f k1 (Go.bits .xor .i64 a0 x12_1)).bind fun t131 => ((dynamoref15_Joined.f k1 (Go.bits .xor .i64 a0 x12_1)).bind fun t132 => (if (t131 != t132) = true then (some false) else ((graph_Feeds.f k1 (Go.bits .xor .i64 a0 x12_1) a1).bind fun t133 => ((dynamoref15_Feeds.f k1 (Go.bits .xor .i64 a0 x12_1) a1).bind fun t134 => (if t133 = t134 then ((graph_Parts.f k1 (Go.bits .xor .i64 a0 x12_1)).bind fun t135 => ((dynamoref15_Parts.f k1 (Go.bits .xor .i64 a0 x12_1)).bind fun t136 => (if t135 = t136 then (dynamolaw21_GraphSays.l0 k1 a0 a1 true t125 t126 t127 t128 (wrap64 (x12_1 + 7))) else (some false)))) else (some false))))))) else (some false)) = some true := H
     have A10 := Aside0.mk A100
     clear A100
     by_cases c11 : t129 = t130
     ·rw [if_pos c11] at H
      have c11b0 : (t129 == t130) = true := beq_iff_eq.mpr c11
      have c11b1 : (t129 != t130) = false := bne_eq_false_iff_eq.mpr c11
      clear c11
      replace H := Option.bind_eq_some_iff.mp H
      obtain ⟨t131, A120, H⟩ := H
      replace H : ((dynamoref15_Joined.f k1 (Go.bits .xor .i64 a0 x12_1)).bind fun t132 => (if (t131 != t132) = true then (some false) else ((graph_Feeds.f k1 (Go.bits .xor .i64 a0 x12_1) a1).bind fun t133 => ((dynamoref15_Feeds.f k1 (Go.bits .xor .i64 a0 x12_1) a1).bind fun t134 => (if t133 = t134 then ((graph_Parts.f k1 (Go.bits .xor .i64 a0 x12_1)).bind fun t135 => ((dynamoref15_Parts.f k1 (Go.bits .xor .i64 a0 x12_1)).bind fun t136 => (if t135 = t136 then (dynamolaw21_GraphSays.l0 k1 a0 a1 true t125 t126 t127 t128 (wrap64 (x12_1 + 7))) else (some false)))) else (some false)))))) = some true := H
      have A12 := Aside0.mk A120
      clear A120
      replace H := Option.bind_eq_some_iff.mp H
      obtain ⟨t132, A130, H⟩ := H
      replace H : (if (t131 != t132) = true then (some false) else ((graph_Feeds.f k1 (Go.bits .xor .i64 a0 x12_1) a1).bind fun t133 => ((dynamoref15_Feeds.f k1 (Go.bits .xor .i64 a0 x12_1) a1).bind fun t134 => (if t133 = t134 then ((graph_Parts.f k1 (Go.bits .xor .i64 a0 x12_1)).bind fun t135 => ((dynamoref15_Parts.f k1 (Go.bits .xor .i64 a0 x12_1)).bind fun t136 => (if t135 = t136 then (dynamolaw21_GraphSays.l0 k1 a0 a1 true t125 t126 t127 t128 (wrap64 (x12_1 + 7))) else (some false)))) else (some false))))) = some true := H
      have A13 := Aside0.mk A130
      clear A130
      by_cases c14 : (t131 != t132) = true
      ·rw [if_pos c14] at H
       have c14b0 : (t131 != t132) = true := c14
       (try (have c14b1 : decide (t131 = t132) = false := by simpa using c14))
       (try (have c14b2 : (t131 == t132) = false := by simpa using c14))
       (try (have c14b3 : ¬ (t131 = t132) := by simpa using c14))
       clear c14
       exact absurd H (by simp)
      ·rw [if_neg c14] at H
       have c14b0 : (t131 != t132) = false := by simpa using c14
       (try (have c14b1 : decide (t131 = t132) = true := by simpa using c14))
       (try (have c14b2 : (t131 == t132) = true := by simpa using c14))
       clear c14
       replace H := Option.bind_eq_some_iff.mp H
       obtain ⟨t133, A150, H⟩ := H
       replace H : ((dynamoref15_Feeds.f k1 (Go.bits .xor .i64 a0 x12_1) a1).bind fun t134 => (if t133 = t134 then ((graph_Parts.f k1 (Go.bits .xor .i64 a0 x12_1)).bind fun t135 => ((dynamoref15_Parts.f k1 (Go.bits .xor .i64 a0 x12_1)).bind fun t136 => (if t135 = t136 then (dynamolaw21_GraphSays.l0 k1 a0 a1 true t125 t126 t127 t128 (wrap64 (x12_1 + 7))) else (some false)))) else (some false))) = some true := H
       have A15 := Aside0.mk A150
       clear A150
       replace H := Option.bind_eq_some_iff.mp H
       obtain ⟨t134, A160, H⟩ := H
       replace H : (if t133 = t134 then ((graph_Parts.f k1 (Go.bits .xor .i64 a0 x12_1)).bind fun t135 => ((dynamoref15_Parts.f k1 (Go.bits .xor .i64 a0 x12_1)).bind fun t136 => (if t135 = t136 then (dynamolaw21_GraphSays.l0 k1 a0 a1 true t125 t126 t127 t128 (wrap64 (x12_1 + 7))) else (some false)))) else (some false)) = some true := H
       have A16 := Aside0.mk A160
       clear A160
       by_cases c17 : t133 = t134
       ·rw [if_pos c17] at H
        have c17b0 : (t133 == t134) = true := beq_iff_eq.mpr c17
        have c17b1 : (t133 != t134) = false := bne_eq_false_iff_eq.mpr c17
        clear c17
        replace H := Option.bind_eq_some_iff.mp H
        obtain ⟨t135, A180, H⟩ := H
        replace H : ((dynamoref15_Parts.f k1 (Go.bits .xor .i64 a0 x12_1)).bind fun t136 => (if t135 = t136 then (dynamolaw21_GraphSays.l0 k1 a0 a1 true t125 t126 t127 t128 (wrap64 (x12_1 + 7))) else (some false))) = some true := H
        have A18 := Aside0.mk A180
        clear A180
        replace H := Option.bind_eq_some_iff.mp H
        obtain ⟨t136, A190, H⟩ := H
        replace H : (if t135 = t136 then (dynamolaw21_GraphSays.l0 k1 a0 a1 true t125 t126 t127 t128 (wrap64 (x12_1 + 7))) else (some false)) = some true := H
        have A19 := Aside0.mk A190
        clear A190
        by_cases c20 : t135 = t136
        ·rw [if_pos c20] at H
         have c20b0 : (t135 == t136) = true := beq_iff_eq.mpr c20
         have c20b1 : (t135 != t136) = false := bne_eq_false_iff_eq.mpr c20
         clear c20
         have H' := Aside0.mk H
         clear H
         go_wp2_with (first | ((with_reducible refine gate_callee (f := 15) rfl ?_); refine goesL_ (some 36) rfl rfl Tryd.func15 (by kernel_rfl) rfl #[.int .i64 (Go.bits .xor .i64 a0 x12_1), .int .i64 a1] rfl (by (try simp only [List.map_toArray, List.map_cons, List.map_nil]); first | done | rfl | (simp only [List.length_drop, List.length_take]; rfl)) ?_; (with_reducible refine (graph_Reach.calls k1 (Go.bits .xor .i64 a0 x12_1) a1 t129 _ A9.out).mono ?_); rintro e w' ⟨rfl, ⟨nd, rfl⟩⟩; refine ⟨_, rfl, ?_⟩) | ((with_reducible refine gate_callee (f := 19) rfl ?_); refine goesL_ (some 39) rfl rfl Tryd.func19 (by kernel_rfl) rfl #[.int .i64 (Go.bits .xor .i64 a0 x12_1), .int .i64 a1] rfl (by (try simp only [List.map_toArray, List.map_cons, List.map_nil]); first | done | rfl | (simp only [List.length_drop, List.length_take]; rfl)) ?_; (with_reducible refine (dynamoref15_Reach.calls k1 (Go.bits .xor .i64 a0 x12_1) a1 t130 _ A10.out).mono ?_); rintro e w' ⟨rfl, ⟨nd, rfl⟩⟩; refine ⟨_, rfl, ?_⟩) | (go_at_call 20; (with_reducible refine (graph_Joined.calls k1 (Go.bits .xor .i64 a0 x12_1) t131 _ A12.out).mono ?_); rintro e w' ⟨rfl, ⟨nd, rfl⟩⟩) | (go_at_call 21; (with_reducible refine (dynamoref15_Joined.calls k1 (Go.bits .xor .i64 a0 x12_1) t132 _ A13.out).mono ?_); rintro e w' ⟨rfl, ⟨nd, rfl⟩⟩) | (go_at_call 14; (with_reducible refine (graph_Feeds.calls k1 (Go.bits .xor .i64 a0 x12_1) a1 t133 _ (by first | exact HG.out | (repeat (first | exact HG.out | apply GLaid.drewN | apply GLaid.drew))) A15.out).mono ?_); rintro e w' ⟨rfl, ⟨nd, rfl⟩⟩) | (go_at_call 16; (with_reducible refine (dynamoref15_Feeds.calls k1 (Go.bits .xor .i64 a0 x12_1) a1 t134 _ A16.out).mono ?_); rintro e w' ⟨rfl, ⟨nd, rfl⟩⟩) | (go_at_call 22; (with_reducible refine (graph_Parts.calls k1 (Go.bits .xor .i64 a0 x12_1) t135 _ (by first | exact HG.out | (repeat (first | exact HG.out | apply GLaid.drewN | apply GLaid.drew))) A18.out).mono ?_); rintro e w' ⟨rfl, ⟨nd, rfl⟩⟩) | (go_at_call 23; (with_reducible refine (dynamoref15_Parts.calls k1 (Go.bits .xor .i64 a0 x12_1) t136 _ A19.out).mono ?_); rintro e w' ⟨rfl, ⟨nd, rfl⟩⟩))
         go_roundg k1
         case measure => have := HK1.out; omega
         case rel => exact ⟨(wrap64 (x12_1 + 7)), (by first | rfl | (simp; done) | (simp [*]; done)), H', ⟨by have := HK1.out; omega⟩, by repeat (first | exact Drawn0.refl _ | apply Drawn0.step)⟩
        ·rw [if_neg c20] at H
         have c20b0 : (t135 == t136) = false := beq_eq_false_iff_ne.mpr c20
         have c20b1 : (t135 != t136) = true := bne_iff_ne.mpr c20
         exact absurd H (by simp)
       ·rw [if_neg c17] at H
        have c17b0 : (t133 == t134) = false := beq_eq_false_iff_ne.mpr c17
        have c17b1 : (t133 != t134) = true := bne_iff_ne.mpr c17
        exact absurd H (by simp)
     ·rw [if_neg c11] at H
      have c11b0 : (t129 == t130) = false := beq_eq_false_iff_ne.mpr c11
      have c11b1 : (t129 != t130) = true := bne_iff_ne.mpr c11
      exact absurd H (by simp)
    ·rw [if_neg c8] at H
     have c8b0 : decide (x12_1 < 128) = false := decide_eq_false c8
     clear c8
     have H1 : (if t125 = t127 then (some (t126 == t128)) else (some false)) = some true := by first | (with_reducible exact H) | (rw [if_pos rfl] at H; exact H) | exact H | rfl
     clear H
     have H := H1
     clear H1
     by_cases c21 : t125 = t127
     ·rw [if_pos c21] at H
      have c21b0 : (t125 == t127) = true := beq_iff_eq.mpr c21
      have c21b1 : (t125 != t127) = false := bne_eq_false_iff_eq.mpr c21
      clear c21
      have HLAST := Aside0.mk (Option.some.inj H)
      clear H
      go_wp2
      all_goals (try go_ret)
      all_goals first | (exfalso; simp_all; done) | exact ⟨by first | rfl | (rw [HLAST.out]; done) | (simp [HLAST.out]; done) | (have HL_ := HLAST.out; simp_all; done) | (simp; done) | (simp [*]; done), by repeat (first | exact Drawn0.refl _ | apply Drawn0.step)⟩
     ·rw [if_neg c21] at H
      have c21b0 : (t125 == t127) = false := beq_eq_false_iff_ne.mpr c21
      have c21b1 : (t125 != t127) = true := bne_iff_ne.mpr c21
      exact absurd H (by simp)
 ·replace c5 := Bool.eq_false_iff.mpr c5
  subst c5
  have H1 : (some false) = some true := by first | (rw [if_neg (show ¬ (false = true) by decide)] at H; exact H) | exact H | rfl
  clear H
  have H := H1
  clear H1
  exact absurd H (by simp)

/-- THE ONE PURE STATEMENT of dynamolaw21_GraphSays: yours. -/
def dynamolaw21_GraphSays.Pure : Prop := ∀ (a0 : Int) (a1 : Int) (a2 : Int), (Lit.int .i64 a0).wf = true → (Lit.int .i64 a1).wf = true → (Lit.int .i64 a2).wf = true → ∃ k, dynamolaw21_GraphSays.f k a0 a1 a2 = some true
theorem dynamolaw21_GraphSays.walk (P : dynamolaw21_GraphSays.Pure) (a0 : Int) (a1 : Int) (a2 : Int) (w : World) (hG : GLaid w) (w0 : (Lit.int .i64 a0).wf = true) (w1 : (Lit.int .i64 a1).wf = true) (w2 : (Lit.int .i64 a2).wf = true) :
  Calls Tryd.prog 4 #[.int .i64 a0, .int .i64 a1, .int .i64 a2] w fun e w' => e = .returned (.bool true) ∧ Below w.heap.size w w' := by
 obtain ⟨k, h⟩ := P a0 a1 a2 w0 w1 w2
 refine (dynamolaw21_GraphSays.calls k a0 a1 a2 w hG h).mono ?_
 rintro e w' ⟨rfl, hd⟩
 exact ⟨rfl, hd.below⟩

end Go.Proofs.YtjmggdccmggboabDoor.PGraphSays
