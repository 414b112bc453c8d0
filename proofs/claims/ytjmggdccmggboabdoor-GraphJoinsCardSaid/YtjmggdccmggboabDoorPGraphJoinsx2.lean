-- written by this work with wip/mkprint2.py
import Derived.Test.YtjmggdccmggboabDoorPGraphJoinsx0
import Derived.Test.YtjmggdccmggboabDoorPGraphJoinsx1
namespace Go.Proofs.YtjmggdccmggboabDoor.PGraphJoins
open Go.RowKit Go.Proofs.YtjmggdccmggboabDoorW.PrintWords Go.Proofs.YtjmggdccmggboabDoorW.PrintLast Go.Proofs.YtjmggdccmggboabDoorW.PrintMore
attribute [local go_sem] max2_int min2_int max_two min_two max_three min_three max_four min_four   -- for this text's walks alone
set_option linter.unusedVariables false
set_option linter.unusedSimpArgs false
open Go.Proofs.YtjmggdccmggboabDoor.Tz

/-! ### graph_Joined: function 20 -/
def graph_Joined.l0 : Nat → Int → Int → Option (Bool)
 | 0, _, _ => none
 | k + 1, x0, x4 => if x4 < 4 then ((graph_fed.f k x0 x4).bind fun t115 => ((bits_OnesCount.f (IntKind.u64.wrap (t115))).bind fun t116 => (if t116 > 1 then (some true) else (graph_Joined.l0 k x0 (wrap64 (x4 + 1)))))) else (some false)
def graph_Joined.f (k : Nat) (a0 : Int) : Option (Bool) := graph_Joined.l0 k a0 0
theorem graph_Joined.mono_l : ∀ k, (∀ y0 y1, LeO (graph_Joined.l0 k y0 y1) (graph_Joined.l0 (k + 1) y0 y1))
 | 0 => fun _ _ r h => by simp [graph_Joined.l0] at h
 | k + 1 => by
  have ih0 := graph_Joined.mono_l k
  ·intro y0 y1
   unfold graph_Joined.l0
   repeat' first
   | (with_reducible exact ih0 _ _)
   | (with_reducible exact graph_fed.mono _ _ _)
   | (with_reducible exact LeO.refl _)
   | (with_reducible exact LeO.none _)
   | (with_reducible refine LeO.ite ?_ ?_)
   | (with_reducible refine LeO.bind ?_ (fun _ => ?_))
   | exact ih0 _ _
   | exact graph_fed.mono _ _ _
   | exact LeO.none _
   | refine LeO.ite ?_ ?_
   | refine LeO.bind ?_ (fun _ => ?_)
theorem graph_Joined.mono : ∀ a0 k, LeO (graph_Joined.f k a0) (graph_Joined.f (k + 1) a0) := by
 intro a0 k
 have ih0 := graph_Joined.mono_l k
 unfold graph_Joined.f
 repeat' first
   | (with_reducible exact ih0 _ _)
   | (with_reducible exact graph_fed.mono _ _ _)
   | (with_reducible exact LeO.refl _)
   | (with_reducible exact LeO.none _)
   | (with_reducible refine LeO.ite ?_ ?_)
   | (with_reducible refine LeO.bind ?_ (fun _ => ?_))
   | exact ih0 _ _
   | exact graph_fed.mono _ _ _
   | exact LeO.none _
   | refine LeO.ite ?_ ?_
   | refine LeO.bind ?_ (fun _ => ?_)
set_option maxHeartbeats 8000000 in
set_option maxRecDepth 100000 in
theorem graph_Joined.calls (k : Nat) (a0 : Int) (r : Bool) (w : World) (h : graph_Joined.f k a0 = some r) :
  Calls Tryd.prog 20 #[.int .i64 a0] w fun e w' => e = .returned (.bool r) ∧ Drawn0 w w' := by
 have H : (graph_Joined.l0 k a0 0) = some r := h
 clear h
 have H' := Aside0.mk H
 clear H
 go_enter Tryd.func20, Tryd.ntmps20
 go_wp2
 go_loopg [4] k (fun kq v4 w' => ∃ (x4_1 : Int), v4 = .int .i64 x4_1 ∧ Aside0 (graph_Joined.l0 kq a0 x4_1 = some r) ∧ Aside0 (kq ≤ k) ∧ Drawn0 w w')
 case atStart => exact ⟨(0), (by first | rfl | (simp; done) | (simp [*]; done)), H', ⟨Nat.le_refl _⟩, by repeat (first | exact Drawn0.refl _ | apply Drawn0.step)⟩
 case round =>
  clear H'
  obtain ⟨x4_1, rfl, HA, HK1, ⟨m1, rfl⟩⟩ := hrel
  cases gk with
  | zero => exact absurd HA.out (by simp [graph_Joined.l0])
  | succ k1 =>
   have H := HA.out
   clear HA
   simp only [graph_Joined.l0] at H
   by_cases c2 : x4_1 < 4
   ·rw [if_pos c2] at H
    have c2b0 : decide (x4_1 < 4) = true := decide_eq_true c2
    clear c2
    replace H := Option.bind_eq_some_iff.mp H
    obtain ⟨t115, A30, H⟩ := H
    replace H : ((bits_OnesCount.f (IntKind.u64.wrap (t115))).bind fun t116 => (if t116 > 1 then (some true) else (graph_Joined.l0 k1 a0 (wrap64 (x4_1 + 1))))) = some r := H
    have A3 := Aside0.mk A30
    clear A30
    replace H := Option.bind_eq_some_iff.mp H
    obtain ⟨t116, A40, H⟩ := H
    replace H : (if t116 > 1 then (some true) else (graph_Joined.l0 k1 a0 (wrap64 (x4_1 + 1)))) = some r := H
    have A4 := Aside0.mk A40
    clear A40
    by_cases c5 : t116 > 1
    ·rw [if_pos c5] at H
     have c5b0 : decide (1 < t116) = true := decide_eq_true c5
     clear c5
     obtain rfl := Option.some.inj H
     go_wp2_with (first | ((with_reducible refine gate_callee (f := 36) rfl ?_); refine goesL_ (some 9) rfl rfl Tryd.func36 (by kernel_rfl) rfl #[.int .i64 a0, .int .i64 x4_1] rfl (by (try simp only [List.map_toArray, List.map_cons, List.map_nil]); first | done | rfl | (simp only [List.length_drop, List.length_take]; rfl)) ?_; (with_reducible refine (graph_fed.calls k1 a0 x4_1 t115 _ A3.out).mono ?_); rintro e w' ⟨rfl, ⟨nd, rfl⟩⟩; refine ⟨_, rfl, ?_⟩) | ((with_reducible refine gate_callee (f := 37) rfl ?_); refine goesL_ (some 11) rfl rfl Tryd.func37 (by kernel_rfl) rfl #[.int .u64 (IntKind.u64.wrap (t115))] rfl (by (try simp only [List.map_toArray, List.map_cons, List.map_nil]); first | done | rfl | (simp only [List.length_drop, List.length_take]; rfl)) ?_; (with_reducible refine (bits_OnesCount.calls (IntKind.u64.wrap (t115)) t116 _ A4.out).mono ?_); rintro e w' ⟨rfl, ⟨nd, rfl⟩⟩; refine ⟨_, rfl, ?_⟩))
     go_ret
     exact ⟨by first | rfl | (rw [HLAST.out]; done) | (simp [HLAST.out]; done) | (have HL_ := HLAST.out; simp_all; done) | (simp; done) | (simp [*]; done), by repeat (first | exact Drawn0.refl _ | apply Drawn0.step)⟩
    ·rw [if_neg c5] at H
     have c5b0 : decide (1 < t116) = false := decide_eq_false c5
     clear c5
     have H' := Aside0.mk H
     clear H
     go_wp2_with (first | ((with_reducible refine gate_callee (f := 36) rfl ?_); refine goesL_ (some 9) rfl rfl Tryd.func36 (by kernel_rfl) rfl #[.int .i64 a0, .int .i64 x4_1] rfl (by (try simp only [List.map_toArray, List.map_cons, List.map_nil]); first | done | rfl | (simp only [List.length_drop, List.length_take]; rfl)) ?_; (with_reducible refine (graph_fed.calls k1 a0 x4_1 t115 _ A3.out).mono ?_); rintro e w' ⟨rfl, ⟨nd, rfl⟩⟩; refine ⟨_, rfl, ?_⟩) | ((with_reducible refine gate_callee (f := 37) rfl ?_); refine goesL_ (some 11) rfl rfl Tryd.func37 (by kernel_rfl) rfl #[.int .u64 (IntKind.u64.wrap (t115))] rfl (by (try simp only [List.map_toArray, List.map_cons, List.map_nil]); first | done | rfl | (simp only [List.length_drop, List.length_take]; rfl)) ?_; (with_reducible refine (bits_OnesCount.calls (IntKind.u64.wrap (t115)) t116 _ A4.out).mono ?_); rintro e w' ⟨rfl, ⟨nd, rfl⟩⟩; refine ⟨_, rfl, ?_⟩))
     go_roundg k1
     case measure => have := HK1.out; omega
     case rel => exact ⟨(wrap64 (x4_1 + 1)), (by first | rfl | (simp; done) | (simp [*]; done)), H', ⟨by have := HK1.out; omega⟩, by repeat (first | exact Drawn0.refl _ | apply Drawn0.step)⟩
   ·rw [if_neg c2] at H
    have c2b0 : decide (x4_1 < 4) = false := decide_eq_false c2
    clear c2
    obtain rfl := Option.some.inj H
    go_wp2
    go_ret
    exact ⟨by first | rfl | (rw [HLAST.out]; done) | (simp [HLAST.out]; done) | (have HL_ := HLAST.out; simp_all; done) | (simp; done) | (simp [*]; done), by repeat (first | exact Drawn0.refl _ | apply Drawn0.step)⟩

/-! ### dynamolaw21_GraphJoins: function 5 -/
def dynamolaw21_GraphJoins.j0 : Nat → Int → Int → Int → Bool → Int → Int → Int → Int → Int → Option (Bool)
 | 0, _, _, _, _, _, _, _, _, _ => none
 | k + 1, x0, x2, x3, x9, x10, x11, x12, x14, x16 => if x9 = true then ((graph_Reach.f k x10 x11).bind fun t127 => (if 0 ≤ (IntKind.u64.wrap (x12)) then (if (Go.bits .and .i64 (shr .i64 t127 (IntKind.u64.wrap (x12))) 1) = 1 then ((graph_Reach.f k x0 x2).bind fun t128 => ((graph_Reach.f k x10 x2).bind fun t129 => (if (Go.bits .andNot .i64 t128 t129) = 0 then (if x14 = x16 then ((graph_Reach.f k x0 x2).bind fun t130 => (if 0 ≤ (IntKind.u64.wrap (x3)) then ((graph_Reach.f k x0 x3).bind fun t131 => (if 0 ≤ (IntKind.u64.wrap (x2)) then (if (((Go.bits .and .i64 (shr .i64 t130 (IntKind.u64.wrap (x3))) 1) == 1) == ((Go.bits .and .i64 (shr .i64 t131 (IntKind.u64.wrap (x2))) 1) == 1)) = true then ((graph_Joined.f k x0).bind fun t132 => (if t132 = true then ((graph_Joined.f k x10).bind fun t133 => (if t133 = true then ((graph_Reach.f k x0 x2).bind fun t134 => (some ((Go.bits .and .i64 (shr .i64 t134 (IntKind.u64.wrap (x2))) 1) == 1))) else (some false))) else ((graph_Reach.f k x0 x2).bind fun t135 => (some ((Go.bits .and .i64 (shr .i64 t135 (IntKind.u64.wrap (x2))) 1) == 1))))) else (some false)) else (none))) else (none))) else (some false)) else (some false)))) else (some false)) else (none))) else (some false)
def dynamolaw21_GraphJoins.f (k : Nat) (a0 : Int) (a1 : Int) (a2 : Int) (a3 : Int) : Option (Bool) := (dynamolaw21_first.f k).bind fun t117 => (if t117 = true then ((dynamoworld_Number.f a0 128).bind fun t118 => ((dynamoworld_Number.f a1 7).bind fun t119 => ((dynamoworld_Number.f a2 7).bind fun t120 => ((dynamoworld_Number.f a3 7).bind fun t121 => (if 0 ≤ (IntKind.u64.wrap (t119)) then ((graph_Ends.f t119).bind fun bt122 => ((graph_Parts.f k t118).bind fun t124 => ((graph_Parts.f k (Go.bits .or .i64 t118 (shl .i64 1 (IntKind.u64.wrap (t119))))).bind fun t125 => ((graph_Reach.f k t118 bt122.1).bind fun t126 => (if 0 ≤ (IntKind.u64.wrap (bt122.2)) then (if (Go.bits .and .i64 (shr .i64 t126 (IntKind.u64.wrap (bt122.2))) 1) = 0 then (dynamolaw21_GraphJoins.j0 k t118 t120 t121 t117 (Go.bits .or .i64 t118 (shl .i64 1 (IntKind.u64.wrap (t119)))) bt122.1 bt122.2 t125 (wrap64 (t124 - 1))) else (dynamolaw21_GraphJoins.j0 k t118 t120 t121 t117 (Go.bits .or .i64 t118 (shl .i64 1 (IntKind.u64.wrap (t119)))) bt122.1 bt122.2 t125 t124)) else (none)))))) else (none)))))) else (some false))
theorem dynamolaw21_GraphJoins.mono_l : ∀ k, (∀ y0 y1 y2 y3 y4 y5 y6 y7 y8, LeO (dynamolaw21_GraphJoins.j0 k y0 y1 y2 y3 y4 y5 y6 y7 y8) (dynamolaw21_GraphJoins.j0 (k + 1) y0 y1 y2 y3 y4 y5 y6 y7 y8))
 | 0 => fun _ _ _ _ _ _ _ _ _ r h => by simp [dynamolaw21_GraphJoins.j0] at h
 | k + 1 => by
  have ih0 := dynamolaw21_GraphJoins.mono_l k
  ·intro y0 y1 y2 y3 y4 y5 y6 y7 y8
   unfold dynamolaw21_GraphJoins.j0
   repeat' first
   | (with_reducible exact ih0 _ _ _ _ _ _ _ _ _)
   | (with_reducible exact dynamolaw21_first.mono _)
   | (with_reducible exact graph_Joined.mono _ _)
   | (with_reducible exact graph_Parts.mono _ _)
   | (with_reducible exact graph_Reach.mono _ _ _)
   | (with_reducible exact LeO.refl _)
   | (with_reducible exact LeO.none _)
   | (with_reducible refine LeO.ite ?_ ?_)
   | (with_reducible refine LeO.bind ?_ (fun _ => ?_))
   | exact ih0 _ _ _ _ _ _ _ _ _
   | exact dynamolaw21_first.mono _
   | exact graph_Joined.mono _ _
   | exact graph_Parts.mono _ _
   | exact graph_Reach.mono _ _ _
   | exact LeO.none _
   | refine LeO.ite ?_ ?_
   | refine LeO.bind ?_ (fun _ => ?_)
theorem dynamolaw21_GraphJoins.mono : ∀ a0 a1 a2 a3 k, LeO (dynamolaw21_GraphJoins.f k a0 a1 a2 a3) (dynamolaw21_GraphJoins.f (k + 1) a0 a1 a2 a3) := by
 intro a0 a1 a2 a3 k
 have ih0 := dynamolaw21_GraphJoins.mono_l k
 unfold dynamolaw21_GraphJoins.f
 repeat' first
   | (with_reducible exact ih0 _ _ _ _ _ _ _ _ _)
   | (with_reducible exact dynamolaw21_first.mono _)
   | (with_reducible exact graph_Joined.mono _ _)
   | (with_reducible exact graph_Parts.mono _ _)
   | (with_reducible exact graph_Reach.mono _ _ _)
   | (with_reducible exact LeO.refl _)
   | (with_reducible exact LeO.none _)
   | (with_reducible refine LeO.ite ?_ ?_)
   | (with_reducible refine LeO.bind ?_ (fun _ => ?_))
   | exact ih0 _ _ _ _ _ _ _ _ _
   | exact dynamolaw21_first.mono _
   | exact graph_Joined.mono _ _
   | exact graph_Parts.mono _ _
   | exact graph_Reach.mono _ _ _
   | exact LeO.none _
   | refine LeO.ite ?_ ?_
   | refine LeO.bind ?_ (fun _ => ?_)
set_option maxHeartbeats 8000000 in
set_option maxRecDepth 100000 in
theorem dynamolaw21_GraphJoins.calls (k : Nat) (a0 : Int) (a1 : Int) (a2 : Int) (a3 : Int) (w : World) (hG : GLaid w) (h : dynamolaw21_GraphJoins.f k a0 a1 a2 a3 = some true) :
  Calls Tryd.prog 5 #[.int .i64 a0, .int .i64 a1, .int .i64 a2, .int .i64 a3] w fun e w' => e = .returned (.bool true) ∧ Drawn0 w w' := by
 have HG := Aside0.mk hG
 clear hG
 have H : ((dynamolaw21_first.f k).bind fun t117 => (if t117 = true then ((dynamoworld_Number.f a0 128).bind fun t118 => ((dynamoworld_Number.f a1 7).bind fun t119 => ((dynamoworld_Number.f a2 7).bind fun t120 => ((dynamoworld_Number.f a3 7).bind fun t121 => (if 0 ≤ (IntKind.u64.wrap (t119)) then ((graph_Ends.f t119).bind fun bt122 => ((graph_Parts.f k t118).bind fun t124 => ((graph_Parts.f k (Go.bits .or .i64 t118 (shl .i64 1 (IntKind.u64.wrap (t119))))).bind fun t125 => ((graph_Reach.f k t118 bt122.1).bind fun t126 => (if 0 ≤ (IntKind.u64.wrap (bt122.2)) then (if (Go.bits .and .i64 (shr .i64 t126 (IntKind.u64.wrap (bt122.2))) 1) = 0 then (dynamolaw21_GraphJoins.j0 k t118 t120 t121 t117 (Go.bits .or .i64 t118 (shl .i64 1 (IntKind.u64.wrap (t119)))) bt122.1 bt122.2 t125 (wrap64 (t124 - 1))) else (dynamolaw21_GraphJoins.j0 k t118 t120 t121 t117 (Go.bits .or .i64 t118 (shl .i64 1 (IntKind.u64.wrap (t119)))) bt122.1 bt122.2 t125 t124)) else (none)))))) else (none)))))) else (some false))) = some true := h
 clear h
 replace H := Option.bind_eq_some_iff.mp H
 obtain ⟨t117, A50, H⟩ := H
 replace H : (if t117 = true then ((dynamoworld_Number.f a0 128).bind fun t118 => ((dynamoworld_Number.f a1 7).bind fun t119 => ((dynamoworld_Number.f a2 7).bind fun t120 => ((dynamoworld_Number.f a3 7).bind fun t121 => (if 0 ≤ (IntKind.u64.wrap (t119)) then ((graph_Ends.f t119).bind fun bt122 => ((graph_Parts.f k t118).bind fun t124 => ((graph_Parts.f k (Go.bits .or .i64 t118 (shl .i64 1 (IntKind.u64.wrap (t119))))).bind fun t125 => ((graph_Reach.f k t118 bt122.1).bind fun t126 => (if 0 ≤ (IntKind.u64.wrap (bt122.2)) then (if (Go.bits .and .i64 (shr .i64 t126 (IntKind.u64.wrap (bt122.2))) 1) = 0 then (dynamolaw21_GraphJoins.j0 k t118 t120 t121 t117 (Go.bits .or .i64 t118 (shl .i64 1 (IntKind.u64.wrap (t119)))) bt122.1 bt122.2 t125 (wrap64 (t124 - 1))) else (dynamolaw21_GraphJoins.j0 k t118 t120 t121 t117 (Go.bits .or .i64 t118 (shl .i64 1 (IntKind.u64.wrap (t119)))) bt122.1 bt122.2 t125 t124)) else (none)))))) else (none)))))) else (some false)) = some true := H
 have A5 := Aside0.mk A50
 clear A50
 by_cases c6 : t117 = true
 ·subst c6
  have H1 : ((dynamoworld_Number.f a0 128).bind fun t118 => ((dynamoworld_Number.f a1 7).bind fun t119 => ((dynamoworld_Number.f a2 7).bind fun t120 => ((dynamoworld_Number.f a3 7).bind fun t121 => (if 0 ≤ (IntKind.u64.wrap (t119)) then ((graph_Ends.f t119).bind fun bt122 => ((graph_Parts.f k t118).bind fun t124 => ((graph_Parts.f k (Go.bits .or .i64 t118 (shl .i64 1 (IntKind.u64.wrap (t119))))).bind fun t125 => ((graph_Reach.f k t118 bt122.1).bind fun t126 => (if 0 ≤ (IntKind.u64.wrap (bt122.2)) then (if (Go.bits .and .i64 (shr .i64 t126 (IntKind.u64.wrap (bt122.2))) 1) = 0 then (dynamolaw21_GraphJoins.j0 k t118 t120 t121 true (Go.bits .or .i64 t118 (shl .i64 1 (IntKind.u64.wrap (t119)))) bt122.1 bt122.2 t125 (wrap64 (t124 - 1))) else (dynamolaw21_GraphJoins.j0 k t118 t120 t121 true (Go.bits .or .i64 t118 (shl .i64 1 (IntKind.u64.wrap (t119)))) bt122.1 bt122.2 t125 t124)) else (none)))))) else (none)))))) = some true := by first | (rw [if_pos rfl] at H; exact H) | exact H | rfl
  clear H
  have H := H1
  clear H1
  replace H := Option.bind_eq_some_iff.mp H
  obtain ⟨t118, A70, H⟩ := H
  replace H : ((dynamoworld_Number.f a1 7).bind fun t119 => ((dynamoworld_Number.f a2 7).bind fun t120 => ((dynamoworld_Number.f a3 7).bind fun t121 => (if 0 ≤ (IntKind.u64.wrap (t119)) then ((graph_Ends.f t119).bind fun bt122 => ((graph_Parts.f k t118).bind fun t124 => ((graph_Parts.f k (Go.bits .or .i64 t118 (shl .i64 1 (IntKind.u64.wrap (t119))))).bind fun t125 => ((graph_Reach.f k t118 bt122.1).bind fun t126 => (if 0 ≤ (IntKind.u64.wrap (bt122.2)) then (if (Go.bits .and .i64 (shr .i64 t126 (IntKind.u64.wrap (bt122.2))) 1) = 0 then (dynamolaw21_GraphJoins.j0 k t118 t120 t121 true (Go.bits .or .i64 t118 (shl .i64 1 (IntKind.u64.wrap (t119)))) bt122.1 bt122.2 t125 (wrap64 (t124 - 1))) else (dynamolaw21_GraphJoins.j0 k t118 t120 t121 true (Go.bits .or .i64 t118 (shl .i64 1 (IntKind.u64.wrap (t119)))) bt122.1 bt122.2 t125 t124)) else (none)))))) else (none))))) = some true := H
  have A7 := Aside0.mk A70
  clear A70
  replace H := Option.bind_eq_some_iff.mp H
  obtain ⟨t119, A80, H⟩ := H
  replace H : ((dynamoworld_Number.f a2 7).bind fun t120 => ((dynamoworld_Number.f a3 7).bind fun t121 => (if 0 ≤ (IntKind.u64.wrap (t119)) then ((graph_Ends.f t119).bind fun bt122 => ((graph_Parts.f k t118).bind fun t124 => ((graph_Parts.f k (Go.bits .or .i64 t118 (shl .i64 1 (IntKind.u64.wrap (t119))))).bind fun t125 => ((graph_Reach.f k t118 bt122.1).bind fun t126 => (if 0 ≤ (IntKind.u64.wrap (bt122.2)) then (if (Go.bits .and .i64 (shr .i64 t126 (IntKind.u64.wrap (bt122.2))) 1) = 0 then (dynamolaw21_GraphJoins.j0 k t118 t120 t121 true (Go.bits .or .i64 t118 (shl .i64 1 (IntKind.u64.wrap (t119)))) bt122.1 bt122.2 t125 (wrap64 (t124 - 1))) else (dynamolaw21_GraphJoins.j0 k t118 t120 t121 true (Go.bits .or .i64 t118 (shl .i64 1 (IntKind.u64.wrap (t119)))) bt122.1 bt122.2 t125 t124)) else (none)))))) else (none)))) = some true := H
  have A8 := Aside0.mk A80
  clear A80
  replace H := Option.bind_eq_some_iff.mp H
  obtain ⟨t120, A90, H⟩ := H
  replace H : ((dynamoworld_Number.f a3 7).bind fun t121 => (if 0 ≤ (IntKind.u64.wrap (t119)) then ((graph_Ends.f t119).bind fun bt122 => ((graph_Parts.f k t118).bind fun t124 => ((graph_Parts.f k (Go.bits .or .i64 t118 (shl .i64 1 (IntKind.u64.wrap (t119))))).bind fun t125 => ((graph_Reach.f k t118 bt122.1).bind fun t126 => (if 0 ≤ (IntKind.u64.wrap (bt122.2)) then (if (Go.bits .and .i64 (shr .i64 t126 (IntKind.u64.wrap (bt122.2))) 1) = 0 then (dynamolaw21_GraphJoins.j0 k t118 t120 t121 true (Go.bits .or .i64 t118 (shl .i64 1 (IntKind.u64.wrap (t119)))) bt122.1 bt122.2 t125 (wrap64 (t124 - 1))) else (dynamolaw21_GraphJoins.j0 k t118 t120 t121 true (Go.bits .or .i64 t118 (shl .i64 1 (IntKind.u64.wrap (t119)))) bt122.1 bt122.2 t125 t124)) else (none)))))) else (none))) = some true := H
  have A9 := Aside0.mk A90
  clear A90
  replace H := Option.bind_eq_some_iff.mp H
  obtain ⟨t121, A100, H⟩ := H
  replace H : (if 0 ≤ (IntKind.u64.wrap (t119)) then ((graph_Ends.f t119).bind fun bt122 => ((graph_Parts.f k t118).bind fun t124 => ((graph_Parts.f k (Go.bits .or .i64 t118 (shl .i64 1 (IntKind.u64.wrap (t119))))).bind fun t125 => ((graph_Reach.f k t118 bt122.1).bind fun t126 => (if 0 ≤ (IntKind.u64.wrap (bt122.2)) then (if (Go.bits .and .i64 (shr .i64 t126 (IntKind.u64.wrap (bt122.2))) 1) = 0 then (dynamolaw21_GraphJoins.j0 k t118 t120 t121 true (Go.bits .or .i64 t118 (shl .i64 1 (IntKind.u64.wrap (t119)))) bt122.1 bt122.2 t125 (wrap64 (t124 - 1))) else (dynamolaw21_GraphJoins.j0 k t118 t120 t121 true (Go.bits .or .i64 t118 (shl .i64 1 (IntKind.u64.wrap (t119)))) bt122.1 bt122.2 t125 t124)) else (none)))))) else (none)) = some true := H
  have A10 := Aside0.mk A100
  clear A100
  obtain ⟨ji11, hji11⟩ : ∃ j_ : Int, (IntKind.u64.wrap (t119)) = j_ := ⟨_, rfl⟩
  replace H : (if 0 ≤ (ji11) then ((graph_Ends.f t119).bind fun bt122 => ((graph_Parts.f k t118).bind fun t124 => ((graph_Parts.f k (Go.bits .or .i64 t118 (shl .i64 1 (ji11)))).bind fun t125 => ((graph_Reach.f k t118 bt122.1).bind fun t126 => (if 0 ≤ (IntKind.u64.wrap (bt122.2)) then (if (Go.bits .and .i64 (shr .i64 t126 (IntKind.u64.wrap (bt122.2))) 1) = 0 then (dynamolaw21_GraphJoins.j0 k t118 t120 t121 true (Go.bits .or .i64 t118 (shl .i64 1 (ji11))) bt122.1 bt122.2 t125 (wrap64 (t124 - 1))) else (dynamolaw21_GraphJoins.j0 k t118 t120 t121 true (Go.bits .or .i64 t118 (shl .i64 1 (ji11))) bt122.1 bt122.2 t125 t124)) else (none)))))) else (none)) = some true := by first | (rw [hji11] at H; exact H) | (simp only [hji11] at H ⊢; exact H)
  (try rw [hji11] at A5)
  (try rw [hji11] at A7)
  (try rw [hji11] at A8)
  (try rw [hji11] at A9)
  (try rw [hji11] at A10)
  by_cases c12 : 0 ≤ (ji11)
  ·rw [if_pos c12] at H
   have c12b0 := eq_true c12
   have c12b1 : decide (0 ≤ (ji11)) = true := decide_eq_true c12
   clear c12
   obtain ⟨ji13, hji13⟩ : ∃ j_ : Int, (shl .i64 1 (ji11)) = j_ := ⟨_, rfl⟩
   replace H : ((graph_Ends.f t119).bind fun bt122 => ((graph_Parts.f k t118).bind fun t124 => ((graph_Parts.f k (Go.bits .or .i64 t118 (ji13))).bind fun t125 => ((graph_Reach.f k t118 bt122.1).bind fun t126 => (if 0 ≤ (IntKind.u64.wrap (bt122.2)) then (if (Go.bits .and .i64 (shr .i64 t126 (IntKind.u64.wrap (bt122.2))) 1) = 0 then (dynamolaw21_GraphJoins.j0 k t118 t120 t121 true (Go.bits .or .i64 t118 (ji13)) bt122.1 bt122.2 t125 (wrap64 (t124 - 1))) else (dynamolaw21_GraphJoins.j0 k t118 t120 t121 true (Go.bits .or .i64 t118 (ji13)) bt122.1 bt122.2 t125 t124)) else (none)))))) = some true := by first | (rw [hji13] at H; exact H) | (simp only [hji13] at H ⊢; exact H)
   (try rw [hji13] at A5)
   (try rw [hji13] at A7)
   (try rw [hji13] at A8)
   (try rw [hji13] at A9)
   (try rw [hji13] at A10)
   have hji13_ : (IntKind.i64.wrap (1 * 2 ^ min (ji11).toNat 64)) = ji13 := hji13
   have hji13z : (ji11) ≤ 64 → (IntKind.i64.wrap (1 * 2 ^ (ji11).toNat)) = ji13 := shl_small hji13
   have hji13u : (IntKind.i64.wrap (2 ^ min (ji11).toNat 64)) = ji13 := by have h_ := hji13_; rw [Int.one_mul] at h_; exact h_
   have hji13v : (ji11) ≤ 64 → (IntKind.i64.wrap (2 ^ (ji11).toNat)) = ji13 := fun hle_ => by have h_ := hji13z hle_; rw [Int.one_mul] at h_; exact h_
   have hji13y : (wrap64 (1 * 2 ^ min (ji11).toNat 64)) = ji13 := (i64_w _).symm.trans hji13_
   have hji13x : (ji11) ≤ 64 → (wrap64 (1 * 2 ^ (ji11).toNat)) = ji13 := fun h_ => (i64_w _).symm.trans (hji13z h_)
   replace H := Option.bind_eq_some_iff.mp H
   obtain ⟨⟨t122, t123⟩, A140, H⟩ := H
   replace H : ((graph_Parts.f k t118).bind fun t124 => ((graph_Parts.f k (Go.bits .or .i64 t118 (ji13))).bind fun t125 => ((graph_Reach.f k t118 t122).bind fun t126 => (if 0 ≤ (IntKind.u64.wrap (t123)) then (if (Go.bits .and .i64 (shr .i64 t126 (IntKind.u64.wrap (t123))) 1) = 0 then (dynamolaw21_GraphJoins.j0 k t118 t120 t121 true (Go.bits .or .i64 t118 (ji13)) t122 t123 t125 (wrap64 (t124 - 1))) else (dynamolaw21_GraphJoins.j0 k t118 t120 t121 true (Go.bits .or .i64 t118 (ji13)) t122 t123 t125 t124)) else (none))))) = some true := H
   have A14 := Aside0.mk A140
   clear A140
   replace H := Option.bind_eq_some_iff.mp H
   obtain ⟨t124, A150, H⟩ := H
   replace H : ((graph_Parts.f k (Go.bits .or .i64 t118 (ji13))).bind fun t125 => ((graph_Reach.f k t118 t122).bind fun t126 => (if 0 ≤ (IntKind.u64.wrap (t123)) then (if (Go.bits .and .i64 (shr .i64 t126 (IntKind.u64.wrap (t123))) 1) = 0 then (dynamolaw21_GraphJoins.j0 k t118 t120 t121 true (Go.bits .or .i64 t118 (ji13)) t122 t123 t125 (wrap64 (t124 - 1))) else (dynamolaw21_GraphJoins.j0 k t118 t120 t121 true (Go.bits .or .i64 t118 (ji13)) t122 t123 t125 t124)) else (none)))) = some true := H
   have A15 := Aside0.mk A150
   clear A150
   replace H := Option.bind_eq_some_iff.mp H
   obtain ⟨t125, A160, H⟩ := H
   replace H : ((graph_Reach.f k t118 t122).bind fun t126 => (if 0 ≤ (IntKind.u64.wrap (t123)) then (if (Go.bits .and .i64 (shr .i64 t126 (IntKind.u64.wrap (t123))) 1) = 0 then (dynamolaw21_GraphJoins.j0 k t118 t120 t121 true (Go.bits .or .i64 t118 (ji13)) t122 t123 t125 (wrap64 (t124 - 1))) else (dynamolaw21_GraphJoins.j0 k t118 t120 t121 true (Go.bits .or .i64 t118 (ji13)) t122 t123 t125 t124)) else (none))) = some true := H
   have A16 := Aside0.mk A160
   clear A160
   replace H := Option.bind_eq_some_iff.mp H
   obtain ⟨t126, A170, H⟩ := H
   replace H : (if 0 ≤ (IntKind.u64.wrap (t123)) then (if (Go.bits .and .i64 (shr .i64 t126 (IntKind.u64.wrap (t123))) 1) = 0 then (dynamolaw21_GraphJoins.j0 k t118 t120 t121 true (Go.bits .or .i64 t118 (ji13)) t122 t123 t125 (wrap64 (t124 - 1))) else (dynamolaw21_GraphJoins.j0 k t118 t120 t121 true (Go.bits .or .i64 t118 (ji13)) t122 t123 t125 t124)) else (none)) = some true := H
   have A17 := Aside0.mk A170
   clear A170
   obtain ⟨ji18, hji18⟩ : ∃ j_ : Int, (IntKind.u64.wrap (t123)) = j_ := ⟨_, rfl⟩
   replace H : (if 0 ≤ (ji18) then (if (Go.bits .and .i64 (shr .i64 t126 (ji18)) 1) = 0 then (dynamolaw21_GraphJoins.j0 k t118 t120 t121 true (Go.bits .or .i64 t118 (ji13)) t122 t123 t125 (wrap64 (t124 - 1))) else (dynamolaw21_GraphJoins.j0 k t118 t120 t121 true (Go.bits .or .i64 t118 (ji13)) t122 t123 t125 t124)) else (none)) = some true := by first | (rw [hji18] at H; exact H) | (simp only [hji18] at H ⊢; exact H)
   (try rw [hji18] at A5)
   (try rw [hji18] at A7)
   (try rw [hji18] at A8)
   (try rw [hji18] at A9)
   (try rw [hji18] at A10)
   (try rw [hji18] at A14)
   (try rw [hji18] at A15)
   (try rw [hji18] at A16)
   (try rw [hji18] at A17)
   by_cases c19 : 0 ≤ (ji18)
   ·rw [if_pos c19] at H
    have c19b0 := eq_true c19
    have c19b1 : decide (0 ≤ (ji18)) = true := decide_eq_true c19
    clear c19
    obtain ⟨ji20, hji20⟩ : ∃ j_ : Int, (shr .i64 t126 (ji18)) = j_ := ⟨_, rfl⟩
    replace H : (if (Go.bits .and .i64 (ji20) 1) = 0 then (dynamolaw21_GraphJoins.j0 k t118 t120 t121 true (Go.bits .or .i64 t118 (ji13)) t122 t123 t125 (wrap64 (t124 - 1))) else (dynamolaw21_GraphJoins.j0 k t118 t120 t121 true (Go.bits .or .i64 t118 (ji13)) t122 t123 t125 t124)) = some true := by first | (rw [hji20] at H; exact H) | (simp only [hji20] at H ⊢; exact H)
    (try rw [hji20] at A5)
    (try rw [hji20] at A7)
    (try rw [hji20] at A8)
    (try rw [hji20] at A9)
    (try rw [hji20] at A10)
    (try rw [hji20] at A14)
    (try rw [hji20] at A15)
    (try rw [hji20] at A16)
    (try rw [hji20] at A17)
    have hji20_ : (t126 / 2 ^ min (ji18).toNat 64) = ji20 := hji20
    have hji20z : (ji18) ≤ 64 → (t126 / 2 ^ (ji18).toNat) = ji20 := shr_small hji20
    have HC21 := Aside0.mk H
    clear H
    go_enter Tryd.func5, Tryd.ntmps5
    go_upto_if 51 with (first | ((with_reducible refine gate_callee (f := 12) rfl ?_); refine goesL_ (some 17) rfl rfl Tryd.func12 (by kernel_rfl) rfl #[] rfl (by (try simp only [List.map_toArray, List.map_cons, List.map_nil]); first | done | rfl | (simp only [List.length_drop, List.length_take]; rfl)) ?_; (with_reducible refine (dynamolaw21_first.calls k  true _ (by first | exact HG.out | (repeat (first | exact HG.out | apply GLaid.drewN | apply GLaid.drew))) A5.out).mono ?_); rintro e w' ⟨rfl, ⟨nd, rfl⟩⟩; refine ⟨_, rfl, ?_⟩) | ((with_reducible refine gate_callee (f := 13) rfl ?_); refine goesL_ (some 21) rfl rfl Tryd.func13 (by kernel_rfl) rfl #[.int .i64 a0, .int .i64 128] rfl (by (try simp only [List.map_toArray, List.map_cons, List.map_nil]); first | done | rfl | (simp only [List.length_drop, List.length_take]; rfl)) ?_; (with_reducible refine (dynamoworld_Number.calls a0 128 t118 _ A7.out).mono ?_); rintro e w' ⟨rfl, ⟨nd, rfl⟩⟩; refine ⟨_, rfl, ?_⟩) | ((with_reducible refine gate_callee (f := 13) rfl ?_); refine goesL_ (some 23) rfl rfl Tryd.func13 (by kernel_rfl) rfl #[.int .i64 a1, .int .i64 7] rfl (by (try simp only [List.map_toArray, List.map_cons, List.map_nil]); first | done | rfl | (simp only [List.length_drop, List.length_take]; rfl)) ?_; (with_reducible refine (dynamoworld_Number.calls a1 7 t119 _ A8.out).mono ?_); rintro e w' ⟨rfl, ⟨nd, rfl⟩⟩; refine ⟨_, rfl, ?_⟩) | ((with_reducible refine gate_callee (f := 13) rfl ?_); refine goesL_ (some 25) rfl rfl Tryd.func13 (by kernel_rfl) rfl #[.int .i64 a2, .int .i64 7] rfl (by (try simp only [List.map_toArray, List.map_cons, List.map_nil]); first | done | rfl | (simp only [List.length_drop, List.length_take]; rfl)) ?_; (with_reducible refine (dynamoworld_Number.calls a2 7 t120 _ A9.out).mono ?_); rintro e w' ⟨rfl, ⟨nd, rfl⟩⟩; refine ⟨_, rfl, ?_⟩) | ((with_reducible refine gate_callee (f := 13) rfl ?_); refine goesL_ (some 27) rfl rfl Tryd.func13 (by kernel_rfl) rfl #[.int .i64 a3, .int .i64 7] rfl (by (try simp only [List.map_toArray, List.map_cons, List.map_nil]); first | done | rfl | (simp only [List.length_drop, List.length_take]; rfl)) ?_; (with_reducible refine (dynamoworld_Number.calls a3 7 t121 _ A10.out).mono ?_); rintro e w' ⟨rfl, ⟨nd, rfl⟩⟩; refine ⟨_, rfl, ?_⟩) | ((with_reducible refine gate_callee (f := 17) rfl ?_); refine goesL_ (some 35) rfl rfl Tryd.func17 (by kernel_rfl) rfl #[.int .i64 t119] rfl (by (try simp only [List.map_toArray, List.map_cons, List.map_nil]); first | done | rfl | (simp only [List.length_drop, List.length_take]; rfl)) ?_; (with_reducible refine (graph_Ends.calls t119 t122 t123 _ A14.out).mono ?_); rintro e w' ⟨rfl, ⟨nd, rfl⟩⟩; refine ⟨_, rfl, ?_⟩) | ((with_reducible refine gate_callee (f := 22) rfl ?_); refine goesL_ (some 39) rfl rfl Tryd.func22 (by kernel_rfl) rfl #[.int .i64 t118] rfl (by (try simp only [List.map_toArray, List.map_cons, List.map_nil]); first | done | rfl | (simp only [List.length_drop, List.length_take]; rfl)) ?_; (with_reducible refine (graph_Parts.calls k t118 t124 _ (by first | exact HG.out | (repeat (first | exact HG.out | apply GLaid.drewN | apply GLaid.drew))) A15.out).mono ?_); rintro e w' ⟨rfl, ⟨nd, rfl⟩⟩; refine ⟨_, rfl, ?_⟩) | ((with_reducible refine gate_callee (f := 22) rfl ?_); refine goesL_ (some 41) rfl rfl Tryd.func22 (by kernel_rfl) rfl #[.int .i64 (Go.bits .or .i64 t118 (ji13))] rfl (by (try simp only [List.map_toArray, List.map_cons, List.map_nil]); first | done | (simp only [hji13]; rfl) | rfl | (simp only [List.length_drop, List.length_take]; rfl)) ?_; (with_reducible refine (graph_Parts.calls k (Go.bits .or .i64 t118 (ji13)) t125 _ (by first | exact HG.out | (repeat (first | exact HG.out | apply GLaid.drewN | apply GLaid.drew))) A16.out).mono ?_); rintro e w' ⟨rfl, ⟨nd, rfl⟩⟩; refine ⟨_, rfl, ?_⟩) | ((with_reducible refine gate_callee (f := 15) rfl ?_); refine goesL_ (some 44) rfl rfl Tryd.func15 (by kernel_rfl) rfl #[.int .i64 t118, .int .i64 t122] rfl (by (try simp only [List.map_toArray, List.map_cons, List.map_nil]); first | done | rfl | (simp only [List.length_drop, List.length_take]; rfl)) ?_; (with_reducible refine (graph_Reach.calls k t118 t122 t126 _ A17.out).mono ?_); rintro e w' ⟨rfl, ⟨nd, rfl⟩⟩; refine ⟨_, rfl, ?_⟩))
    (try simp only [Act.put, List.setIfInBounds_toArray, List.set_cons_zero, List.set_cons_succ])
    go_cut [15, 16] (fun v15 v16 wc => ∃ (kq : Nat) (x16_20 : Int), v16 = .int .i64 x16_20 ∧ Aside0 (dynamolaw21_GraphJoins.j0 kq t118 t120 t121 true (Go.bits .or .i64 t118 (ji13)) t122 t123 t125 x16_20 = some true) ∧ Aside0 (kq ≤ k) ∧ Drawn0 w wc)
    case first =>
     have H := HC21.out
     clear HC21
     by_cases c22 : (Go.bits .and .i64 (ji20) 1) = 0
     ·rw [if_pos c22] at H
      have c22b0 : ((Go.bits .and .i64 (ji20) 1) == 0) = true := beq_iff_eq.mpr c22
      have c22b1 : ((Go.bits .and .i64 (ji20) 1) != 0) = false := bne_eq_false_iff_eq.mpr c22
      clear c22
      (first | rw [c22b0] | (simp only [i64_w, i32_w]; rw [c22b0]) | skip)
      have H' := Aside0.mk H
      clear H
      go_wp2
      go_meet
      case rel => exact ⟨_, (wrap64 (t124 - 1)), (by first | rfl | (simp; done) | (simp [*]; done)), H', ⟨by first | omega | exact Nat.le_refl _⟩, by repeat (first | exact Drawn0.refl _ | apply Drawn0.step)⟩
     ·rw [if_neg c22] at H
      have c22b0 : ((Go.bits .and .i64 (ji20) 1) == 0) = false := beq_eq_false_iff_ne.mpr c22
      have c22b1 : ((Go.bits .and .i64 (ji20) 1) != 0) = true := bne_iff_ne.mpr c22
      (first | rw [c22b0] | (simp only [i64_w, i32_w]; rw [c22b0]) | skip)
      have H' := Aside0.mk H
      clear H
      go_wp2
      go_meet
      case rel => exact ⟨_, (t124), (by first | rfl | (simp; done) | (simp [*]; done)), H', ⟨by first | omega | exact Nat.le_refl _⟩, by repeat (first | exact Drawn0.refl _ | apply Drawn0.step)⟩
    case rest =>
     clear HC21
     try clear c1
     try clear c2
     try clear p2
     try clear c5
     try clear c6
     try clear p6
     try clear c12
     try clear c12b0
     try clear c12b1
     try clear c13
     try clear c15
     try clear c17
     try clear c19
     try clear c19b0
     try clear c19b1
     try clear c22
     try clear c22b0
     try clear c22b1
     obtain ⟨kq, x16_20, rfl, HA, HJ20, ⟨mc20, rfl⟩⟩ := hcut
     cases kq with
     | zero => exact absurd HA.out (by simp [dynamolaw21_GraphJoins.j0])
     | succ kj20 =>
      have H := HA.out
      clear HA
      simp only [dynamolaw21_GraphJoins.j0] at H
      have H1 : ((graph_Reach.f kj20 (Go.bits .or .i64 t118 (ji13)) t122).bind fun t127 => (if 0 ≤ (IntKind.u64.wrap (t123)) then (if (Go.bits .and .i64 (shr .i64 t127 (IntKind.u64.wrap (t123))) 1) = 1 then ((graph_Reach.f kj20 t118 t120).bind fun t128 => ((graph_Reach.f kj20 (Go.bits .or .i64 t118 (ji13)) t120).bind fun t129 => (if (Go.bits .andNot .i64 t128 t129) = 0 then (if t125 = x16_20 then ((graph_Reach.f kj20 t118 t120).bind fun t130 => (if 0 ≤ (IntKind.u64.wrap (t121)) then ((graph_Reach.f kj20 t118 t121).bind fun t131 => (if 0 ≤ (IntKind.u64.wrap (t120)) then (if (((Go.bits .and .i64 (shr .i64 t130 (IntKind.u64.wrap (t121))) 1) == 1) == ((Go.bits .and .i64 (shr .i64 t131 (IntKind.u64.wrap (t120))) 1) == 1)) = true then ((graph_Joined.f kj20 t118).bind fun t132 => (if t132 = true then ((graph_Joined.f kj20 (Go.bits .or .i64 t118 (ji13))).bind fun t133 => (if t133 = true then ((graph_Reach.f kj20 t118 t120).bind fun t134 => (some ((Go.bits .and .i64 (shr .i64 t134 (IntKind.u64.wrap (t120))) 1) == 1))) else (some false))) else ((graph_Reach.f kj20 t118 t120).bind fun t135 => (some ((Go.bits .and .i64 (shr .i64 t135 (IntKind.u64.wrap (t120))) 1) == 1))))) else (some false)) else (none))) else (none))) else (some false)) else (some false)))) else (some false)) else (none))) = some true := by first | (with_reducible exact H) | (rw [if_pos rfl] at H; exact H) | exact H | rfl
      clear H
      have H := H1
      clear H1
      replace H := Option.bind_eq_some_iff.mp H
      obtain ⟨t127, A230, H⟩ := H
      replace H : (if 0 ≤ (IntKind.u64.wrap (t123)) then (if (Go.bits .and .i64 (shr .i64 t127 (IntKind.u64.wrap (t123))) 1) = 1 then ((graph_Reach.f kj20 t118 t120).bind fun t128 => ((graph_Reach.f kj20 (Go.bits .or .i64 t118 (ji13)) t120).bind fun t129 => (if (Go.bits .andNot .i64 t128 t129) = 0 then (if t125 = x16_20 then ((graph_Reach.f kj20 t118 t120).bind fun t130 => (if 0 ≤ (IntKind.u64.wrap (t121)) then ((graph_Reach.f kj20 t118 t121).bind fun t131 => (if 0 ≤ (IntKind.u64.wrap (t120)) then (if (((Go.bits .and .i64 (shr .i64 t130 (IntKind.u64.wrap (t121))) 1) == 1) == ((Go.bits .and .i64 (shr .i64 t131 (IntKind.u64.wrap (t120))) 1) == 1)) = true then ((graph_Joined.f kj20 t118).bind fun t132 => (if t132 = true then ((graph_Joined.f kj20 (Go.bits .or .i64 t118 (ji13))).bind fun t133 => (if t133 = true then ((graph_Reach.f kj20 t118 t120).bind fun t134 => (some ((Go.bits .and .i64 (shr .i64 t134 (IntKind.u64.wrap (t120))) 1) == 1))) else (some false))) else ((graph_Reach.f kj20 t118 t120).bind fun t135 => (some ((Go.bits .and .i64 (shr .i64 t135 (IntKind.u64.wrap (t120))) 1) == 1))))) else (some false)) else (none))) else (none))) else (some false)) else (some false)))) else (some false)) else (none)) = some true := H
      have A23 := Aside0.mk A230
      clear A230
      replace H : (if 0 ≤ (ji18) then (if (Go.bits .and .i64 (shr .i64 t127 (ji18)) 1) = 1 then ((graph_Reach.f kj20 t118 t120).bind fun t128 => ((graph_Reach.f kj20 (Go.bits .or .i64 t118 (ji13)) t120).bind fun t129 => (if (Go.bits .andNot .i64 t128 t129) = 0 then (if t125 = x16_20 then ((graph_Reach.f kj20 t118 t120).bind fun t130 => (if 0 ≤ (IntKind.u64.wrap (t121)) then ((graph_Reach.f kj20 t118 t121).bind fun t131 => (if 0 ≤ (IntKind.u64.wrap (t120)) then (if (((Go.bits .and .i64 (shr .i64 t130 (IntKind.u64.wrap (t121))) 1) == 1) == ((Go.bits .and .i64 (shr .i64 t131 (IntKind.u64.wrap (t120))) 1) == 1)) = true then ((graph_Joined.f kj20 t118).bind fun t132 => (if t132 = true then ((graph_Joined.f kj20 (Go.bits .or .i64 t118 (ji13))).bind fun t133 => (if t133 = true then ((graph_Reach.f kj20 t118 t120).bind fun t134 => (some ((Go.bits .and .i64 (shr .i64 t134 (IntKind.u64.wrap (t120))) 1) == 1))) else (some false))) else ((graph_Reach.f kj20 t118 t120).bind fun t135 => (some ((Go.bits .and .i64 (shr .i64 t135 (IntKind.u64.wrap (t120))) 1) == 1))))) else (some false)) else (none))) else (none))) else (some false)) else (some false)))) else (some false)) else (none)) = some true := by first | (rw [hji18] at H; exact H) | (simp only [hji18] at H ⊢; exact H)
      (try rw [hji18] at A23)
      by_cases c24 : 0 ≤ (ji18)
      ·rw [if_pos c24] at H
       have c24b0 := eq_true c24
       have c24b1 : decide (0 ≤ (ji18)) = true := decide_eq_true c24
       clear c24
       obtain ⟨ji25, hji25⟩ : ∃ j_ : Int, (shr .i64 t127 (ji18)) = j_ := ⟨_, rfl⟩
       replace H : (if (Go.bits .and .i64 (ji25) 1) = 1 then ((graph_Reach.f kj20 t118 t120).bind fun t128 => ((graph_Reach.f kj20 (Go.bits .or .i64 t118 (ji13)) t120).bind fun t129 => (if (Go.bits .andNot .i64 t128 t129) = 0 then (if t125 = x16_20 then ((graph_Reach.f kj20 t118 t120).bind fun t130 => (if 0 ≤ (IntKind.u64.wrap (t121)) then ((graph_Reach.f kj20 t118 t121).bind fun t131 => (if 0 ≤ (IntKind.u64.wrap (t120)) then (if (((Go.bits .and .i64 (shr .i64 t130 (IntKind.u64.wrap (t121))) 1) == 1) == ((Go.bits .and .i64 (shr .i64 t131 (IntKind.u64.wrap (t120))) 1) == 1)) = true then ((graph_Joined.f kj20 t118).bind fun t132 => (if t132 = true then ((graph_Joined.f kj20 (Go.bits .or .i64 t118 (ji13))).bind fun t133 => (if t133 = true then ((graph_Reach.f kj20 t118 t120).bind fun t134 => (some ((Go.bits .and .i64 (shr .i64 t134 (IntKind.u64.wrap (t120))) 1) == 1))) else (some false))) else ((graph_Reach.f kj20 t118 t120).bind fun t135 => (some ((Go.bits .and .i64 (shr .i64 t135 (IntKind.u64.wrap (t120))) 1) == 1))))) else (some false)) else (none))) else (none))) else (some false)) else (some false)))) else (some false)) = some true := by first | (rw [hji25] at H; exact H) | (simp only [hji25] at H ⊢; exact H)
       (try rw [hji25] at A23)
       have hji25_ : (t127 / 2 ^ min (ji18).toNat 64) = ji25 := hji25
       have hji25z : (ji18) ≤ 64 → (t127 / 2 ^ (ji18).toNat) = ji25 := shr_small hji25
       by_cases c26 : (Go.bits .and .i64 (ji25) 1) = 1
       ·rw [if_pos c26] at H
        have c26b0 : ((Go.bits .and .i64 (ji25) 1) == 1) = true := beq_iff_eq.mpr c26
        have c26b1 : ((Go.bits .and .i64 (ji25) 1) != 1) = false := bne_eq_false_iff_eq.mpr c26
        clear c26
        replace H := Option.bind_eq_some_iff.mp H
        obtain ⟨t128, A270, H⟩ := H
        replace H : ((graph_Reach.f kj20 (Go.bits .or .i64 t118 (ji13)) t120).bind fun t129 => (if (Go.bits .andNot .i64 t128 t129) = 0 then (if t125 = x16_20 then ((graph_Reach.f kj20 t118 t120).bind fun t130 => (if 0 ≤ (IntKind.u64.wrap (t121)) then ((graph_Reach.f kj20 t118 t121).bind fun t131 => (if 0 ≤ (IntKind.u64.wrap (t120)) then (if (((Go.bits .and .i64 (shr .i64 t130 (IntKind.u64.wrap (t121))) 1) == 1) == ((Go.bits .and .i64 (shr .i64 t131 (IntKind.u64.wrap (t120))) 1) == 1)) = true then ((graph_Joined.f kj20 t118).bind fun t132 => (if t132 = true then ((graph_Joined.f kj20 (Go.bits .or .i64 t118 (ji13))).bind fun t133 => (if t133 = true then ((graph_Reach.f kj20 t118 t120).bind fun t134 => (some ((Go.bits .and .i64 (shr .i64 t134 (IntKind.u64.wrap (t120))) 1) == 1))) else (some false))) else ((graph_Reach.f kj20 t118 t120).bind fun t135 => (some ((Go.bits .and .i64 (shr .i64 t135 (IntKind.u64.wrap (t120))) 1) == 1))))) else (some false)) else (none))) else (none))) else (some false)) else (some false))) = some true := H
        have A27 := Aside0.mk A270
        clear A270
        replace H := Option.bind_eq_some_iff.mp H
        obtain ⟨t129, A280, H⟩ := H
        replace H : (if (Go.bits .andNot .i64 t128 t129) = 0 then (if t125 = x16_20 then ((graph_Reach.f kj20 t118 t120).bind fun t130 => (if 0 ≤ (IntKind.u64.wrap (t121)) then ((graph_Reach.f kj20 t118 t121).bind fun t131 => (if 0 ≤ (IntKind.u64.wrap (t120)) then (if (((Go.bits .and .i64 (shr .i64 t130 (IntKind.u64.wrap (t121))) 1) == 1) == ((Go.bits .and .i64 (shr .i64 t131 (IntKind.u64.wrap (t120))) 1) == 1)) = true then ((graph_Joined.f kj20 t118).bind fun t132 => (if t132 = true then ((graph_Joined.f kj20 (Go.bits .or .i64 t118 (ji13))).bind fun t133 => (if t133 = true then ((graph_Reach.f kj20 t118 t120).bind fun t134 => (some ((Go.bits .and .i64 (shr .i64 t134 (IntKind.u64.wrap (t120))) 1) == 1))) else (some false))) else ((graph_Reach.f kj20 t118 t120).bind fun t135 => (some ((Go.bits .and .i64 (shr .i64 t135 (IntKind.u64.wrap (t120))) 1) == 1))))) else (some false)) else (none))) else (none))) else (some false)) else (some false)) = some true := H
        have A28 := Aside0.mk A280
        clear A280
        by_cases c29 : (Go.bits .andNot .i64 t128 t129) = 0
        ·rw [if_pos c29] at H
         have c29b0 : ((Go.bits .andNot .i64 t128 t129) == 0) = true := beq_iff_eq.mpr c29
         have c29b1 : ((Go.bits .andNot .i64 t128 t129) != 0) = false := bne_eq_false_iff_eq.mpr c29
         clear c29
         by_cases c30 : t125 = x16_20
         ·rw [if_pos c30] at H
          have c30b0 : (t125 == x16_20) = true := beq_iff_eq.mpr c30
          have c30b1 : (t125 != x16_20) = false := bne_eq_false_iff_eq.mpr c30
          clear c30
          replace H := Option.bind_eq_some_iff.mp H
          obtain ⟨t130, A310, H⟩ := H
          have A311 := Option.some.inj (A27.out.symm.trans A310)
          clear A310
          obtain rfl : t128 = t130 := A311
          replace H : (if 0 ≤ (IntKind.u64.wrap (t121)) then ((graph_Reach.f kj20 t118 t121).bind fun t131 => (if 0 ≤ (IntKind.u64.wrap (t120)) then (if (((Go.bits .and .i64 (shr .i64 t128 (IntKind.u64.wrap (t121))) 1) == 1) == ((Go.bits .and .i64 (shr .i64 t131 (IntKind.u64.wrap (t120))) 1) == 1)) = true then ((graph_Joined.f kj20 t118).bind fun t132 => (if t132 = true then ((graph_Joined.f kj20 (Go.bits .or .i64 t118 (ji13))).bind fun t133 => (if t133 = true then ((graph_Reach.f kj20 t118 t120).bind fun t134 => (some ((Go.bits .and .i64 (shr .i64 t134 (IntKind.u64.wrap (t120))) 1) == 1))) else (some false))) else ((graph_Reach.f kj20 t118 t120).bind fun t135 => (some ((Go.bits .and .i64 (shr .i64 t135 (IntKind.u64.wrap (t120))) 1) == 1))))) else (some false)) else (none))) else (none)) = some true := H
          obtain ⟨ji32, hji32⟩ : ∃ j_ : Int, (IntKind.u64.wrap (t121)) = j_ := ⟨_, rfl⟩
          replace H : (if 0 ≤ (ji32) then ((graph_Reach.f kj20 t118 t121).bind fun t131 => (if 0 ≤ (IntKind.u64.wrap (t120)) then (if (((Go.bits .and .i64 (shr .i64 t128 (ji32)) 1) == 1) == ((Go.bits .and .i64 (shr .i64 t131 (IntKind.u64.wrap (t120))) 1) == 1)) = true then ((graph_Joined.f kj20 t118).bind fun t132 => (if t132 = true then ((graph_Joined.f kj20 (Go.bits .or .i64 t118 (ji13))).bind fun t133 => (if t133 = true then ((graph_Reach.f kj20 t118 t120).bind fun t134 => (some ((Go.bits .and .i64 (shr .i64 t134 (IntKind.u64.wrap (t120))) 1) == 1))) else (some false))) else ((graph_Reach.f kj20 t118 t120).bind fun t135 => (some ((Go.bits .and .i64 (shr .i64 t135 (IntKind.u64.wrap (t120))) 1) == 1))))) else (some false)) else (none))) else (none)) = some true := by first | (rw [hji32] at H; exact H) | (simp only [hji32] at H ⊢; exact H)
          (try rw [hji32] at A23)
          (try rw [hji32] at A27)
          (try rw [hji32] at A28)
          by_cases c33 : 0 ≤ (ji32)
          ·rw [if_pos c33] at H
           have c33b0 := eq_true c33
           have c33b1 : decide (0 ≤ (ji32)) = true := decide_eq_true c33
           clear c33
           obtain ⟨ji34, hji34⟩ : ∃ j_ : Int, (shr .i64 t128 (ji32)) = j_ := ⟨_, rfl⟩
           replace H : ((graph_Reach.f kj20 t118 t121).bind fun t131 => (if 0 ≤ (IntKind.u64.wrap (t120)) then (if (((Go.bits .and .i64 (ji34) 1) == 1) == ((Go.bits .and .i64 (shr .i64 t131 (IntKind.u64.wrap (t120))) 1) == 1)) = true then ((graph_Joined.f kj20 t118).bind fun t132 => (if t132 = true then ((graph_Joined.f kj20 (Go.bits .or .i64 t118 (ji13))).bind fun t133 => (if t133 = true then ((graph_Reach.f kj20 t118 t120).bind fun t134 => (some ((Go.bits .and .i64 (shr .i64 t134 (IntKind.u64.wrap (t120))) 1) == 1))) else (some false))) else ((graph_Reach.f kj20 t118 t120).bind fun t135 => (some ((Go.bits .and .i64 (shr .i64 t135 (IntKind.u64.wrap (t120))) 1) == 1))))) else (some false)) else (none))) = some true := by first | (rw [hji34] at H; exact H) | (simp only [hji34] at H ⊢; exact H)
           (try rw [hji34] at A23)
           (try rw [hji34] at A27)
           (try rw [hji34] at A28)
           have hji34_ : (t128 / 2 ^ min (ji32).toNat 64) = ji34 := hji34
           have hji34z : (ji32) ≤ 64 → (t128 / 2 ^ (ji32).toNat) = ji34 := shr_small hji34
           replace H := Option.bind_eq_some_iff.mp H
           obtain ⟨t131, A350, H⟩ := H
           replace H : (if 0 ≤ (IntKind.u64.wrap (t120)) then (if (((Go.bits .and .i64 (ji34) 1) == 1) == ((Go.bits .and .i64 (shr .i64 t131 (IntKind.u64.wrap (t120))) 1) == 1)) = true then ((graph_Joined.f kj20 t118).bind fun t132 => (if t132 = true then ((graph_Joined.f kj20 (Go.bits .or .i64 t118 (ji13))).bind fun t133 => (if t133 = true then ((graph_Reach.f kj20 t118 t120).bind fun t134 => (some ((Go.bits .and .i64 (shr .i64 t134 (IntKind.u64.wrap (t120))) 1) == 1))) else (some false))) else ((graph_Reach.f kj20 t118 t120).bind fun t135 => (some ((Go.bits .and .i64 (shr .i64 t135 (IntKind.u64.wrap (t120))) 1) == 1))))) else (some false)) else (none)) = some true := H
           have A35 := Aside0.mk A350
           clear A350
           obtain ⟨ji36, hji36⟩ : ∃ j_ : Int, (IntKind.u64.wrap (t120)) = j_ := ⟨_, rfl⟩
           replace H : (if 0 ≤ (ji36) then (if (((Go.bits .and .i64 (ji34) 1) == 1) == ((Go.bits .and .i64 (shr .i64 t131 (ji36)) 1) == 1)) = true then ((graph_Joined.f kj20 t118).bind fun t132 => (if t132 = true then ((graph_Joined.f kj20 (Go.bits .or .i64 t118 (ji13))).bind fun t133 => (if t133 = true then ((graph_Reach.f kj20 t118 t120).bind fun t134 => (some ((Go.bits .and .i64 (shr .i64 t134 (ji36)) 1) == 1))) else (some false))) else ((graph_Reach.f kj20 t118 t120).bind fun t135 => (some ((Go.bits .and .i64 (shr .i64 t135 (ji36)) 1) == 1))))) else (some false)) else (none)) = some true := by first | (rw [hji36] at H; exact H) | (simp only [hji36] at H ⊢; exact H)
           (try rw [hji36] at A23)
           (try rw [hji36] at A27)
           (try rw [hji36] at A28)
           (try rw [hji36] at A35)
           by_cases c37 : 0 ≤ (ji36)
           ·rw [if_pos c37] at H
            have c37b0 := eq_true c37
            have c37b1 : decide (0 ≤ (ji36)) = true := decide_eq_true c37
            clear c37
            obtain ⟨ji38, hji38⟩ : ∃ j_ : Int, (shr .i64 t131 (ji36)) = j_ := ⟨_, rfl⟩
            replace H : (if (((Go.bits .and .i64 (ji34) 1) == 1) == ((Go.bits .and .i64 (ji38) 1) == 1)) = true then ((graph_Joined.f kj20 t118).bind fun t132 => (if t132 = true then ((graph_Joined.f kj20 (Go.bits .or .i64 t118 (ji13))).bind fun t133 => (if t133 = true then ((graph_Reach.f kj20 t118 t120).bind fun t134 => (some ((Go.bits .and .i64 (shr .i64 t134 (ji36)) 1) == 1))) else (some false))) else ((graph_Reach.f kj20 t118 t120).bind fun t135 => (some ((Go.bits .and .i64 (shr .i64 t135 (ji36)) 1) == 1))))) else (some false)) = some true := by first | (rw [hji38] at H; exact H) | (simp only [hji38] at H ⊢; exact H)
            (try rw [hji38] at A23)
            (try rw [hji38] at A27)
            (try rw [hji38] at A28)
            (try rw [hji38] at A35)
            have hji38_ : (t131 / 2 ^ min (ji36).toNat 64) = ji38 := hji38
            have hji38z : (ji36) ≤ 64 → (t131 / 2 ^ (ji36).toNat) = ji38 := shr_small hji38
            by_cases c39 : (((Go.bits .and .i64 (ji34) 1) == 1) == ((Go.bits .and .i64 (ji38) 1) == 1)) = true
            ·rw [if_pos c39] at H
             have c39b0 : (((Go.bits .and .i64 (ji34) 1) == 1) == ((Go.bits .and .i64 (ji38) 1) == 1)) = true := c39
             (try (have c39b1 : decide (((Go.bits .and .i64 (ji34) 1) == 1) = ((Go.bits .and .i64 (ji38) 1) == 1)) = true := by simpa using c39))
             (try (have c39b2 : (((Go.bits .and .i64 (ji34) 1) == 1) == ((Go.bits .and .i64 (ji38) 1) == 1)) = true := by simpa using c39))
             clear c39
             replace H := Option.bind_eq_some_iff.mp H
             obtain ⟨t132, A400, H⟩ := H
             replace H : (if t132 = true then ((graph_Joined.f kj20 (Go.bits .or .i64 t118 (ji13))).bind fun t133 => (if t133 = true then ((graph_Reach.f kj20 t118 t120).bind fun t134 => (some ((Go.bits .and .i64 (shr .i64 t134 (ji36)) 1) == 1))) else (some false))) else ((graph_Reach.f kj20 t118 t120).bind fun t135 => (some ((Go.bits .and .i64 (shr .i64 t135 (ji36)) 1) == 1)))) = some true := H
             have A40 := Aside0.mk A400
             clear A400
             by_cases c41 : t132 = true
             ·subst c41
              have H1 : ((graph_Joined.f kj20 (Go.bits .or .i64 t118 (ji13))).bind fun t133 => (if t133 = true then ((graph_Reach.f kj20 t118 t120).bind fun t134 => (some ((Go.bits .and .i64 (shr .i64 t134 (ji36)) 1) == 1))) else (some false))) = some true := by first | (rw [if_pos rfl] at H; exact H) | exact H | rfl
              clear H
              have H := H1
              clear H1
              replace H := Option.bind_eq_some_iff.mp H
              obtain ⟨t133, A420, H⟩ := H
              replace H : (if t133 = true then ((graph_Reach.f kj20 t118 t120).bind fun t134 => (some ((Go.bits .and .i64 (shr .i64 t134 (ji36)) 1) == 1))) else (some false)) = some true := H
              have A42 := Aside0.mk A420
              clear A420
              by_cases c43 : t133 = true
              ·subst c43
               have H1 : ((graph_Reach.f kj20 t118 t120).bind fun t134 => (some ((Go.bits .and .i64 (shr .i64 t134 (ji36)) 1) == 1))) = some true := by first | (rw [if_pos rfl] at H; exact H) | exact H | rfl
               clear H
               have H := H1
               clear H1
               replace H := Option.bind_eq_some_iff.mp H
               obtain ⟨t134, A440, H⟩ := H
               have A441 := Option.some.inj (A27.out.symm.trans A440)
               clear A440
               obtain rfl : t128 = t134 := A441
               replace H : (some ((Go.bits .and .i64 (shr .i64 t128 (ji36)) 1) == 1)) = some true := H
               have c45b0 := eq_true (of_decide_eq_true (by first | (with_reducible assumption) | assumption) : 0 ≤ (ji36))
               obtain ⟨ji46, hji46⟩ : ∃ j_ : Int, (shr .i64 t128 (ji36)) = j_ := ⟨_, rfl⟩
               replace H : (some ((Go.bits .and .i64 (ji46) 1) == 1)) = some true := by first | (rw [hji46] at H; exact H) | (simp only [hji46] at H ⊢; exact H)
               (try rw [hji46] at A23)
               (try rw [hji46] at A27)
               (try rw [hji46] at A28)
               (try rw [hji46] at A35)
               (try rw [hji46] at A40)
               (try rw [hji46] at A42)
               have hji46_ : (t128 / 2 ^ min (ji36).toNat 64) = ji46 := hji46
               have hji46z : (ji36) ≤ 64 → (t128 / 2 ^ (ji36).toNat) = ji46 := shr_small hji46
               have HLAST := Aside0.mk (Option.some.inj H)
               clear H
               go_wp2_with (first | (go_at_call 15; (with_reducible refine (graph_Reach.calls kj20 (Go.bits .or .i64 t118 (ji13)) t122 t127 _ A23.out).mono ?_); rintro e w' ⟨rfl, ⟨nd, rfl⟩⟩) | (go_at_call 15; (with_reducible refine (graph_Reach.calls kj20 t118 t120 t128 _ A27.out).mono ?_); rintro e w' ⟨rfl, ⟨nd, rfl⟩⟩) | (go_at_call 15; (with_reducible refine (graph_Reach.calls kj20 (Go.bits .or .i64 t118 (ji13)) t120 t129 _ A28.out).mono ?_); rintro e w' ⟨rfl, ⟨nd, rfl⟩⟩) | (go_at_call 15; (with_reducible refine (graph_Reach.calls kj20 t118 t121 t131 _ A35.out).mono ?_); rintro e w' ⟨rfl, ⟨nd, rfl⟩⟩) | (go_at_call 20; (with_reducible refine (graph_Joined.calls kj20 t118 true _ A40.out).mono ?_); rintro e w' ⟨rfl, ⟨nd, rfl⟩⟩) | (go_at_call 20; (with_reducible refine (graph_Joined.calls kj20 (Go.bits .or .i64 t118 (ji13)) true _ A42.out).mono ?_); rintro e w' ⟨rfl, ⟨nd, rfl⟩⟩))
               all_goals (try go_ret)
               all_goals first | (exfalso; simp_all; done) | exact ⟨by first | rfl | (rw [HLAST.out]; done) | (simp [HLAST.out]; done) | (have HL_ := HLAST.out; simp_all; done) | (simp; done) | (simp only [← hji11, ← hji13, ← hji18, ← hji20, ← hji25, ← hji32, ← hji34, ← hji36, ← hji38, ← hji46] <;> (first | rfl | simp)) | (simp [*]; done), by repeat (first | exact Drawn0.refl _ | apply Drawn0.step)⟩
              ·replace c43 := Bool.eq_false_iff.mpr c43
               subst c43
               have H1 : (some false) = some true := by first | (rw [if_neg (show ¬ (false = true) by decide)] at H; exact H) | exact H | rfl
               clear H
               have H := H1
               clear H1
               exact absurd H (by simp)
             ·replace c41 := Bool.eq_false_iff.mpr c41
              subst c41
              have H1 : ((graph_Reach.f kj20 t118 t120).bind fun t135 => (some ((Go.bits .and .i64 (shr .i64 t135 (ji36)) 1) == 1))) = some true := by first | (rw [if_neg (show ¬ (false = true) by decide)] at H; exact H) | exact H | rfl
              clear H
              have H := H1
              clear H1
              replace H := Option.bind_eq_some_iff.mp H
              obtain ⟨t135, A470, H⟩ := H
              have A471 := Option.some.inj (A27.out.symm.trans A470)
              clear A470
              obtain rfl : t128 = t135 := A471
              replace H : (some ((Go.bits .and .i64 (shr .i64 t128 (ji36)) 1) == 1)) = some true := H
              have c48b0 := eq_true (of_decide_eq_true (by first | (with_reducible assumption) | assumption) : 0 ≤ (ji36))
              obtain ⟨ji49, hji49⟩ : ∃ j_ : Int, (shr .i64 t128 (ji36)) = j_ := ⟨_, rfl⟩
              replace H : (some ((Go.bits .and .i64 (ji49) 1) == 1)) = some true := by first | (rw [hji49] at H; exact H) | (simp only [hji49] at H ⊢; exact H)
              (try rw [hji49] at A23)
              (try rw [hji49] at A27)
              (try rw [hji49] at A28)
              (try rw [hji49] at A35)
              (try rw [hji49] at A40)
              have hji49_ : (t128 / 2 ^ min (ji36).toNat 64) = ji49 := hji49
              have hji49z : (ji36) ≤ 64 → (t128 / 2 ^ (ji36).toNat) = ji49 := shr_small hji49
              have HLAST := Aside0.mk (Option.some.inj H)
              clear H
              go_wp2_with (first | (go_at_call 15; (with_reducible refine (graph_Reach.calls kj20 (Go.bits .or .i64 t118 (ji13)) t122 t127 _ A23.out).mono ?_); rintro e w' ⟨rfl, ⟨nd, rfl⟩⟩) | (go_at_call 15; (with_reducible refine (graph_Reach.calls kj20 t118 t120 t128 _ A27.out).mono ?_); rintro e w' ⟨rfl, ⟨nd, rfl⟩⟩) | (go_at_call 15; (with_reducible refine (graph_Reach.calls kj20 (Go.bits .or .i64 t118 (ji13)) t120 t129 _ A28.out).mono ?_); rintro e w' ⟨rfl, ⟨nd, rfl⟩⟩) | (go_at_call 15; (with_reducible refine (graph_Reach.calls kj20 t118 t121 t131 _ A35.out).mono ?_); rintro e w' ⟨rfl, ⟨nd, rfl⟩⟩) | (go_at_call 20; (with_reducible refine (graph_Joined.calls kj20 t118 false _ A40.out).mono ?_); rintro e w' ⟨rfl, ⟨nd, rfl⟩⟩))
              all_goals (try go_ret)
              all_goals first | (exfalso; simp_all; done) | exact ⟨by first | rfl | (rw [HLAST.out]; done) | (simp [HLAST.out]; done) | (have HL_ := HLAST.out; simp_all; done) | (simp; done) | (simp only [← hji11, ← hji13, ← hji18, ← hji20, ← hji25, ← hji32, ← hji34, ← hji36, ← hji38, ← hji49] <;> (first | rfl | simp)) | (simp [*]; done), by repeat (first | exact Drawn0.refl _ | apply Drawn0.step)⟩
            ·rw [if_neg c39] at H
             have c39b0 : (((Go.bits .and .i64 (ji34) 1) == 1) == ((Go.bits .and .i64 (ji38) 1) == 1)) = false := by simpa using c39
             (try (have c39b1 : decide (((Go.bits .and .i64 (ji34) 1) == 1) = ((Go.bits .and .i64 (ji38) 1) == 1)) = false := by simpa using c39))
             (try (have c39b2 : (((Go.bits .and .i64 (ji34) 1) == 1) == ((Go.bits .and .i64 (ji38) 1) == 1)) = false := by simpa using c39))
             (try (have c39b3 : ¬ (((Go.bits .and .i64 (ji34) 1) == 1) = ((Go.bits .and .i64 (ji38) 1) == 1)) := by simpa using c39))
             clear c39
             exact absurd H (by simp)
           ·rw [if_neg c37] at H
            exact absurd H (by simp)
          ·rw [if_neg c33] at H
           exact absurd H (by simp)
         ·rw [if_neg c30] at H
          have c30b0 : (t125 == x16_20) = false := beq_eq_false_iff_ne.mpr c30
          have c30b1 : (t125 != x16_20) = true := bne_iff_ne.mpr c30
          exact absurd H (by simp)
        ·rw [if_neg c29] at H
         have c29b0 : ((Go.bits .andNot .i64 t128 t129) == 0) = false := beq_eq_false_iff_ne.mpr c29
         have c29b1 : ((Go.bits .andNot .i64 t128 t129) != 0) = true := bne_iff_ne.mpr c29
         exact absurd H (by simp)
       ·rw [if_neg c26] at H
        have c26b0 : ((Go.bits .and .i64 (ji25) 1) == 1) = false := beq_eq_false_iff_ne.mpr c26
        have c26b1 : ((Go.bits .and .i64 (ji25) 1) != 1) = true := bne_iff_ne.mpr c26
        exact absurd H (by simp)
      ·rw [if_neg c24] at H
       exact absurd H (by simp)
   ·rw [if_neg c19] at H
    exact absurd H (by simp)
  ·rw [if_neg c12] at H
   exact absurd H (by simp)
 ·replace c6 := Bool.eq_false_iff.mpr c6
  subst c6
  have H1 : (some false) = some true := by first | (rw [if_neg (show ¬ (false = true) by decide)] at H; exact H) | exact H | rfl
  clear H
  have H := H1
  clear H1
  exact absurd H (by simp)

/-- THE ONE PURE STATEMENT of dynamolaw21_GraphJoins: yours. -/
def dynamolaw21_GraphJoins.Pure : Prop := ∀ (a0 : Int) (a1 : Int) (a2 : Int) (a3 : Int), (Lit.int .i64 a0).wf = true → (Lit.int .i64 a1).wf = true → (Lit.int .i64 a2).wf = true → (Lit.int .i64 a3).wf = true → ∃ k, dynamolaw21_GraphJoins.f k a0 a1 a2 a3 = some true
theorem dynamolaw21_GraphJoins.walk (P : dynamolaw21_GraphJoins.Pure) (a0 : Int) (a1 : Int) (a2 : Int) (a3 : Int) (w : World) (hG : GLaid w) (w0 : (Lit.int .i64 a0).wf = true) (w1 : (Lit.int .i64 a1).wf = true) (w2 : (Lit.int .i64 a2).wf = true) (w3 : (Lit.int .i64 a3).wf = true) :
  Calls Tryd.prog 5 #[.int .i64 a0, .int .i64 a1, .int .i64 a2, .int .i64 a3] w fun e w' => e = .returned (.bool true) ∧ Below w.heap.size w w' := by
 obtain ⟨k, h⟩ := P a0 a1 a2 a3 w0 w1 w2 w3
 refine (dynamolaw21_GraphJoins.calls k a0 a1 a2 a3 w hG h).mono ?_
 rintro e w' ⟨rfl, hd⟩
 exact ⟨rfl, hd.below⟩

end Go.Proofs.YtjmggdccmggboabDoor.PGraphJoins
