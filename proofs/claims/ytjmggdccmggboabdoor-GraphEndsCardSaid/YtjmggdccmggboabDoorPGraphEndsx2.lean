-- written by this work with wip/mkprint2.py
import Derived.Test.YtjmggdccmggboabDoorPGraphEndsx0
import Derived.Test.YtjmggdccmggboabDoorPGraphEndsx1
namespace Go.Proofs.YtjmggdccmggboabDoor.PGraphEnds
open Go.RowKit Go.Proofs.YtjmggdccmggboabDoorW.PrintWords Go.Proofs.YtjmggdccmggboabDoorW.PrintLast Go.Proofs.YtjmggdccmggboabDoorW.PrintMore
attribute [local go_sem] max2_int min2_int max_two min_two max_three min_three max_four min_four   -- for this text's walks alone
set_option linter.unusedVariables false
set_option linter.unusedSimpArgs false
open Go.Proofs.YtjmggdccmggboabDoor.Tz

/-! ### graph_Joined: function 20 -/
def graph_Joined.l0 : Nat → Int → Int → Option (Bool)
 | 0, _, _ => none
 | k + 1, x0, x4 => if x4 < 4 then ((graph_fed.f k x0 x4).bind fun t115 => ((bits_OnesCount.f (IntKind.u64.wrap (t115))).bind fun t116 => (if t116 > 1 then (some true) else (graph_Joined.l0 k x0 (wrap64 (x4 + 1)))))) else (some false)
def graph_Joined.f (k : Nat) (a0 : Int) : Option (Bool) := graph_Joined.l0 k a0 0
theorem graph_Joined.mono_l : ∀ k, (∀ y0 y1, LeO (graph_Joined.l0 k y0 y1) (graph_Joined.l0 (k + 1) y0 y1))
 | 0 => fun _ _ r h => by simp [graph_Joined.l0] at h
 | k + 1 => by
  have ih0 := graph_Joined.mono_l k
  ·intro y0 y1
   unfold graph_Joined.l0
   repeat' first
   | (with_reducible exact ih0 _ _)
   | (with_reducible exact graph_fed.mono _ _ _)
   | (with_reducible exact LeO.refl _)
   | (with_reducible exact LeO.none _)
   | (with_reducible refine LeO.ite ?_ ?_)
   | (with_reducible refine LeO.bind ?_ (fun _ => ?_))
   | exact ih0 _ _
   | exact graph_fed.mono _ _ _
   | exact LeO.none _
   | refine LeO.ite ?_ ?_
   | refine LeO.bind ?_ (fun _ => ?_)
theorem graph_Joined.mono : ∀ a0 k, LeO (graph_Joined.f k a0) (graph_Joined.f (k + 1) a0) := by
 intro a0 k
 have ih0 := graph_Joined.mono_l k
 unfold graph_Joined.f
 repeat' first
   | (with_reducible exact ih0 _ _)
   | (with_reducible exact graph_fed.mono _ _ _)
   | (with_reducible exact LeO.refl _)
   | (with_reducible exact LeO.none _)
   | (with_reducible refine LeO.ite ?_ ?_)
   | (with_reducible refine LeO.bind ?_ (fun _ => ?_))
   | exact ih0 _ _
   | exact graph_fed.mono _ _ _
   | exact LeO.none _
   | refine LeO.ite ?_ ?_
   | refine LeO.bind ?_ (fun _ => ?_)
set_option maxHeartbeats 8000000 in
set_option maxRecDepth 100000 in
theorem graph_Joined.calls (k : Nat) (a0 : Int) (r : Bool) (w : World) (h : graph_Joined.f k a0 = some r) :
  Calls Tryd.prog 20 #[.int .i64 a0] w fun e w' => e = .returned (.bool r) ∧ Drawn0 w w' := by
 have H : (graph_Joined.l0 k a0 0) = some r := h
 clear h
 have H' := Aside0.mk H
 clear H
 go_enter Tryd.func20, Tryd.ntmps20
 go_wp2
 go_loopg [4] k (fun kq v4 w' => ∃ (x4_1 : Int), v4 = .int .i64 x4_1 ∧ Aside0 (graph_Joined.l0 kq a0 x4_1 = some r) ∧ Aside0 (kq ≤ k) ∧ Drawn0 w w')
 case atStart => exact ⟨(0), (by first | rfl | (simp; done) | (simp [*]; done)), H', ⟨Nat.le_refl _⟩, by repeat (first | exact Drawn0.refl _ | apply Drawn0.step)⟩
 case round =>
  clear H'
  obtain ⟨x4_1, rfl, HA, HK1, ⟨m1, rfl⟩⟩ := hrel
  cases gk with
  | zero => exact absurd HA.out (by simp [graph_Joined.l0])
  | succ k1 =>
   have H := HA.out
   clear HA
   simp only [graph_Joined.l0] at H
   by_cases c2 : x4_1 < 4
   ·rw [if_pos c2] at H
    have c2b0 : decide (x4_1 < 4) = true := decide_eq_true c2
    clear c2
    replace H := Option.bind_eq_some_iff.mp H
    obtain ⟨t115, A30, H⟩ := H
    replace H : ((bits_OnesCount.f (IntKind.u64.wrap (t115))).bind fun t116 => (if t116 > 1 then (some true) else (graph_Joined.l0 k1 a0 (wrap64 (x4_1 + 1))))) = some r := H
    have A3 := Aside0.mk A30
    clear A30
    replace H := Option.bind_eq_some_iff.mp H
    obtain ⟨t116, A40, H⟩ := H
    replace H : (if t116 > 1 then (some true) else (graph_Joined.l0 k1 a0 (wrap64 (x4_1 + 1)))) = some r := H
    have A4 := Aside0.mk A40
    clear A40
    by_cases c5 : t116 > 1
    ·rw [if_pos c5] at H
     have c5b0 : decide (1 < t116) = true := decide_eq_true c5
     clear c5
     obtain rfl := Option.some.inj H
     go_wp2_with (first | ((with_reducible refine gate_callee (f := 36) rfl ?_); refine goesL_ (some 9) rfl rfl Tryd.func36 (by kernel_rfl) rfl #[.int .i64 a0, .int .i64 x4_1] rfl (by (try simp only [List.map_toArray, List.map_cons, List.map_nil]); first | done | rfl | (simp only [List.length_drop, List.length_take]; rfl)) ?_; (with_reducible refine (graph_fed.calls k1 a0 x4_1 t115 _ A3.out).mono ?_); rintro e w' ⟨rfl, ⟨nd, rfl⟩⟩; refine ⟨_, rfl, ?_⟩) | ((with_reducible refine gate_callee (f := 37) rfl ?_); refine goesL_ (some 11) rfl rfl Tryd.func37 (by kernel_rfl) rfl #[.int .u64 (IntKind.u64.wrap (t115))] rfl (by (try simp only [List.map_toArray, List.map_cons, List.map_nil]); first | done | rfl | (simp only [List.length_drop, List.length_take]; rfl)) ?_; (with_reducible refine (bits_OnesCount.calls (IntKind.u64.wrap (t115)) t116 _ A4.out).mono ?_); rintro e w' ⟨rfl, ⟨nd, rfl⟩⟩; refine ⟨_, rfl, ?_⟩))
     go_ret
     exact ⟨by first | rfl | (rw [HLAST.out]; done) | (simp [HLAST.out]; done) | (have HL_ := HLAST.out; simp_all; done) | (simp; done) | (simp [*]; done), by repeat (first | exact Drawn0.refl _ | apply Drawn0.step)⟩
    ·rw [if_neg c5] at H
     have c5b0 : decide (1 < t116) = false := decide_eq_false c5
     clear c5
     have H' := Aside0.mk H
     clear H
     go_wp2_with (first | ((with_reducible refine gate_callee (f := 36) rfl ?_); refine goesL_ (some 9) rfl rfl Tryd.func36 (by kernel_rfl) rfl #[.int .i64 a0, .int .i64 x4_1] rfl (by (try simp only [List.map_toArray, List.map_cons, List.map_nil]); first | done | rfl | (simp only [List.length_drop, List.length_take]; rfl)) ?_; (with_reducible refine (graph_fed.calls k1 a0 x4_1 t115 _ A3.out).mono ?_); rintro e w' ⟨rfl, ⟨nd, rfl⟩⟩; refine ⟨_, rfl, ?_⟩) | ((with_reducible refine gate_callee (f := 37) rfl ?_); refine goesL_ (some 11) rfl rfl Tryd.func37 (by kernel_rfl) rfl #[.int .u64 (IntKind.u64.wrap (t115))] rfl (by (try simp only [List.map_toArray, List.map_cons, List.map_nil]); first | done | rfl | (simp only [List.length_drop, List.length_take]; rfl)) ?_; (with_reducible refine (bits_OnesCount.calls (IntKind.u64.wrap (t115)) t116 _ A4.out).mono ?_); rintro e w' ⟨rfl, ⟨nd, rfl⟩⟩; refine ⟨_, rfl, ?_⟩))
     go_roundg k1
     case measure => have := HK1.out; omega
     case rel => exact ⟨(wrap64 (x4_1 + 1)), (by first | rfl | (simp; done) | (simp [*]; done)), H', ⟨by have := HK1.out; omega⟩, by repeat (first | exact Drawn0.refl _ | apply Drawn0.step)⟩
   ·rw [if_neg c2] at H
    have c2b0 : decide (x4_1 < 4) = false := decide_eq_false c2
    clear c2
    obtain rfl := Option.some.inj H
    go_wp2
    go_ret
    exact ⟨by first | rfl | (rw [HLAST.out]; done) | (simp [HLAST.out]; done) | (have HL_ := HLAST.out; simp_all; done) | (simp; done) | (simp [*]; done), by repeat (first | exact Drawn0.refl _ | apply Drawn0.step)⟩

/-! ### dynamolaw21_GraphEnds: function 6 -/
mutual
def dynamolaw21_GraphEnds.j0 : Nat → Int → Int → Bool → Int → Int → Bool → Option (Bool)
 | 0, _, _, _, _, _, _ => none
 | k + 1, x0, x1, x5, x6, x7, x41 => if x41 = true then (some false) else (if 0 ≤ (IntKind.u64.wrap (x0)) then (dynamolaw21_GraphEnds.l0 k x1 x5 x6 x7 (shl .i64 1 (IntKind.u64.wrap (x0))) 0) else (none))
def dynamolaw21_GraphEnds.l0 : Nat → Int → Bool → Int → Int → Int → Int → Option (Bool)
 | 0, _, _, _, _, _, _ => none
 | k + 1, x1, x5, x6, x7, x8, x9 => if x9 < 7 then (if 0 ≤ (IntKind.u64.wrap (x9)) then (if x9 = x6 then (dynamolaw21_GraphEnds.j2 k x1 x5 x6 x7 x8 x9 (shl .i64 1 (IntKind.u64.wrap (x9))) true) else (dynamolaw21_GraphEnds.j2 k x1 x5 x6 x7 x8 x9 (shl .i64 1 (IntKind.u64.wrap (x9))) (x9 == x7))) else (none)) else ((dynamoworld_Number.f x1 1000).bind fun t123 => ((graph_Ends.f (wrap64 (7 + t123))).bind fun bt124 => (if x5 = true then (if bt124.1 = (-1) then (if bt124.2 = (-1) then ((graph_Parts.f k x8).bind fun t126 => (if t126 = 6 then ((graph_Parts.f k 127).bind fun t127 => (if t127 = 1 then ((graph_Joined.f k 127).bind fun t128 => (if t128 = true then ((graph_Joined.f k x8).bind fun t129 => (if t129 = true then (some false) else ((graph_Reach.f k 127 7).bind fun t130 => (some (t130 == 0))))) else (some false))) else (some false))) else (some false))) else (some false)) else (some false)) else (some false))))
def dynamolaw21_GraphEnds.j2 : Nat → Int → Bool → Int → Int → Int → Int → Int → Bool → Option (Bool)
 | 0, _, _, _, _, _, _, _, _ => none
 | k + 1, x1, x5, x6, x7, x8, x9, x10, x59 => if x59 = true then (if 0 ≤ (IntKind.u64.wrap (x6)) then (if 0 ≤ (IntKind.u64.wrap (x7)) then (dynamolaw21_GraphEnds.j3 k x1 x5 x6 x7 x8 x9 (Go.bits .or .i64 (shl .i64 1 (IntKind.u64.wrap (x6))) (shl .i64 1 (IntKind.u64.wrap (x7))))) else (none)) else (none)) else (dynamolaw21_GraphEnds.j3 k x1 x5 x6 x7 x8 x9 x10)
def dynamolaw21_GraphEnds.j3 : Nat → Int → Bool → Int → Int → Int → Int → Int → Option (Bool)
 | 0, _, _, _, _, _, _, _ => none
 | k + 1, x1, x5, x6, x7, x8, x9, x10 => (graph_Reach.f k x8 x9).bind fun t121 => (if t121 = x10 then ((graph_Reach.f k 0 x9).bind fun t122 => (if 0 ≤ (IntKind.u64.wrap (x9)) then (if t122 = (shl .i64 1 (IntKind.u64.wrap (x9))) then (dynamolaw21_GraphEnds.l0 k x1 x5 x6 x7 x8 (wrap64 (x9 + 1))) else (some false)) else (none))) else (some false))
end
def dynamolaw21_GraphEnds.f (k : Nat) (a0 : Int) (a1 : Int) : Option (Bool) := (dynamolaw21_first.f k).bind fun t117 => (if t117 = true then ((dynamoworld_Number.f a0 7).bind fun t118 => ((graph_Ends.f t118).bind fun bt119 => (if bt119.1 < 0 then (dynamolaw21_GraphEnds.j0 k t118 a1 t117 bt119.1 bt119.2 true) else (if bt119.2 < 0 then (dynamolaw21_GraphEnds.j0 k t118 a1 t117 bt119.1 bt119.2 true) else (if bt119.1 = bt119.2 then (dynamolaw21_GraphEnds.j0 k t118 a1 t117 bt119.1 bt119.2 true) else (if bt119.1 > 6 then (dynamolaw21_GraphEnds.j0 k t118 a1 t117 bt119.1 bt119.2 true) else (dynamolaw21_GraphEnds.j0 k t118 a1 t117 bt119.1 bt119.2 (decide (bt119.2 > 6))))))))) else (some false))
theorem dynamolaw21_GraphEnds.mono_l : ∀ k, (∀ y0 y1 y2 y3 y4 y5, LeO (dynamolaw21_GraphEnds.j0 k y0 y1 y2 y3 y4 y5) (dynamolaw21_GraphEnds.j0 (k + 1) y0 y1 y2 y3 y4 y5)) ∧ (∀ y0 y1 y2 y3 y4 y5, LeO (dynamolaw21_GraphEnds.l0 k y0 y1 y2 y3 y4 y5) (dynamolaw21_GraphEnds.l0 (k + 1) y0 y1 y2 y3 y4 y5)) ∧ (∀ y0 y1 y2 y3 y4 y5 y6 y7, LeO (dynamolaw21_GraphEnds.j2 k y0 y1 y2 y3 y4 y5 y6 y7) (dynamolaw21_GraphEnds.j2 (k + 1) y0 y1 y2 y3 y4 y5 y6 y7)) ∧ (∀ y0 y1 y2 y3 y4 y5 y6, LeO (dynamolaw21_GraphEnds.j3 k y0 y1 y2 y3 y4 y5 y6) (dynamolaw21_GraphEnds.j3 (k + 1) y0 y1 y2 y3 y4 y5 y6))
 | 0 => ⟨fun _ _ _ _ _ _ r h => by simp [dynamolaw21_GraphEnds.j0] at h, fun _ _ _ _ _ _ r h => by simp [dynamolaw21_GraphEnds.l0] at h, fun _ _ _ _ _ _ _ _ r h => by simp [dynamolaw21_GraphEnds.j2] at h, fun _ _ _ _ _ _ _ r h => by simp [dynamolaw21_GraphEnds.j3] at h⟩
 | k + 1 => by
  obtain ⟨ih0, ih1, ih2, ih3⟩ := dynamolaw21_GraphEnds.mono_l k
  refine ⟨?_, ?_, ?_, ?_⟩
  ·intro y0 y1 y2 y3 y4 y5
   unfold dynamolaw21_GraphEnds.j0
   repeat' first
   | (with_reducible exact ih0 _ _ _ _ _ _)
   | (with_reducible exact ih1 _ _ _ _ _ _)
   | (with_reducible exact ih2 _ _ _ _ _ _ _ _)
   | (with_reducible exact ih3 _ _ _ _ _ _ _)
   | (with_reducible exact dynamolaw21_first.mono _)
   | (with_reducible exact graph_Joined.mono _ _)
   | (with_reducible exact graph_Parts.mono _ _)
   | (with_reducible exact graph_Reach.mono _ _ _)
   | (with_reducible exact LeO.refl _)
   | (with_reducible exact LeO.none _)
   | (with_reducible refine LeO.ite ?_ ?_)
   | (with_reducible refine LeO.bind ?_ (fun _ => ?_))
   | exact ih0 _ _ _ _ _ _
   | exact ih1 _ _ _ _ _ _
   | exact ih2 _ _ _ _ _ _ _ _
   | exact ih3 _ _ _ _ _ _ _
   | exact dynamolaw21_first.mono _
   | exact graph_Joined.mono _ _
   | exact graph_Parts.mono _ _
   | exact graph_Reach.mono _ _ _
   | exact LeO.none _
   | refine LeO.ite ?_ ?_
   | refine LeO.bind ?_ (fun _ => ?_)
  ·intro y0 y1 y2 y3 y4 y5
   unfold dynamolaw21_GraphEnds.l0
   repeat' first
   | (with_reducible exact ih0 _ _ _ _ _ _)
   | (with_reducible exact ih1 _ _ _ _ _ _)
   | (with_reducible exact ih2 _ _ _ _ _ _ _ _)
   | (with_reducible exact ih3 _ _ _ _ _ _ _)
   | (with_reducible exact dynamolaw21_first.mono _)
   | (with_reducible exact graph_Joined.mono _ _)
   | (with_reducible exact graph_Parts.mono _ _)
   | (with_reducible exact graph_Reach.mono _ _ _)
   | (with_reducible exact LeO.refl _)
   | (with_reducible exact LeO.none _)
   | (with_reducible refine LeO.ite ?_ ?_)
   | (with_reducible refine LeO.bind ?_ (fun _ => ?_))
   | exact ih0 _ _ _ _ _ _
   | exact ih1 _ _ _ _ _ _
   | exact ih2 _ _ _ _ _ _ _ _
   | exact ih3 _ _ _ _ _ _ _
   | exact dynamolaw21_first.mono _
   | exact graph_Joined.mono _ _
   | exact graph_Parts.mono _ _
   | exact graph_Reach.mono _ _ _
   | exact LeO.none _
   | refine LeO.ite ?_ ?_
   | refine LeO.bind ?_ (fun _ => ?_)
  ·intro y0 y1 y2 y3 y4 y5 y6 y7
   unfold dynamolaw21_GraphEnds.j2
   repeat' first
   | (with_reducible exact ih0 _ _ _ _ _ _)
   | (with_reducible exact ih1 _ _ _ _ _ _)
   | (with_reducible exact ih2 _ _ _ _ _ _ _ _)
   | (with_reducible exact ih3 _ _ _ _ _ _ _)
   | (with_reducible exact dynamolaw21_first.mono _)
   | (with_reducible exact graph_Joined.mono _ _)
   | (with_reducible exact graph_Parts.mono _ _)
   | (with_reducible exact graph_Reach.mono _ _ _)
   | (with_reducible exact LeO.refl _)
   | (with_reducible exact LeO.none _)
   | (with_reducible refine LeO.ite ?_ ?_)
   | (with_reducible refine LeO.bind ?_ (fun _ => ?_))
   | exact ih0 _ _ _ _ _ _
   | exact ih1 _ _ _ _ _ _
   | exact ih2 _ _ _ _ _ _ _ _
   | exact ih3 _ _ _ _ _ _ _
   | exact dynamolaw21_first.mono _
   | exact graph_Joined.mono _ _
   | exact graph_Parts.mono _ _
   | exact graph_Reach.mono _ _ _
   | exact LeO.none _
   | refine LeO.ite ?_ ?_
   | refine LeO.bind ?_ (fun _ => ?_)
  ·intro y0 y1 y2 y3 y4 y5 y6
   unfold dynamolaw21_GraphEnds.j3
   repeat' first
   | (with_reducible exact ih0 _ _ _ _ _ _)
   | (with_reducible exact ih1 _ _ _ _ _ _)
   | (with_reducible exact ih2 _ _ _ _ _ _ _ _)
   | (with_reducible exact ih3 _ _ _ _ _ _ _)
   | (with_reducible exact dynamolaw21_first.mono _)
   | (with_reducible exact graph_Joined.mono _ _)
   | (with_reducible exact graph_Parts.mono _ _)
   | (with_reducible exact graph_Reach.mono _ _ _)
   | (with_reducible exact LeO.refl _)
   | (with_reducible exact LeO.none _)
   | (with_reducible refine LeO.ite ?_ ?_)
   | (with_reducible refine LeO.bind ?_ (fun _ => ?_))
   | exact ih0 _ _ _ _ _ _
   | exact ih1 _ _ _ _ _ _
   | exact ih2 _ _ _ _ _ _ _ _
   | exact ih3 _ _ _ _ _ _ _
   | exact dynamolaw21_first.mono _
   | exact graph_Joined.mono _ _
   | exact graph_Parts.mono _ _
   | exact graph_Reach.mono _ _ _
   | exact LeO.none _
   | refine LeO.ite ?_ ?_
   | refine LeO.bind ?_ (fun _ => ?_)
theorem dynamolaw21_GraphEnds.mono : ∀ a0 a1 k, LeO (dynamolaw21_GraphEnds.f k a0 a1) (dynamolaw21_GraphEnds.f (k + 1) a0 a1) := by
 intro a0 a1 k
 obtain ⟨ih0, ih1, ih2, ih3⟩ := dynamolaw21_GraphEnds.mono_l k
 unfold dynamolaw21_GraphEnds.f
 repeat' first
   | (with_reducible exact ih0 _ _ _ _ _ _)
   | (with_reducible exact ih1 _ _ _ _ _ _)
   | (with_reducible exact ih2 _ _ _ _ _ _ _ _)
   | (with_reducible exact ih3 _ _ _ _ _ _ _)
   | (with_reducible exact dynamolaw21_first.mono _)
   | (with_reducible exact graph_Joined.mono _ _)
   | (with_reducible exact graph_Parts.mono _ _)
   | (with_reducible exact graph_Reach.mono _ _ _)
   | (with_reducible exact LeO.refl _)
   | (with_reducible exact LeO.none _)
   | (with_reducible refine LeO.ite ?_ ?_)
   | (with_reducible refine LeO.bind ?_ (fun _ => ?_))
   | exact ih0 _ _ _ _ _ _
   | exact ih1 _ _ _ _ _ _
   | exact ih2 _ _ _ _ _ _ _ _
   | exact ih3 _ _ _ _ _ _ _
   | exact dynamolaw21_first.mono _
   | exact graph_Joined.mono _ _
   | exact graph_Parts.mono _ _
   | exact graph_Reach.mono _ _ _
   | exact LeO.none _
   | refine LeO.ite ?_ ?_
   | refine LeO.bind ?_ (fun _ => ?_)
set_option maxHeartbeats 8000000 in
set_option maxRecDepth 100000 in
theorem dynamolaw21_GraphEnds.calls (k : Nat) (a0 : Int) (a1 : Int) (w : World) (hG : GLaid w) (h : dynamolaw21_GraphEnds.f k a0 a1 = some true) :
  Calls Tryd.prog 6 #[.int .i64 a0, .int .i64 a1] w fun e w' => e = .returned (.bool true) ∧ Drawn0 w w' := by
 have HG := Aside0.mk hG
 clear hG
 have H : ((dynamolaw21_first.f k).bind fun t117 => (if t117 = true then ((dynamoworld_Number.f a0 7).bind fun t118 => ((graph_Ends.f t118).bind fun bt119 => (if bt119.1 < 0 then (dynamolaw21_GraphEnds.j0 k t118 a1 t117 bt119.1 bt119.2 true) else (if bt119.2 < 0 then (dynamolaw21_GraphEnds.j0 k t118 a1 t117 bt119.1 bt119.2 true) else (if bt119.1 = bt119.2 then (dynamolaw21_GraphEnds.j0 k t118 a1 t117 bt119.1 bt119.2 true) else (if bt119.1 > 6 then (dynamolaw21_GraphEnds.j0 k t118 a1 t117 bt119.1 bt119.2 true) else (dynamolaw21_GraphEnds.j0 k t118 a1 t117 bt119.1 bt119.2 (decide (bt119.2 > 6))))))))) else (some false))) = some true := h
 clear h
 replace H := Option.bind_eq_some_iff.mp H
 obtain ⟨t117, A30, H⟩ := H
 replace H : (if t117 = true then ((dynamoworld_Number.f a0 7).bind fun t118 => ((graph_Ends.f t118).bind fun bt119 => (if bt119.1 < 0 then (dynamolaw21_GraphEnds.j0 k t118 a1 t117 bt119.1 bt119.2 true) else (if bt119.2 < 0 then (dynamolaw21_GraphEnds.j0 k t118 a1 t117 bt119.1 bt119.2 true) else (if bt119.1 = bt119.2 then (dynamolaw21_GraphEnds.j0 k t118 a1 t117 bt119.1 bt119.2 true) else (if bt119.1 > 6 then (dynamolaw21_GraphEnds.j0 k t118 a1 t117 bt119.1 bt119.2 true) else (dynamolaw21_GraphEnds.j0 k t118 a1 t117 bt119.1 bt119.2 (decide (bt119.2 > 6))))))))) else (some false)) = some true := H
 have A3 := Aside0.mk A30
 clear A30
 by_cases c4 : t117 = true
 ·subst c4
  have H1 : ((dynamoworld_Number.f a0 7).bind fun t118 => ((graph_Ends.f t118).bind fun bt119 => (if bt119.1 < 0 then (dynamolaw21_GraphEnds.j0 k t118 a1 true bt119.1 bt119.2 true) else (if bt119.2 < 0 then (dynamolaw21_GraphEnds.j0 k t118 a1 true bt119.1 bt119.2 true) else (if bt119.1 = bt119.2 then (dynamolaw21_GraphEnds.j0 k t118 a1 true bt119.1 bt119.2 true) else (if bt119.1 > 6 then (dynamolaw21_GraphEnds.j0 k t118 a1 true bt119.1 bt119.2 true) else (dynamolaw21_GraphEnds.j0 k t118 a1 true bt119.1 bt119.2 (decide (bt119.2 > 6))))))))) = some true := by first | (rw [if_pos rfl] at H; exact H) | exact H | rfl
  clear H
  have H := H1
  clear H1
  replace H := Option.bind_eq_some_iff.mp H
  obtain ⟨t118, A50, H⟩ := H
  replace H : ((graph_Ends.f t118).bind fun bt119 => (if bt119.1 < 0 then (dynamolaw21_GraphEnds.j0 k t118 a1 true bt119.1 bt119.2 true) else (if bt119.2 < 0 then (dynamolaw21_GraphEnds.j0 k t118 a1 true bt119.1 bt119.2 true) else (if bt119.1 = bt119.2 then (dynamolaw21_GraphEnds.j0 k t118 a1 true bt119.1 bt119.2 true) else (if bt119.1 > 6 then (dynamolaw21_GraphEnds.j0 k t118 a1 true bt119.1 bt119.2 true) else (dynamolaw21_GraphEnds.j0 k t118 a1 true bt119.1 bt119.2 (decide (bt119.2 > 6)))))))) = some true := H
  have A5 := Aside0.mk A50
  clear A50
  replace H := Option.bind_eq_some_iff.mp H
  obtain ⟨⟨t119, t120⟩, A60, H⟩ := H
  replace H : (if t119 < 0 then (dynamolaw21_GraphEnds.j0 k t118 a1 true t119 t120 true) else (if t120 < 0 then (dynamolaw21_GraphEnds.j0 k t118 a1 true t119 t120 true) else (if t119 = t120 then (dynamolaw21_GraphEnds.j0 k t118 a1 true t119 t120 true) else (if t119 > 6 then (dynamolaw21_GraphEnds.j0 k t118 a1 true t119 t120 true) else (dynamolaw21_GraphEnds.j0 k t118 a1 true t119 t120 (decide (t120 > 6))))))) = some true := H
  have A6 := Aside0.mk A60
  clear A60
  have HC7 := Aside0.mk H
  clear H
  go_enter Tryd.func6, Tryd.ntmps6
  go_upto_region 6 with (first | ((with_reducible refine gate_callee (f := 12) rfl ?_); refine goesL_ (some 13) rfl rfl Tryd.func12 (by kernel_rfl) rfl #[] rfl (by (try simp only [List.map_toArray, List.map_cons, List.map_nil]); first | done | rfl | (simp only [List.length_drop, List.length_take]; rfl)) ?_; (with_reducible refine (dynamolaw21_first.calls k  true _ (by first | exact HG.out | (repeat (first | exact HG.out | apply GLaid.drewN | apply GLaid.drew))) A3.out).mono ?_); rintro e w' ⟨rfl, ⟨nd, rfl⟩⟩; refine ⟨_, rfl, ?_⟩) | ((with_reducible refine gate_callee (f := 13) rfl ?_); refine goesL_ (some 17) rfl rfl Tryd.func13 (by kernel_rfl) rfl #[.int .i64 a0, .int .i64 7] rfl (by (try simp only [List.map_toArray, List.map_cons, List.map_nil]); first | done | rfl | (simp only [List.length_drop, List.length_take]; rfl)) ?_; (with_reducible refine (dynamoworld_Number.calls a0 7 t118 _ A5.out).mono ?_); rintro e w' ⟨rfl, ⟨nd, rfl⟩⟩; refine ⟨_, rfl, ?_⟩) | ((with_reducible refine gate_callee (f := 17) rfl ?_); refine goesL_ (some 20) rfl rfl Tryd.func17 (by kernel_rfl) rfl #[.int .i64 t118] rfl (by (try simp only [List.map_toArray, List.map_cons, List.map_nil]); first | done | rfl | (simp only [List.length_drop, List.length_take]; rfl)) ?_; (with_reducible refine (graph_Ends.calls t118 t119 t120 _ A6.out).mono ?_); rintro e w' ⟨rfl, ⟨nd, rfl⟩⟩; refine ⟨_, rfl, ?_⟩))
  (try simp only [Act.put, List.setIfInBounds_toArray, List.set_cons_zero, List.set_cons_succ])
  go_cut [41] (fun v41 wc => ∃ (kq : Nat) (x41_6 : Bool), v41 = .bool x41_6 ∧ Aside0 (dynamolaw21_GraphEnds.j0 kq t118 a1 true t119 t120 x41_6 = some true) ∧ Aside0 (kq ≤ k) ∧ Drawn0 w wc)
  case first =>
   have H := HC7.out
   clear HC7
   by_cases c8 : t119 < 0
   ·rw [if_pos c8] at H
    have c8b0 : decide (t119 < 0) = true := decide_eq_true c8
    clear c8
    (first | rw [c8b0] | (simp only [i64_w, i32_w]; rw [c8b0]) | skip)
    have H' := Aside0.mk H
    clear H
    go_wp2
    go_meet
    case rel => exact ⟨_, (true), (by first | rfl | (simp; done) | (simp [*]; done)), H', ⟨by first | omega | exact Nat.le_refl _⟩, by repeat (first | exact Drawn0.refl _ | apply Drawn0.step)⟩
   ·rw [if_neg c8] at H
    have c8b0 : decide (t119 < 0) = false := decide_eq_false c8
    clear c8
    (first | rw [c8b0] | (simp only [i64_w, i32_w]; rw [c8b0]) | skip)
    by_cases c9 : t120 < 0
    ·rw [if_pos c9] at H
     have c9b0 : decide (t120 < 0) = true := decide_eq_true c9
     clear c9
     have H' := Aside0.mk H
     clear H
     go_wp2
     go_meet
     case rel => exact ⟨_, (true), (by first | rfl | (simp; done) | (simp [*]; done)), H', ⟨by first | omega | exact Nat.le_refl _⟩, by repeat (first | exact Drawn0.refl _ | apply Drawn0.step)⟩
    ·rw [if_neg c9] at H
     have c9b0 : decide (t120 < 0) = false := decide_eq_false c9
     clear c9
     by_cases c10 : t119 = t120
     ·rw [if_pos c10] at H
      have c10b0 : (t119 == t120) = true := beq_iff_eq.mpr c10
      have c10b1 : (t119 != t120) = false := bne_eq_false_iff_eq.mpr c10
      clear c10
      have H' := Aside0.mk H
      clear H
      go_wp2
      go_meet
      case rel => exact ⟨_, (true), (by first | rfl | (simp; done) | (simp [*]; done)), H', ⟨by first | omega | exact Nat.le_refl _⟩, by repeat (first | exact Drawn0.refl _ | apply Drawn0.step)⟩
     ·rw [if_neg c10] at H
      have c10b0 : (t119 == t120) = false := beq_eq_false_iff_ne.mpr c10
      have c10b1 : (t119 != t120) = true := bne_iff_ne.mpr c10
      by_cases c11 : t119 > 6
      ·rw [if_pos c11] at H
       have c11b0 : decide (6 < t119) = true := decide_eq_true c11
       clear c11
       have H' := Aside0.mk H
       clear H
       go_wp2
       go_meet
       case rel => exact ⟨_, (true), (by first | rfl | (simp; done) | (simp [*]; done)), H', ⟨by first | omega | exact Nat.le_refl _⟩, by repeat (first | exact Drawn0.refl _ | apply Drawn0.step)⟩
      ·rw [if_neg c11] at H
       have c11b0 : decide (6 < t119) = false := decide_eq_false c11
       clear c11
       have H' := Aside0.mk H
       clear H
       go_wp2
       go_meet
       case rel => exact ⟨_, (decide (t120 > 6)), (by first | rfl | (simp; done) | (simp [*]; done)), H', ⟨by first | omega | exact Nat.le_refl _⟩, by repeat (first | exact Drawn0.refl _ | apply Drawn0.step)⟩
  case rest =>
   clear HC7
   try clear c1
   try clear p2
   try clear c4
   try clear c6
   try clear c8
   try clear c8b0
   try clear c9
   try clear c9b0
   try clear c10
   try clear c10b0
   try clear c10b1
   try clear c11
   try clear c11b0
   obtain ⟨kq, x41_6, rfl, HA, HJ6, ⟨mc6, rfl⟩⟩ := hcut
   cases kq with
   | zero => exact absurd HA.out (by simp [dynamolaw21_GraphEnds.j0])
   | succ kj6 =>
    have H := HA.out
    clear HA
    simp only [dynamolaw21_GraphEnds.j0] at H
    by_cases c12 : x41_6 = true
    ·subst c12
     have H1 : (some false) = some true := by first | (rw [if_pos rfl] at H; exact H) | exact H | rfl
     clear H
     have H := H1
     clear H1
     exact absurd H (by simp)
    ·replace c12 := Bool.eq_false_iff.mpr c12
     subst c12
     have H1 : (if 0 ≤ (IntKind.u64.wrap (t118)) then (dynamolaw21_GraphEnds.l0 kj6 a1 true t119 t120 (shl .i64 1 (IntKind.u64.wrap (t118))) 0) else (none)) = some true := by first | (rw [if_neg (show ¬ (false = true) by decide)] at H; exact H) | exact H | rfl
     clear H
     have H := H1
     clear H1
     obtain ⟨ji13, hji13⟩ : ∃ j_ : Int, (IntKind.u64.wrap (t118)) = j_ := ⟨_, rfl⟩
     replace H : (if 0 ≤ (ji13) then (dynamolaw21_GraphEnds.l0 kj6 a1 true t119 t120 (shl .i64 1 (ji13)) 0) else (none)) = some true := by first | (rw [hji13] at H; exact H) | (simp only [hji13] at H ⊢; exact H)
     by_cases c14 : 0 ≤ (ji13)
     ·rw [if_pos c14] at H
      have c14b0 := eq_true c14
      have c14b1 : decide (0 ≤ (ji13)) = true := decide_eq_true c14
      clear c14
      obtain ⟨ji15, hji15⟩ : ∃ j_ : Int, (shl .i64 1 (ji13)) = j_ := ⟨_, rfl⟩
      replace H : (dynamolaw21_GraphEnds.l0 kj6 a1 true t119 t120 ji15 0) = some true := by first | (rw [hji15] at H; exact H) | (simp only [hji15] at H ⊢; exact H)
      have hji15_ : (IntKind.i64.wrap (1 * 2 ^ min (ji13).toNat 64)) = ji15 := hji15
      have hji15z : (ji13) ≤ 64 → (IntKind.i64.wrap (1 * 2 ^ (ji13).toNat)) = ji15 := shl_small hji15
      have hji15u : (IntKind.i64.wrap (2 ^ min (ji13).toNat 64)) = ji15 := by have h_ := hji15_; rw [Int.one_mul] at h_; exact h_
      have hji15v : (ji13) ≤ 64 → (IntKind.i64.wrap (2 ^ (ji13).toNat)) = ji15 := fun hle_ => by have h_ := hji15z hle_; rw [Int.one_mul] at h_; exact h_
      have hji15y : (wrap64 (1 * 2 ^ min (ji13).toNat 64)) = ji15 := (i64_w _).symm.trans hji15_
      have hji15x : (ji13) ≤ 64 → (wrap64 (1 * 2 ^ (ji13).toNat)) = ji15 := fun h_ => (i64_w _).symm.trans (hji15z h_)
      have H' := Aside0.mk H
      clear H
      go_wp2
      go_loopg [9] kj6 (fun kq v9 w' => ∃ (x9_2 : Int), v9 = .int .i64 x9_2 ∧ Aside0 (dynamolaw21_GraphEnds.l0 kq a1 true t119 t120 ji15 x9_2 = some true) ∧ Aside0 (kq ≤ kj6) ∧ Drawn0 w w')
      case atStart => exact ⟨(0), (by first | rfl | (simp; done) | (simp [*]; done)), H', ⟨Nat.le_refl _⟩, by repeat (first | exact Drawn0.refl _ | apply Drawn0.step)⟩
      case round =>
       clear H'
       try clear c1
       try clear p2
       try clear c4
       try clear c6
       try clear p6
       try clear c8
       try clear c8b0
       try clear c9
       try clear c9b0
       try clear c10
       try clear c10b0
       try clear c10b1
       try clear c11
       try clear c11b0
       try clear c12
       try clear c13
       try clear c14
       try clear c14b0
       try clear c14b1
       try clear p2
       obtain ⟨x9_2, rfl, HA, HK2, ⟨m2, rfl⟩⟩ := hrel
       cases gk with
       | zero => exact absurd HA.out (by simp [dynamolaw21_GraphEnds.l0])
       | succ k2 =>
        have H := HA.out
        clear HA
        simp only [dynamolaw21_GraphEnds.l0] at H
        by_cases c16 : x9_2 < 7
        ·rw [if_pos c16] at H
         have c16b0 : decide (x9_2 < 7) = true := decide_eq_true c16
         clear c16
         obtain ⟨ji17, hji17⟩ : ∃ j_ : Int, (IntKind.u64.wrap (x9_2)) = j_ := ⟨_, rfl⟩
         replace H : (if 0 ≤ (ji17) then (if x9_2 = t119 then (dynamolaw21_GraphEnds.j2 k2 a1 true t119 t120 ji15 x9_2 (shl .i64 1 (ji17)) true) else (dynamolaw21_GraphEnds.j2 k2 a1 true t119 t120 ji15 x9_2 (shl .i64 1 (ji17)) (x9_2 == t120))) else (none)) = some true := by first | (rw [hji17] at H; exact H) | (simp only [hji17] at H ⊢; exact H)
         by_cases c18 : 0 ≤ (ji17)
         ·rw [if_pos c18] at H
          have c18b0 := eq_true c18
          have c18b1 : decide (0 ≤ (ji17)) = true := decide_eq_true c18
          clear c18
          obtain ⟨ji19, hji19⟩ : ∃ j_ : Int, (shl .i64 1 (ji17)) = j_ := ⟨_, rfl⟩
          replace H : (if x9_2 = t119 then (dynamolaw21_GraphEnds.j2 k2 a1 true t119 t120 ji15 x9_2 ji19 true) else (dynamolaw21_GraphEnds.j2 k2 a1 true t119 t120 ji15 x9_2 ji19 (x9_2 == t120))) = some true := by first | (rw [hji19] at H; exact H) | (simp only [hji19] at H ⊢; exact H)
          have hji19_ : (IntKind.i64.wrap (1 * 2 ^ min (ji17).toNat 64)) = ji19 := hji19
          have hji19z : (ji17) ≤ 64 → (IntKind.i64.wrap (1 * 2 ^ (ji17).toNat)) = ji19 := shl_small hji19
          have hji19u : (IntKind.i64.wrap (2 ^ min (ji17).toNat 64)) = ji19 := by have h_ := hji19_; rw [Int.one_mul] at h_; exact h_
          have hji19v : (ji17) ≤ 64 → (IntKind.i64.wrap (2 ^ (ji17).toNat)) = ji19 := fun hle_ => by have h_ := hji19z hle_; rw [Int.one_mul] at h_; exact h_
          have hji19y : (wrap64 (1 * 2 ^ min (ji17).toNat 64)) = ji19 := (i64_w _).symm.trans hji19_
          have hji19x : (ji17) ≤ 64 → (wrap64 (1 * 2 ^ (ji17).toNat)) = ji19 := fun h_ => (i64_w _).symm.trans (hji19z h_)
          have HC20 := Aside0.mk H
          clear H
          go_upto_region 13 with (fail)
          go_cut [59] (fun v59 wc => ∃ (kq : Nat) (x59_19 : Bool), v59 = .bool x59_19 ∧ Aside0 (dynamolaw21_GraphEnds.j2 kq a1 true t119 t120 ji15 x9_2 ji19 x59_19 = some true) ∧ Aside0 (kq ≤ k2) ∧ Drawn0 w wc)
          case first =>
           have H := HC20.out
           clear HC20
           by_cases c21 : x9_2 = t119
           ·rw [if_pos c21] at H
            have c21b0 : (x9_2 == t119) = true := beq_iff_eq.mpr c21
            have c21b1 : (x9_2 != t119) = false := bne_eq_false_iff_eq.mpr c21
            clear c21
            (first | rw [c21b0] | (simp only [i64_w, i32_w]; rw [c21b0]) | skip)
            have H' := Aside0.mk H
            clear H
            go_wp2
            go_meet
            case rel => exact ⟨_, (true), (by first | rfl | (simp; done) | (simp [*]; done)), H', ⟨by have := HJ6.out; have := HK2.out; first | omega | exact Nat.le_refl _⟩, by repeat (first | exact Drawn0.refl _ | apply Drawn0.step)⟩
           ·rw [if_neg c21] at H
            have c21b0 : (x9_2 == t119) = false := beq_eq_false_iff_ne.mpr c21
            have c21b1 : (x9_2 != t119) = true := bne_iff_ne.mpr c21
            (first | rw [c21b0] | (simp only [i64_w, i32_w]; rw [c21b0]) | skip)
            have H' := Aside0.mk H
            clear H
            go_wp2
            go_meet
            case rel => exact ⟨_, ((x9_2 == t120)), (by first | rfl | (simp; done) | (simp [*]; done)), H', ⟨by have := HJ6.out; have := HK2.out; first | omega | exact Nat.le_refl _⟩, by repeat (first | exact Drawn0.refl _ | apply Drawn0.step)⟩
          case rest =>
           clear HC20
           try clear c1
           try clear c2
           try clear p2
           try clear c4
           try clear c6
           try clear p6
           try clear c8
           try clear c8b0
           try clear c9
           try clear c9b0
           try clear c10
           try clear c10b0
           try clear c10b1
           try clear c11
           try clear c11b0
           try clear c12
           try clear c13
           try clear c14
           try clear c14b0
           try clear c14b1
           try clear c16
           try clear c16b0
           try clear c17
           try clear c18
           try clear c18b0
           try clear c18b1
           try clear c21
           try clear c21b0
           try clear c21b1
           try clear p2
           try clear p6
           obtain ⟨kq, x59_19, rfl, HA, HJ19, ⟨mc19, rfl⟩⟩ := hcut
           cases kq with
           | zero => exact absurd HA.out (by simp [dynamolaw21_GraphEnds.j2])
           | succ kj19 =>
            have H := HA.out
            clear HA
            simp only [dynamolaw21_GraphEnds.j2] at H
            have HC22 := Aside0.mk H
            clear H
            go_upto_if 59 with (fail)
            go_cut [10] (fun v10 wc => ∃ (kq : Nat) (x10_21 : Int), v10 = .int .i64 x10_21 ∧ Aside0 (dynamolaw21_GraphEnds.j3 kq a1 true t119 t120 ji15 x9_2 x10_21 = some true) ∧ Aside0 (kq ≤ kj19) ∧ Drawn0 w wc)
            case first =>
             have H := HC22.out
             clear HC22
             by_cases c23 : x59_19 = true
             ·subst c23
              have H1 : (if 0 ≤ (IntKind.u64.wrap (t119)) then (if 0 ≤ (IntKind.u64.wrap (t120)) then (dynamolaw21_GraphEnds.j3 kj19 a1 true t119 t120 ji15 x9_2 (Go.bits .or .i64 (shl .i64 1 (IntKind.u64.wrap (t119))) (shl .i64 1 (IntKind.u64.wrap (t120))))) else (none)) else (none)) = some true := by first | (rw [if_pos rfl] at H; exact H) | exact H | rfl
              clear H
              have H := H1
              clear H1
              obtain ⟨ji24, hji24⟩ : ∃ j_ : Int, (IntKind.u64.wrap (t119)) = j_ := ⟨_, rfl⟩
              replace H : (if 0 ≤ (ji24) then (if 0 ≤ (IntKind.u64.wrap (t120)) then (dynamolaw21_GraphEnds.j3 kj19 a1 true t119 t120 ji15 x9_2 (Go.bits .or .i64 (shl .i64 1 (ji24)) (shl .i64 1 (IntKind.u64.wrap (t120))))) else (none)) else (none)) = some true := by first | (rw [hji24] at H; exact H) | (simp only [hji24] at H ⊢; exact H)
              by_cases c25 : 0 ≤ (ji24)
              ·rw [if_pos c25] at H
               have c25b0 := eq_true c25
               have c25b1 : decide (0 ≤ (ji24)) = true := decide_eq_true c25
               clear c25
               obtain ⟨ji26, hji26⟩ : ∃ j_ : Int, (shl .i64 1 (ji24)) = j_ := ⟨_, rfl⟩
               replace H : (if 0 ≤ (IntKind.u64.wrap (t120)) then (dynamolaw21_GraphEnds.j3 kj19 a1 true t119 t120 ji15 x9_2 (Go.bits .or .i64 (ji26) (shl .i64 1 (IntKind.u64.wrap (t120))))) else (none)) = some true := by first | (rw [hji26] at H; exact H) | (simp only [hji26] at H ⊢; exact H)
               have hji26_ : (IntKind.i64.wrap (1 * 2 ^ min (ji24).toNat 64)) = ji26 := hji26
               have hji26z : (ji24) ≤ 64 → (IntKind.i64.wrap (1 * 2 ^ (ji24).toNat)) = ji26 := shl_small hji26
               have hji26u : (IntKind.i64.wrap (2 ^ min (ji24).toNat 64)) = ji26 := by have h_ := hji26_; rw [Int.one_mul] at h_; exact h_
               have hji26v : (ji24) ≤ 64 → (IntKind.i64.wrap (2 ^ (ji24).toNat)) = ji26 := fun hle_ => by have h_ := hji26z hle_; rw [Int.one_mul] at h_; exact h_
               have hji26y : (wrap64 (1 * 2 ^ min (ji24).toNat 64)) = ji26 := (i64_w _).symm.trans hji26_
               have hji26x : (ji24) ≤ 64 → (wrap64 (1 * 2 ^ (ji24).toNat)) = ji26 := fun h_ => (i64_w _).symm.trans (hji26z h_)
               obtain ⟨ji27, hji27⟩ : ∃ j_ : Int, (IntKind.u64.wrap (t120)) = j_ := ⟨_, rfl⟩
               replace H : (if 0 ≤ (ji27) then (dynamolaw21_GraphEnds.j3 kj19 a1 true t119 t120 ji15 x9_2 (Go.bits .or .i64 (ji26) (shl .i64 1 (ji27)))) else (none)) = some true := by first | (rw [hji27] at H; exact H) | (simp only [hji27] at H ⊢; exact H)
               by_cases c28 : 0 ≤ (ji27)
               ·rw [if_pos c28] at H
                have c28b0 := eq_true c28
                have c28b1 : decide (0 ≤ (ji27)) = true := decide_eq_true c28
                clear c28
                obtain ⟨ji29, hji29⟩ : ∃ j_ : Int, (shl .i64 1 (ji27)) = j_ := ⟨_, rfl⟩
                replace H : (dynamolaw21_GraphEnds.j3 kj19 a1 true t119 t120 ji15 x9_2 (Go.bits .or .i64 (ji26) (ji29))) = some true := by first | (rw [hji29] at H; exact H) | (simp only [hji29] at H ⊢; exact H)
                have hji29_ : (IntKind.i64.wrap (1 * 2 ^ min (ji27).toNat 64)) = ji29 := hji29
                have hji29z : (ji27) ≤ 64 → (IntKind.i64.wrap (1 * 2 ^ (ji27).toNat)) = ji29 := shl_small hji29
                have hji29u : (IntKind.i64.wrap (2 ^ min (ji27).toNat 64)) = ji29 := by have h_ := hji29_; rw [Int.one_mul] at h_; exact h_
                have hji29v : (ji27) ≤ 64 → (IntKind.i64.wrap (2 ^ (ji27).toNat)) = ji29 := fun hle_ => by have h_ := hji29z hle_; rw [Int.one_mul] at h_; exact h_
                have hji29y : (wrap64 (1 * 2 ^ min (ji27).toNat 64)) = ji29 := (i64_w _).symm.trans hji29_
                have hji29x : (ji27) ≤ 64 → (wrap64 (1 * 2 ^ (ji27).toNat)) = ji29 := fun h_ => (i64_w _).symm.trans (hji29z h_)
                have H' := Aside0.mk H
                clear H
                go_wp2
                go_meet
                case rel => exact ⟨_, (Go.bits .or .i64 (ji26) (ji29)), (by first | rfl | (simp; done) | (simp only [← hji26, ← hji29] <;> (first | rfl | simp)) | (simp [*]; done)), H', ⟨by have := HJ6.out; have := HK2.out; have := HJ19.out; first | omega | exact Nat.le_refl _⟩, by repeat (first | exact Drawn0.refl _ | apply Drawn0.step)⟩
               ·rw [if_neg c28] at H
                exact absurd H (by simp)
              ·rw [if_neg c25] at H
               exact absurd H (by simp)
             ·replace c23 := Bool.eq_false_iff.mpr c23
              subst c23
              have H1 : (dynamolaw21_GraphEnds.j3 kj19 a1 true t119 t120 ji15 x9_2 ji19) = some true := by first | (rw [if_neg (show ¬ (false = true) by decide)] at H; exact H) | exact H | rfl
              clear H
              have H := H1
              clear H1
              have H' := Aside0.mk H
              clear H
              go_wp2
              go_meet
              case rel => exact ⟨_, (ji19), (by first | rfl | (simp; done) | (simp only [← hji19] <;> (first | rfl | simp)) | (simp [*]; done)), H', ⟨by have := HJ6.out; have := HK2.out; have := HJ19.out; first | omega | exact Nat.le_refl _⟩, by repeat (first | exact Drawn0.refl _ | apply Drawn0.step)⟩
            case rest =>
             clear HC22
             try clear c1
             try clear c2
             try clear p2
             try clear c4
             try clear c6
             try clear p6
             try clear c8
             try clear c8b0
             try clear c9
             try clear c9b0
             try clear c10
             try clear c10b0
             try clear c10b1
             try clear c11
             try clear c11b0
             try clear c12
             try clear c13
             try clear c14
             try clear c14b0
             try clear c14b1
             try clear c16
             try clear c16b0
             try clear c17
             try clear c18
             try clear c18b0
             try clear c18b1
             try clear c19
             try clear c21
             try clear c21b0
             try clear c21b1
             try clear c23
             try clear c25
             try clear c25b0
             try clear c25b1
             try clear c28
             try clear c28b0
             try clear c28b1
             try clear p2
             try clear p6
             obtain ⟨kq, x10_21, rfl, HA, HJ21, ⟨mc21, rfl⟩⟩ := hcut
             cases kq with
             | zero => exact absurd HA.out (by simp [dynamolaw21_GraphEnds.j3])
             | succ kj21 =>
              have H := HA.out
              clear HA
              simp only [dynamolaw21_GraphEnds.j3] at H
              replace H := Option.bind_eq_some_iff.mp H
              obtain ⟨t121, A300, H⟩ := H
              replace H : (if t121 = x10_21 then ((graph_Reach.f kj21 0 x9_2).bind fun t122 => (if 0 ≤ (IntKind.u64.wrap (x9_2)) then (if t122 = (shl .i64 1 (IntKind.u64.wrap (x9_2))) then (dynamolaw21_GraphEnds.l0 kj21 a1 true t119 t120 ji15 (wrap64 (x9_2 + 1))) else (some false)) else (none))) else (some false)) = some true := H
              have A30 := Aside0.mk A300
              clear A300
              by_cases c31 : t121 = x10_21
              ·rw [if_pos c31] at H
               have c31b0 : (t121 == x10_21) = true := beq_iff_eq.mpr c31
               have c31b1 : (t121 != x10_21) = false := bne_eq_false_iff_eq.mpr c31
               clear c31
               replace H := Option.bind_eq_some_iff.mp H
               obtain ⟨t122, A320, H⟩ := H
               replace H : (if 0 ≤ (IntKind.u64.wrap (x9_2)) then (if t122 = (shl .i64 1 (IntKind.u64.wrap (x9_2))) then (dynamolaw21_GraphEnds.l0 kj21 a1 true t119 t120 ji15 (wrap64 (x9_2 + 1))) else (some false)) else (none)) = some true := H
               have A32 := Aside0.mk A320
               clear A320
               replace H : (if 0 ≤ (ji17) then (if t122 = (shl .i64 1 (ji17)) then (dynamolaw21_GraphEnds.l0 kj21 a1 true t119 t120 ji15 (wrap64 (x9_2 + 1))) else (some false)) else (none)) = some true := by first | (rw [hji17] at H; exact H) | (simp only [hji17] at H ⊢; exact H)
               (try rw [hji17] at A30)
               (try rw [hji17] at A32)
               by_cases c33 : 0 ≤ (ji17)
               ·rw [if_pos c33] at H
                have c33b0 := eq_true c33
                have c33b1 : decide (0 ≤ (ji17)) = true := decide_eq_true c33
                clear c33
                replace H : (if t122 = (ji19) then (dynamolaw21_GraphEnds.l0 kj21 a1 true t119 t120 ji15 (wrap64 (x9_2 + 1))) else (some false)) = some true := by first | (rw [hji19] at H; exact H) | (simp only [hji19] at H ⊢; exact H)
                (try rw [hji19] at A30)
                (try rw [hji19] at A32)
                by_cases c34 : t122 = (ji19)
                ·rw [if_pos c34] at H
                 have c34b0 : (t122 == (ji19)) = true := beq_iff_eq.mpr c34
                 have c34b1 : (t122 != (ji19)) = false := bne_eq_false_iff_eq.mpr c34
                 clear c34
                 have H' := Aside0.mk H
                 clear H
                 go_wp2_with (first | ((with_reducible refine gate_callee (f := 15) rfl ?_); refine goesL_ (some 69) rfl rfl Tryd.func15 (by kernel_rfl) rfl #[.int .i64 ji15, .int .i64 x9_2] rfl (by (try simp only [List.map_toArray, List.map_cons, List.map_nil]); first | done | (simp only [hji15]; rfl) | rfl | (simp only [List.length_drop, List.length_take]; rfl)) ?_; (with_reducible refine (graph_Reach.calls kj21 ji15 x9_2 t121 _ A30.out).mono ?_); rintro e w' ⟨rfl, ⟨nd, rfl⟩⟩; refine ⟨_, rfl, ?_⟩) | (go_at_call 15; (with_reducible refine (graph_Reach.calls kj21 0 x9_2 t122 _ A32.out).mono ?_); rintro e w' ⟨rfl, ⟨nd, rfl⟩⟩))
                 go_roundg kj21
                 case measure => have := HJ6.out; have := HK2.out; have := HJ19.out; have := HJ21.out; omega
                 case rel => exact ⟨(wrap64 (x9_2 + 1)), (by first | rfl | (simp; done) | (simp [*]; done)), H', ⟨by have := HJ6.out; have := HK2.out; have := HJ19.out; have := HJ21.out; omega⟩, by repeat (first | exact Drawn0.refl _ | apply Drawn0.step)⟩
                ·rw [if_neg c34] at H
                 have c34b0 : (t122 == (ji19)) = false := beq_eq_false_iff_ne.mpr c34
                 have c34b1 : (t122 != (ji19)) = true := bne_iff_ne.mpr c34
                 exact absurd H (by simp)
               ·rw [if_neg c33] at H
                exact absurd H (by simp)
              ·rw [if_neg c31] at H
               have c31b0 : (t121 == x10_21) = false := beq_eq_false_iff_ne.mpr c31
               have c31b1 : (t121 != x10_21) = true := bne_iff_ne.mpr c31
               exact absurd H (by simp)
         ·rw [if_neg c18] at H
          exact absurd H (by simp)
        ·rw [if_neg c16] at H
         have c16b0 : decide (x9_2 < 7) = false := decide_eq_false c16
         clear c16
         replace H := Option.bind_eq_some_iff.mp H
         obtain ⟨t123, A350, H⟩ := H
         replace H : ((graph_Ends.f (wrap64 (7 + t123))).bind fun bt124 => (if true = true then (if bt124.1 = (-1) then (if bt124.2 = (-1) then ((graph_Parts.f k2 ji15).bind fun t126 => (if t126 = 6 then ((graph_Parts.f k2 127).bind fun t127 => (if t127 = 1 then ((graph_Joined.f k2 127).bind fun t128 => (if t128 = true then ((graph_Joined.f k2 ji15).bind fun t129 => (if t129 = true then (some false) else ((graph_Reach.f k2 127 7).bind fun t130 => (some (t130 == 0))))) else (some false))) else (some false))) else (some false))) else (some false)) else (some false)) else (some false))) = some true := H
         have A35 := Aside0.mk A350
         clear A350
         replace H := Option.bind_eq_some_iff.mp H
         obtain ⟨⟨t124, t125⟩, A360, H⟩ := H
         replace H : (if true = true then (if t124 = (-1) then (if t125 = (-1) then ((graph_Parts.f k2 ji15).bind fun t126 => (if t126 = 6 then ((graph_Parts.f k2 127).bind fun t127 => (if t127 = 1 then ((graph_Joined.f k2 127).bind fun t128 => (if t128 = true then ((graph_Joined.f k2 ji15).bind fun t129 => (if t129 = true then (some false) else ((graph_Reach.f k2 127 7).bind fun t130 => (some (t130 == 0))))) else (some false))) else (some false))) else (some false))) else (some false)) else (some false)) else (some false)) = some true := H
         have A36 := Aside0.mk A360
         clear A360
         have H1 : (if t124 = (-1) then (if t125 = (-1) then ((graph_Parts.f k2 ji15).bind fun t126 => (if t126 = 6 then ((graph_Parts.f k2 127).bind fun t127 => (if t127 = 1 then ((graph_Joined.f k2 127).bind fun t128 => (if t128 = true then ((graph_Joined.f k2 ji15).bind fun t129 => (if t129 = true then (some false) else ((graph_Reach.f k2 127 7).bind fun t130 => (some (t130 == 0))))) else (some false))) else (some false))) else (some false))) else (some false)) else (some false)) = some true := by first | (with_reducible exact H) | (rw [if_pos rfl] at H; exact H) | exact H | rfl
         clear H
         have H := H1
         clear H1
         by_cases c37 : t124 = (-1)
         ·rw [if_pos c37] at H
          have c37b0 : (t124 == (-1)) = true := beq_iff_eq.mpr c37
          have c37b1 : (t124 != (-1)) = false := bne_eq_false_iff_eq.mpr c37
          clear c37
          by_cases c38 : t125 = (-1)
          ·rw [if_pos c38] at H
           have c38b0 : (t125 == (-1)) = true := beq_iff_eq.mpr c38
           have c38b1 : (t125 != (-1)) = false := bne_eq_false_iff_eq.mpr c38
           clear c38
           replace H := Option.bind_eq_some_iff.mp H
           obtain ⟨t126, A390, H⟩ := H
           replace H : (if t126 = 6 then ((graph_Parts.f k2 127).bind fun t127 => (if t127 = 1 then ((graph_Joined.f k2 127).bind fun t128 => (if t128 = true then ((graph_Joined.f k2 ji15).bind fun t129 => (if t129 = true then (some false) else ((graph_Reach.f k2 127 7).bind fun t130 => (some (t130 == 0))))) else (some false))) else (some false))) else (some false)) = some true := H
           have A39 := Aside0.mk A390
           clear A390
           by_cases c40 : t126 = 6
           ·rw [if_pos c40] at H
            have c40b0 : (t126 == 6) = true := beq_iff_eq.mpr c40
            have c40b1 : (t126 != 6) = false := bne_eq_false_iff_eq.mpr c40
            clear c40
            replace H := Option.bind_eq_some_iff.mp H
            obtain ⟨t127, A410, H⟩ := H
            replace H : (if t127 = 1 then ((graph_Joined.f k2 127).bind fun t128 => (if t128 = true then ((graph_Joined.f k2 ji15).bind fun t129 => (if t129 = true then (some false) else ((graph_Reach.f k2 127 7).bind fun t130 => (some (t130 == 0))))) else (some false))) else (some false)) = some true := H
            have A41 := Aside0.mk A410
            clear A410
            by_cases c42 : t127 = 1
            ·rw [if_pos c42] at H
             have c42b0 : (t127 == 1) = true := beq_iff_eq.mpr c42
             have c42b1 : (t127 != 1) = false := bne_eq_false_iff_eq.mpr c42
             clear c42
             replace H := Option.bind_eq_some_iff.mp H
             obtain ⟨t128, A430, H⟩ := H
             replace H : (if t128 = true then ((graph_Joined.f k2 ji15).bind fun t129 => (if t129 = true then (some false) else ((graph_Reach.f k2 127 7).bind fun t130 => (some (t130 == 0))))) else (some false)) = some true := H
             have A43 := Aside0.mk A430
             clear A430
             by_cases c44 : t128 = true
             ·subst c44
              have H1 : ((graph_Joined.f k2 ji15).bind fun t129 => (if t129 = true then (some false) else ((graph_Reach.f k2 127 7).bind fun t130 => (some (t130 == 0))))) = some true := by first | (rw [if_pos rfl] at H; exact H) | exact H | rfl
              clear H
              have H := H1
              clear H1
              replace H := Option.bind_eq_some_iff.mp H
              obtain ⟨t129, A450, H⟩ := H
              replace H : (if t129 = true then (some false) else ((graph_Reach.f k2 127 7).bind fun t130 => (some (t130 == 0)))) = some true := H
              have A45 := Aside0.mk A450
              clear A450
              by_cases c46 : t129 = true
              ·subst c46
               have H1 : (some false) = some true := by first | (rw [if_pos rfl] at H; exact H) | exact H | rfl
               clear H
               have H := H1
               clear H1
               exact absurd H (by simp)
              ·replace c46 := Bool.eq_false_iff.mpr c46
               subst c46
               have H1 : ((graph_Reach.f k2 127 7).bind fun t130 => (some (t130 == 0))) = some true := by first | (rw [if_neg (show ¬ (false = true) by decide)] at H; exact H) | exact H | rfl
               clear H
               have H := H1
               clear H1
               replace H := Option.bind_eq_some_iff.mp H
               obtain ⟨t130, A470, H⟩ := H
               replace H : (some (t130 == 0)) = some true := H
               have A47 := Aside0.mk A470
               clear A470
               have HLAST := Aside0.mk (Option.some.inj H)
               clear H
               go_wp2_with (first | ((with_reducible refine gate_callee (f := 13) rfl ?_); refine goesL_ (some 82) rfl rfl Tryd.func13 (by kernel_rfl) rfl #[.int .i64 a1, .int .i64 1000] rfl (by (try simp only [List.map_toArray, List.map_cons, List.map_nil]); first | done | rfl | (simp only [List.length_drop, List.length_take]; rfl)) ?_; (with_reducible refine (dynamoworld_Number.calls a1 1000 t123 _ A35.out).mono ?_); rintro e w' ⟨rfl, ⟨nd, rfl⟩⟩; refine ⟨_, rfl, ?_⟩) | ((with_reducible refine gate_callee (f := 17) rfl ?_); refine goesL_ (some 84) rfl rfl Tryd.func17 (by kernel_rfl) rfl #[.int .i64 (wrap64 (7 + t123))] rfl (by (try simp only [List.map_toArray, List.map_cons, List.map_nil]); first | done | rfl | (simp only [List.length_drop, List.length_take]; rfl)) ?_; (with_reducible refine (graph_Ends.calls (wrap64 (7 + t123)) t124 t125 _ A36.out).mono ?_); rintro e w' ⟨rfl, ⟨nd, rfl⟩⟩; refine ⟨_, rfl, ?_⟩) | (go_at_call 22; (with_reducible refine (graph_Parts.calls k2 ji15 t126 _ (by first | exact HG.out | (repeat (first | exact HG.out | apply GLaid.drewN | apply GLaid.drew))) A39.out).mono ?_); rintro e w' ⟨rfl, ⟨nd, rfl⟩⟩) | (go_at_call 22; (with_reducible refine (graph_Parts.calls k2 127 t127 _ (by first | exact HG.out | (repeat (first | exact HG.out | apply GLaid.drewN | apply GLaid.drew))) A41.out).mono ?_); rintro e w' ⟨rfl, ⟨nd, rfl⟩⟩) | (go_at_call 20; (with_reducible refine (graph_Joined.calls k2 127 true _ A43.out).mono ?_); rintro e w' ⟨rfl, ⟨nd, rfl⟩⟩) | (go_at_call 20; (with_reducible refine (graph_Joined.calls k2 ji15 false _ A45.out).mono ?_); rintro e w' ⟨rfl, ⟨nd, rfl⟩⟩) | (go_at_call 15; (with_reducible refine (graph_Reach.calls k2 127 7 t130 _ A47.out).mono ?_); rintro e w' ⟨rfl, ⟨nd, rfl⟩⟩))
               all_goals (try go_ret)
               all_goals first | (exfalso; simp_all; done) | exact ⟨by first | rfl | (rw [HLAST.out]; done) | (simp [HLAST.out]; done) | (have HL_ := HLAST.out; simp_all; done) | (simp; done) | (simp only [← hji13, ← hji15] <;> (first | rfl | simp)) | (simp [*]; done), by repeat (first | exact Drawn0.refl _ | apply Drawn0.step)⟩
             ·replace c44 := Bool.eq_false_iff.mpr c44
              subst c44
              have H1 : (some false) = some true := by first | (rw [if_neg (show ¬ (false = true) by decide)] at H; exact H) | exact H | rfl
              clear H
              have H := H1
              clear H1
              exact absurd H (by simp)
            ·rw [if_neg c42] at H
             have c42b0 : (t127 == 1) = false := beq_eq_false_iff_ne.mpr c42
             have c42b1 : (t127 != 1) = true := bne_iff_ne.mpr c42
             exact absurd H (by simp)
           ·rw [if_neg c40] at H
            have c40b0 : (t126 == 6) = false := beq_eq_false_iff_ne.mpr c40
            have c40b1 : (t126 != 6) = true := bne_iff_ne.mpr c40
            exact absurd H (by simp)
          ·rw [if_neg c38] at H
           have c38b0 : (t125 == (-1)) = false := beq_eq_false_iff_ne.mpr c38
           have c38b1 : (t125 != (-1)) = true := bne_iff_ne.mpr c38
           exact absurd H (by simp)
         ·rw [if_neg c37] at H
          have c37b0 : (t124 == (-1)) = false := beq_eq_false_iff_ne.mpr c37
          have c37b1 : (t124 != (-1)) = true := bne_iff_ne.mpr c37
          exact absurd H (by simp)
     ·rw [if_neg c14] at H
      exact absurd H (by simp)
 ·replace c4 := Bool.eq_false_iff.mpr c4
  subst c4
  have H1 : (some false) = some true := by first | (rw [if_neg (show ¬ (false = true) by decide)] at H; exact H) | exact H | rfl
  clear H
  have H := H1
  clear H1
  exact absurd H (by simp)

/-- THE ONE PURE STATEMENT of dynamolaw21_GraphEnds: yours. -/
def dynamolaw21_GraphEnds.Pure : Prop := ∀ (a0 : Int) (a1 : Int), (Lit.int .i64 a0).wf = true → (Lit.int .i64 a1).wf = true → ∃ k, dynamolaw21_GraphEnds.f k a0 a1 = some true
theorem dynamolaw21_GraphEnds.walk (P : dynamolaw21_GraphEnds.Pure) (a0 : Int) (a1 : Int) (w : World) (hG : GLaid w) (w0 : (Lit.int .i64 a0).wf = true) (w1 : (Lit.int .i64 a1).wf = true) :
  Calls Tryd.prog 6 #[.int .i64 a0, .int .i64 a1] w fun e w' => e = .returned (.bool true) ∧ Below w.heap.size w w' := by
 obtain ⟨k, h⟩ := P a0 a1 w0 w1
 refine (dynamolaw21_GraphEnds.calls k a0 a1 w hG h).mono ?_
 rintro e w' ⟨rfl, hd⟩
 exact ⟨rfl, hd.below⟩

end Go.Proofs.YtjmggdccmggboabDoor.PGraphEnds
