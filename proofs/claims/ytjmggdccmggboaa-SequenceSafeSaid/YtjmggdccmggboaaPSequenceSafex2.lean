-- written by this work with wip/mkprint2.py
import Derived.Test.YtjmggdccmggboaaPSequenceSafex0
import Derived.Test.YtjmggdccmggboaaPSequenceSafex1
namespace Go.Proofs.Ytjmggdccmggboaa.PSequenceSafe
open Go.RowKit Go.Proofs.YtjmggdccmggboaaW.PrintWords Go.Proofs.YtjmggdccmggboaaW.PrintLast Go.Proofs.YtjmggdccmggboaaW.PrintMore
attribute [local go_sem] max2_int min2_int max_two min_two max_three min_three max_four min_four   -- for this text's walks alone
set_option linter.unusedVariables false
set_option linter.unusedSimpArgs false

/-! ### dynamolaw23_SequenceSafe: function 10 -/
mutual
def dynamolaw23_SequenceSafe.j0 : Nat → List Int → List Int → Int → Bool → Bool → Option (Bool)
 | 0, _, _, _, _, _ => none
 | k + 1, x0, x1, x3, x9, x25 => if x25 = true then (some x9) else ((dynamoworld_Number.f x3 128).bind fun t111 => (dynamolaw23_SequenceSafe.l0 k x0 x1 0 t111 x9 0))
def dynamolaw23_SequenceSafe.l0 : Nat → List Int → List Int → Int → Int → Bool → Int → Option (Bool)
 | 0, _, _, _, _, _, _ => none
 | k + 1, x0, x1, x2, x3, x9, x10 => if x10 < (x0.length : Int) then (if 0 ≤ x10 then ((dynamoworld_Number.f (rd x0 x10) 128).bind fun t113 => ((graph_Joined.f k t113).bind fun t114 => (if t114 = true then (dynamolaw23_SequenceSafe.l0 k x0 x1 x2 x3 x9 (wrap64 (x10 + 1))) else ((sequence_Next.f t113 x2 x3).bind fun t115 => ((sequence_Safe.f k x2 x3 t115).bind fun t116 => (if t116 = true then (dynamolaw23_SequenceSafe.j2 k x0 x1 x2 x3 x9 x10 t115 ((Go.bits .andNot .i64 t115 t113) != 0)) else (dynamolaw23_SequenceSafe.j2 k x0 x1 x2 x3 x9 x10 t115 true))))))) else (none)) else (some x9)
def dynamolaw23_SequenceSafe.j2 : Nat → List Int → List Int → Int → Int → Bool → Int → Int → Bool → Option (Bool)
 | 0, _, _, _, _, _, _, _, _ => none
 | k + 1, x0, x1, x2, x3, x9, x10, x12, x56 => if x56 = true then (some false) else (if (Go.bits .andNot .i64 x12 x2) = 0 then (if 0 ≤ x10 then (if x10 < (x1.length : Int) then ((dynamoworld_Number.f (rd x1 x10) 128).bind fun t118 => (dynamolaw23_SequenceSafe.l0 k x0 x1 x12 (Go.bits .or .i64 x12 (Go.bits .and .i64 x3 t118)) x9 (wrap64 (x10 + 1)))) else (none)) else (none)) else ((graph_Joined.f k (Go.bits .or .i64 (Go.bits .or .i64 x12 x3) x2)).bind fun t119 => (if t119 = true then (some false) else (if 0 ≤ x10 then (if x10 < (x1.length : Int) then ((dynamoworld_Number.f (rd x1 x10) 128).bind fun t121 => (dynamolaw23_SequenceSafe.l0 k x0 x1 x12 (Go.bits .or .i64 x12 (Go.bits .and .i64 x3 t121)) x9 (wrap64 (x10 + 1)))) else (none)) else (none)))))
end
def dynamolaw23_SequenceSafe.f (k : Nat) (l0 : List Int) (l1 : List Int) (a2 : Int) (a3 : Int) : Option (Bool) := (dynamolaw23_first.f).bind fun t110 => (if t110 = true then (if (l0.length : Int) > 60 then (dynamolaw23_SequenceSafe.j0 k l0 l1 a3 t110 true) else (dynamolaw23_SequenceSafe.j0 k l0 l1 a3 t110 (decide ((l1.length : Int) < (l0.length : Int))))) else (some false))
theorem dynamolaw23_SequenceSafe.mono_l : ∀ k, (∀ y0 y1 y2 y3 y4, LeO (dynamolaw23_SequenceSafe.j0 k y0 y1 y2 y3 y4) (dynamolaw23_SequenceSafe.j0 (k + 1) y0 y1 y2 y3 y4)) ∧ (∀ y0 y1 y2 y3 y4 y5, LeO (dynamolaw23_SequenceSafe.l0 k y0 y1 y2 y3 y4 y5) (dynamolaw23_SequenceSafe.l0 (k + 1) y0 y1 y2 y3 y4 y5)) ∧ (∀ y0 y1 y2 y3 y4 y5 y6 y7, LeO (dynamolaw23_SequenceSafe.j2 k y0 y1 y2 y3 y4 y5 y6 y7) (dynamolaw23_SequenceSafe.j2 (k + 1) y0 y1 y2 y3 y4 y5 y6 y7))
 | 0 => ⟨fun _ _ _ _ _ r h => by simp [dynamolaw23_SequenceSafe.j0] at h, fun _ _ _ _ _ _ r h => by simp [dynamolaw23_SequenceSafe.l0] at h, fun _ _ _ _ _ _ _ _ r h => by simp [dynamolaw23_SequenceSafe.j2] at h⟩
 | k + 1 => by
  obtain ⟨ih0, ih1, ih2⟩ := dynamolaw23_SequenceSafe.mono_l k
  refine ⟨?_, ?_, ?_⟩
  ·intro y0 y1 y2 y3 y4
   unfold dynamolaw23_SequenceSafe.j0
   repeat' first
   | (with_reducible exact ih0 _ _ _ _ _)
   | (with_reducible exact ih1 _ _ _ _ _ _)
   | (with_reducible exact ih2 _ _ _ _ _ _ _ _)
   | (with_reducible exact graph_Joined.mono _ _)
   | (with_reducible exact sequence_Safe.mono _ _ _ _)
   | (with_reducible exact LeO.refl _)
   | (with_reducible exact LeO.none _)
   | (with_reducible refine LeO.ite ?_ ?_)
   | (with_reducible refine LeO.bind ?_ (fun _ => ?_))
   | exact ih0 _ _ _ _ _
   | exact ih1 _ _ _ _ _ _
   | exact ih2 _ _ _ _ _ _ _ _
   | exact graph_Joined.mono _ _
   | exact sequence_Safe.mono _ _ _ _
   | exact LeO.none _
   | refine LeO.ite ?_ ?_
   | refine LeO.bind ?_ (fun _ => ?_)
  ·intro y0 y1 y2 y3 y4 y5
   unfold dynamolaw23_SequenceSafe.l0
   repeat' first
   | (with_reducible exact ih0 _ _ _ _ _)
   | (with_reducible exact ih1 _ _ _ _ _ _)
   | (with_reducible exact ih2 _ _ _ _ _ _ _ _)
   | (with_reducible exact graph_Joined.mono _ _)
   | (with_reducible exact sequence_Safe.mono _ _ _ _)
   | (with_reducible exact LeO.refl _)
   | (with_reducible exact LeO.none _)
   | (with_reducible refine LeO.ite ?_ ?_)
   | (with_reducible refine LeO.bind ?_ (fun _ => ?_))
   | exact ih0 _ _ _ _ _
   | exact ih1 _ _ _ _ _ _
   | exact ih2 _ _ _ _ _ _ _ _
   | exact graph_Joined.mono _ _
   | exact sequence_Safe.mono _ _ _ _
   | exact LeO.none _
   | refine LeO.ite ?_ ?_
   | refine LeO.bind ?_ (fun _ => ?_)
  ·intro y0 y1 y2 y3 y4 y5 y6 y7
   unfold dynamolaw23_SequenceSafe.j2
   repeat' first
   | (with_reducible exact ih0 _ _ _ _ _)
   | (with_reducible exact ih1 _ _ _ _ _ _)
   | (with_reducible exact ih2 _ _ _ _ _ _ _ _)
   | (with_reducible exact graph_Joined.mono _ _)
   | (with_reducible exact sequence_Safe.mono _ _ _ _)
   | (with_reducible exact LeO.refl _)
   | (with_reducible exact LeO.none _)
   | (with_reducible refine LeO.ite ?_ ?_)
   | (with_reducible refine LeO.bind ?_ (fun _ => ?_))
   | exact ih0 _ _ _ _ _
   | exact ih1 _ _ _ _ _ _
   | exact ih2 _ _ _ _ _ _ _ _
   | exact graph_Joined.mono _ _
   | exact sequence_Safe.mono _ _ _ _
   | exact LeO.none _
   | refine LeO.ite ?_ ?_
   | refine LeO.bind ?_ (fun _ => ?_)
theorem dynamolaw23_SequenceSafe.mono : ∀ a0 a1 a2 a3 k, LeO (dynamolaw23_SequenceSafe.f k a0 a1 a2 a3) (dynamolaw23_SequenceSafe.f (k + 1) a0 a1 a2 a3) := by
 intro a0 a1 a2 a3 k
 obtain ⟨ih0, ih1, ih2⟩ := dynamolaw23_SequenceSafe.mono_l k
 unfold dynamolaw23_SequenceSafe.f
 repeat' first
   | (with_reducible exact ih0 _ _ _ _ _)
   | (with_reducible exact ih1 _ _ _ _ _ _)
   | (with_reducible exact ih2 _ _ _ _ _ _ _ _)
   | (with_reducible exact graph_Joined.mono _ _)
   | (with_reducible exact sequence_Safe.mono _ _ _ _)
   | (with_reducible exact LeO.refl _)
   | (with_reducible exact LeO.none _)
   | (with_reducible refine LeO.ite ?_ ?_)
   | (with_reducible refine LeO.bind ?_ (fun _ => ?_))
   | exact ih0 _ _ _ _ _
   | exact ih1 _ _ _ _ _ _
   | exact ih2 _ _ _ _ _ _ _ _
   | exact graph_Joined.mono _ _
   | exact sequence_Safe.mono _ _ _ _
   | exact LeO.none _
   | refine LeO.ite ?_ ?_
   | refine LeO.bind ?_ (fun _ => ?_)
set_option maxHeartbeats 8000000 in
set_option maxRecDepth 100000 in
theorem dynamolaw23_SequenceSafe.calls (k : Nat) (A0 : Option Addr) (c0 : Nat) (l0 : List Int) (A1 : Option Addr) (c1 : Nat) (l1 : List Int) (a2 : Int) (a3 : Int) (w : World) (hr0 : Kd.C (Kd.int .i64) w A0 l0.length l0) (hc0 : l0.length ≤ c0) (hr1 : Kd.C (Kd.int .i64) w A1 l1.length l1) (hc1 : l1.length ≤ c1) (h : dynamolaw23_SequenceSafe.f k l0 l1 a2 a3 = some true) :
  Calls Try.prog 10 #[.slice A0 l0.length c0, .slice A1 l1.length c1, .int .i64 a2, .int .i64 a3] w fun e w' => e = .returned (.bool true) ∧ Drawn0 w w' := by
 have HR0 := Aside0.mk hr0
 have HC0 := Aside0.mk hc0
 clear hr0 hc0
 have HR1 := Aside0.mk hr1
 have HC1 := Aside0.mk hc1
 clear hr1 hc1
 have H : ((dynamolaw23_first.f).bind fun t110 => (if t110 = true then (if (l0.length : Int) > 60 then (dynamolaw23_SequenceSafe.j0 k l0 l1 a3 t110 true) else (dynamolaw23_SequenceSafe.j0 k l0 l1 a3 t110 (decide ((l1.length : Int) < (l0.length : Int))))) else (some false))) = some true := h
 clear h
 replace H := Option.bind_eq_some_iff.mp H
 obtain ⟨t110, A50, H⟩ := H
 replace H : (if t110 = true then (if (l0.length : Int) > 60 then (dynamolaw23_SequenceSafe.j0 k l0 l1 a3 t110 true) else (dynamolaw23_SequenceSafe.j0 k l0 l1 a3 t110 (decide ((l1.length : Int) < (l0.length : Int))))) else (some false)) = some true := H
 have A5 := Aside0.mk A50
 clear A50
 by_cases c6 : t110 = true
 ·subst c6
  have H1 : (if (l0.length : Int) > 60 then (dynamolaw23_SequenceSafe.j0 k l0 l1 a3 true true) else (dynamolaw23_SequenceSafe.j0 k l0 l1 a3 true (decide ((l1.length : Int) < (l0.length : Int))))) = some true := by first | (rw [if_pos rfl] at H; exact H) | exact H | rfl
  clear H
  have H := H1
  clear H1
  have HC7 := Aside0.mk H
  clear H
  go_enter Try.func10, Try.ntmps10
  go_upto_region 4 with (first | ((with_reducible refine gate_callee (f := 24) rfl ?_); refine goesL_ (some 13) rfl rfl Try.func24 (by kernel_rfl) rfl #[] rfl (by (try simp only [List.map_toArray, List.map_cons, List.map_nil]); first | done | rfl | (simp only [List.length_drop, List.length_take]; rfl)) ?_; (with_reducible refine (dynamolaw23_first.calls  true _ A5.out).mono ?_); rintro e w' ⟨rfl, ⟨nd, rfl⟩⟩; refine ⟨_, rfl, ?_⟩))
  (try simp only [Act.put, List.setIfInBounds_toArray, List.set_cons_zero, List.set_cons_succ])
  go_cut [25] (fun v25 wc => ∃ (kq : Nat) (x25_6 : Bool), v25 = .bool x25_6 ∧ Aside0 (dynamolaw23_SequenceSafe.j0 kq l0 l1 a3 true x25_6 = some true) ∧ Aside0 (kq ≤ k) ∧ Drawn0 w wc)
  case first =>
   have H := HC7.out
   clear HC7
   by_cases c8 : (l0.length : Int) > 60
   ·rw [if_pos c8] at H
    have c8b0 : decide (60 < (l0.length : Int)) = true := decide_eq_true c8
    have c8b1 : decide (60 < l0.length) = true := decide_eq_true (by omega)
    clear c8
    (first | rw [c8b0] | (simp only [i64_w, i32_w]; rw [c8b0]) | skip)
    have H' := Aside0.mk H
    clear H
    go_wp2
    go_meet
    case rel => exact ⟨_, (true), (by first | rfl | (simp; done) | (simp [*]; done)), H', ⟨by first | omega | exact Nat.le_refl _⟩, by repeat (first | exact Drawn0.refl _ | apply Drawn0.step)⟩
   ·rw [if_neg c8] at H
    have c8b0 : decide (60 < (l0.length : Int)) = false := decide_eq_false c8
    have c8b1 : decide (60 < l0.length) = false := decide_eq_false (by omega)
    clear c8
    (first | rw [c8b0] | (simp only [i64_w, i32_w]; rw [c8b0]) | skip)
    have H' := Aside0.mk H
    clear H
    go_wp2
    go_meet
    case rel => exact ⟨_, (decide ((l1.length : Int) < (l0.length : Int))), (by first | rfl | (simp; done) | (simp [*]; done)), H', ⟨by first | omega | exact Nat.le_refl _⟩, by repeat (first | exact Drawn0.refl _ | apply Drawn0.step)⟩
  case rest =>
   clear HC7
   try clear c1
   try clear c2
   try clear p2
   try clear c6
   try clear c8
   try clear c8b0
   try clear c8b1
   obtain ⟨kq, x25_6, rfl, HA, HJ6, ⟨mc6, rfl⟩⟩ := hcut
   cases kq with
   | zero => exact absurd HA.out (by simp [dynamolaw23_SequenceSafe.j0])
   | succ kj6 =>
    have H := HA.out
    clear HA
    simp only [dynamolaw23_SequenceSafe.j0] at H
    by_cases c9 : x25_6 = true
    ·subst c9
     have H1 : (some true) = some true := by first | (rw [if_pos rfl] at H; exact H) | exact H | rfl
     clear H
     have H := H1
     clear H1
     have HLAST := Aside0.mk (Option.some.inj H)
     clear H
     go_wp2
     all_goals (try go_ret)
     all_goals first | (exfalso; simp_all; done) | exact ⟨by first | rfl | (rw [HLAST.out]; done) | (simp [HLAST.out]; done) | (have HL_ := HLAST.out; simp_all; done) | (simp; done) | (simp [*]; done), by repeat (first | exact Drawn0.refl _ | apply Drawn0.step)⟩
    ·replace c9 := Bool.eq_false_iff.mpr c9
     subst c9
     have H1 : ((dynamoworld_Number.f a3 128).bind fun t111 => (dynamolaw23_SequenceSafe.l0 kj6 l0 l1 0 t111 true 0)) = some true := by first | (rw [if_neg (show ¬ (false = true) by decide)] at H; exact H) | exact H | rfl
     clear H
     have H := H1
     clear H1
     replace H := Option.bind_eq_some_iff.mp H
     obtain ⟨t111, A100, H⟩ := H
     replace H : (dynamolaw23_SequenceSafe.l0 kj6 l0 l1 0 t111 true 0) = some true := H
     have A10 := Aside0.mk A100
     clear A100
     have H' := Aside0.mk H
     clear H
     go_wp2_with (first | ((with_reducible refine gate_callee (f := 22) rfl ?_); refine goesL_ (some 28) rfl rfl Try.func22 (by kernel_rfl) rfl #[.int .i64 a3, .int .i64 128] rfl (by (try simp only [List.map_toArray, List.map_cons, List.map_nil]); first | done | rfl | (simp only [List.length_drop, List.length_take]; rfl)) ?_; (with_reducible refine (dynamoworld_Number.calls a3 128 t111 _ A10.out).mono ?_); rintro e w' ⟨rfl, ⟨nd, rfl⟩⟩; refine ⟨_, rfl, ?_⟩))
     go_loopg [2, 3, 10] kj6 (fun kq v2 v3 v10 w' => ∃ (x2_2 : Int) (x3_2 : Int) (x10_2 : Int), v2 = .int .i64 x2_2 ∧ v3 = .int .i64 x3_2 ∧ v10 = .int .i64 x10_2 ∧ Aside0 (dynamolaw23_SequenceSafe.l0 kq l0 l1 x2_2 x3_2 true x10_2 = some true) ∧ Aside0 (kq ≤ kj6) ∧ Drawn0 w w')
     case atStart => exact ⟨(0), (t111), (0), (by first | rfl | (simp; done) | (simp [*]; done)), (by first | rfl | (simp; done) | (simp [*]; done)), (by first | rfl | (simp; done) | (simp [*]; done)), H', ⟨Nat.le_refl _⟩, by repeat (first | exact Drawn0.refl _ | apply Drawn0.step)⟩
     case round =>
      clear H'
      try clear c1
      try clear c2
      try clear p2
      try clear c6
      try clear c8
      try clear c8b0
      try clear c8b1
      try clear c9
      try clear c10
      try clear p2
      obtain ⟨x2_2, x3_2, x10_2, rfl, rfl, rfl, HA, HK2, ⟨m2, rfl⟩⟩ := hrel
      cases gk with
      | zero => exact absurd HA.out (by simp [dynamolaw23_SequenceSafe.l0])
      | succ k2 =>
       have H := HA.out
       clear HA
       simp only [dynamolaw23_SequenceSafe.l0] at H
       by_cases c11 : x10_2 < (l0.length : Int)
       ·rw [if_pos c11] at H
        have c11b0 : decide (x10_2 < (l0.length : Int)) = true := decide_eq_true c11
        clear c11
        by_cases c12 : 0 ≤ x10_2
        ·rw [if_pos c12] at H
         have c12b0 : decide (0 ≤ x10_2) = true := decide_eq_true c12
         clear c12
         replace H := Option.bind_eq_some_iff.mp H
         obtain ⟨t113, A130, H⟩ := H
         replace H : ((graph_Joined.f k2 t113).bind fun t114 => (if t114 = true then (dynamolaw23_SequenceSafe.l0 k2 l0 l1 x2_2 x3_2 true (wrap64 (x10_2 + 1))) else ((sequence_Next.f t113 x2_2 x3_2).bind fun t115 => ((sequence_Safe.f k2 x2_2 x3_2 t115).bind fun t116 => (if t116 = true then (dynamolaw23_SequenceSafe.j2 k2 l0 l1 x2_2 x3_2 true x10_2 t115 ((Go.bits .andNot .i64 t115 t113) != 0)) else (dynamolaw23_SequenceSafe.j2 k2 l0 l1 x2_2 x3_2 true x10_2 t115 true)))))) = some true := H
         have A13 := Aside0.mk A130
         clear A130
         replace H := Option.bind_eq_some_iff.mp H
         obtain ⟨t114, A140, H⟩ := H
         replace H : (if t114 = true then (dynamolaw23_SequenceSafe.l0 k2 l0 l1 x2_2 x3_2 true (wrap64 (x10_2 + 1))) else ((sequence_Next.f t113 x2_2 x3_2).bind fun t115 => ((sequence_Safe.f k2 x2_2 x3_2 t115).bind fun t116 => (if t116 = true then (dynamolaw23_SequenceSafe.j2 k2 l0 l1 x2_2 x3_2 true x10_2 t115 ((Go.bits .andNot .i64 t115 t113) != 0)) else (dynamolaw23_SequenceSafe.j2 k2 l0 l1 x2_2 x3_2 true x10_2 t115 true))))) = some true := H
         have A14 := Aside0.mk A140
         clear A140
         by_cases c15 : t114 = true
         ·subst c15
          have H1 : (dynamolaw23_SequenceSafe.l0 k2 l0 l1 x2_2 x3_2 true (wrap64 (x10_2 + 1))) = some true := by first | (rw [if_pos rfl] at H; exact H) | exact H | rfl
          clear H
          have H := H1
          clear H1
          have H' := Aside0.mk H
          clear H
          have p112 : 0 ≤ (x10_2 : Int) := of_decide_eq_true (by first | (with_reducible assumption) | assumption)
          have q112 : x10_2 < (l0.length : Int) := of_decide_eq_true (by first | (with_reducible assumption) | assumption)
          obtain ⟨ad112, e112, hx112_0⟩ := Kd.at_int HR0.out x10_2 p112 q112
          cases e112
          replace p112 := eq_true p112
          replace q112 := eq_true q112
          go_wp2_with (first | ((with_reducible refine gate_callee (f := 22) rfl ?_); refine goesL_ (some 39) rfl rfl Try.func22 (by kernel_rfl) rfl #[.int .i64 (rd l0 x10_2), .int .i64 128] rfl (by (try simp only [List.map_toArray, List.map_cons, List.map_nil]); first | done | rfl | (simp only [List.length_drop, List.length_take]; rfl)) ?_; (with_reducible refine (dynamoworld_Number.calls (rd l0 x10_2) 128 t113 _ A13.out).mono ?_); rintro e w' ⟨rfl, ⟨nd, rfl⟩⟩; refine ⟨_, rfl, ?_⟩) | ((with_reducible refine gate_callee (f := 29) rfl ?_); refine goesL_ (some 41) rfl rfl Try.func29 (by kernel_rfl) rfl #[.int .i64 t113] rfl (by (try simp only [List.map_toArray, List.map_cons, List.map_nil]); first | done | rfl | (simp only [List.length_drop, List.length_take]; rfl)) ?_; (with_reducible refine (graph_Joined.calls k2 t113 true _ A14.out).mono ?_); rintro e w' ⟨rfl, ⟨nd, rfl⟩⟩; refine ⟨_, rfl, ?_⟩))
          go_roundg k2
          case measure => have := HJ6.out; have := HK2.out; omega
          case rel => exact ⟨(x2_2), (x3_2), (wrap64 (x10_2 + 1)), (by first | rfl | (simp; done) | (simp [*]; done)), (by first | rfl | (simp; done) | (simp [*]; done)), (by first | rfl | (simp; done) | (simp [*]; done)), H', ⟨by have := HJ6.out; have := HK2.out; omega⟩, by repeat (first | exact Drawn0.refl _ | apply Drawn0.step)⟩
         ·replace c15 := Bool.eq_false_iff.mpr c15
          subst c15
          have H1 : ((sequence_Next.f t113 x2_2 x3_2).bind fun t115 => ((sequence_Safe.f k2 x2_2 x3_2 t115).bind fun t116 => (if t116 = true then (dynamolaw23_SequenceSafe.j2 k2 l0 l1 x2_2 x3_2 true x10_2 t115 ((Go.bits .andNot .i64 t115 t113) != 0)) else (dynamolaw23_SequenceSafe.j2 k2 l0 l1 x2_2 x3_2 true x10_2 t115 true)))) = some true := by first | (rw [if_neg (show ¬ (false = true) by decide)] at H; exact H) | exact H | rfl
          clear H
          have H := H1
          clear H1
          replace H := Option.bind_eq_some_iff.mp H
          obtain ⟨t115, A160, H⟩ := H
          replace H : ((sequence_Safe.f k2 x2_2 x3_2 t115).bind fun t116 => (if t116 = true then (dynamolaw23_SequenceSafe.j2 k2 l0 l1 x2_2 x3_2 true x10_2 t115 ((Go.bits .andNot .i64 t115 t113) != 0)) else (dynamolaw23_SequenceSafe.j2 k2 l0 l1 x2_2 x3_2 true x10_2 t115 true))) = some true := H
          have A16 := Aside0.mk A160
          clear A160
          have HC17 := Aside0.mk H
          clear H
          have p112 : 0 ≤ (x10_2 : Int) := of_decide_eq_true (by first | (with_reducible assumption) | assumption)
          have q112 : x10_2 < (l0.length : Int) := of_decide_eq_true (by first | (with_reducible assumption) | assumption)
          obtain ⟨ad112, e112, hx112_0⟩ := Kd.at_int HR0.out x10_2 p112 q112
          cases e112
          replace p112 := eq_true p112
          replace q112 := eq_true q112
          go_upto_region 14 with (first | ((with_reducible refine gate_callee (f := 22) rfl ?_); refine goesL_ (some 39) rfl rfl Try.func22 (by kernel_rfl) rfl #[.int .i64 (rd l0 x10_2), .int .i64 128] rfl (by (try simp only [List.map_toArray, List.map_cons, List.map_nil]); first | done | rfl | (simp only [List.length_drop, List.length_take]; rfl)) ?_; (with_reducible refine (dynamoworld_Number.calls (rd l0 x10_2) 128 t113 _ A13.out).mono ?_); rintro e w' ⟨rfl, ⟨nd, rfl⟩⟩; refine ⟨_, rfl, ?_⟩) | ((with_reducible refine gate_callee (f := 29) rfl ?_); refine goesL_ (some 41) rfl rfl Try.func29 (by kernel_rfl) rfl #[.int .i64 t113] rfl (by (try simp only [List.map_toArray, List.map_cons, List.map_nil]); first | done | rfl | (simp only [List.length_drop, List.length_take]; rfl)) ?_; (with_reducible refine (graph_Joined.calls k2 t113 false _ A14.out).mono ?_); rintro e w' ⟨rfl, ⟨nd, rfl⟩⟩; refine ⟨_, rfl, ?_⟩) | ((with_reducible refine gate_callee (f := 25) rfl ?_); refine goesL_ (some 45) rfl rfl Try.func25 (by kernel_rfl) rfl #[.int .i64 t113, .int .i64 x2_2, .int .i64 x3_2] rfl (by (try simp only [List.map_toArray, List.map_cons, List.map_nil]); first | done | rfl | (simp only [List.length_drop, List.length_take]; rfl)) ?_; (with_reducible refine (sequence_Next.calls t113 x2_2 x3_2 t115 _ A16.out).mono ?_); rintro e w' ⟨rfl, ⟨nd, rfl⟩⟩; refine ⟨_, rfl, ?_⟩))
          (try simp only [Act.put, List.setIfInBounds_toArray, List.set_cons_zero, List.set_cons_succ])
          go_cut [56] (fun v56 wc => ∃ (kq : Nat) (x56_16 : Bool), v56 = .bool x56_16 ∧ Aside0 (dynamolaw23_SequenceSafe.j2 kq l0 l1 x2_2 x3_2 true x10_2 t115 x56_16 = some true) ∧ Aside0 (kq ≤ k2) ∧ Drawn0 w wc)
          case first =>
           have H := HC17.out
           clear HC17
           replace H := Option.bind_eq_some_iff.mp H
           obtain ⟨t116, A180, H⟩ := H
           replace H : (if t116 = true then (dynamolaw23_SequenceSafe.j2 k2 l0 l1 x2_2 x3_2 true x10_2 t115 ((Go.bits .andNot .i64 t115 t113) != 0)) else (dynamolaw23_SequenceSafe.j2 k2 l0 l1 x2_2 x3_2 true x10_2 t115 true)) = some true := H
           have A18 := Aside0.mk A180
           clear A180
           by_cases c19 : t116 = true
           ·subst c19
            have H1 : (dynamolaw23_SequenceSafe.j2 k2 l0 l1 x2_2 x3_2 true x10_2 t115 ((Go.bits .andNot .i64 t115 t113) != 0)) = some true := by first | (rw [if_pos rfl] at H; exact H) | exact H | rfl
            clear H
            have H := H1
            clear H1
            have H' := Aside0.mk H
            clear H
            go_wp2_with (first | ((with_reducible refine gate_callee (f := 27) rfl ?_); refine goesL_ (some 49) rfl rfl Try.func27 (by kernel_rfl) rfl #[.int .i64 x2_2, .int .i64 x3_2, .int .i64 t115] rfl (by (try simp only [List.map_toArray, List.map_cons, List.map_nil]); first | done | rfl | (simp only [List.length_drop, List.length_take]; rfl)) ?_; (with_reducible refine (sequence_Safe.calls k2 x2_2 x3_2 t115 true _ A18.out).mono ?_); rintro e w' ⟨rfl, ⟨nd, rfl⟩⟩; refine ⟨_, rfl, ?_⟩))
            go_meet
            case rel => exact ⟨_, (((Go.bits .andNot .i64 t115 t113) != 0)), (by first | rfl | (simp; done) | (simp [*]; done)), H', ⟨by have := HJ6.out; have := HK2.out; first | omega | exact Nat.le_refl _⟩, by repeat (first | exact Drawn0.refl _ | apply Drawn0.step)⟩
           ·replace c19 := Bool.eq_false_iff.mpr c19
            subst c19
            have H1 : (dynamolaw23_SequenceSafe.j2 k2 l0 l1 x2_2 x3_2 true x10_2 t115 true) = some true := by first | (rw [if_neg (show ¬ (false = true) by decide)] at H; exact H) | exact H | rfl
            clear H
            have H := H1
            clear H1
            have H' := Aside0.mk H
            clear H
            go_wp2_with (first | ((with_reducible refine gate_callee (f := 27) rfl ?_); refine goesL_ (some 49) rfl rfl Try.func27 (by kernel_rfl) rfl #[.int .i64 x2_2, .int .i64 x3_2, .int .i64 t115] rfl (by (try simp only [List.map_toArray, List.map_cons, List.map_nil]); first | done | rfl | (simp only [List.length_drop, List.length_take]; rfl)) ?_; (with_reducible refine (sequence_Safe.calls k2 x2_2 x3_2 t115 false _ A18.out).mono ?_); rintro e w' ⟨rfl, ⟨nd, rfl⟩⟩; refine ⟨_, rfl, ?_⟩))
            go_meet
            case rel => exact ⟨_, (true), (by first | rfl | (simp; done) | (simp [*]; done)), H', ⟨by have := HJ6.out; have := HK2.out; first | omega | exact Nat.le_refl _⟩, by repeat (first | exact Drawn0.refl _ | apply Drawn0.step)⟩
          case rest =>
           clear HC17
           try clear c1
           try clear p1
           try clear q1
           try clear hx1
           try clear c2
           try clear p2
           try clear c6
           try clear p6
           try clear c8
           try clear c8b0
           try clear c8b1
           try clear c9
           try clear c10
           try clear c11
           try clear c11b0
           try clear p11
           try clear q11
           try clear hx11
           try clear c12
           try clear c12b0
           try clear c15
           try clear c19
           try clear hx112_0
           try clear p112
           try clear p2
           try clear q112
           obtain ⟨kq, x56_16, rfl, HA, HJ16, ⟨mc16, rfl⟩⟩ := hcut
           cases kq with
           | zero => exact absurd HA.out (by simp [dynamolaw23_SequenceSafe.j2])
           | succ kj16 =>
            have H := HA.out
            clear HA
            simp only [dynamolaw23_SequenceSafe.j2] at H
            by_cases c20 : x56_16 = true
            ·subst c20
             have H1 : (some false) = some true := by first | (rw [if_pos rfl] at H; exact H) | exact H | rfl
             clear H
             have H := H1
             clear H1
             exact absurd H (by simp)
            ·replace c20 := Bool.eq_false_iff.mpr c20
             subst c20
             have H1 : (if (Go.bits .andNot .i64 t115 x2_2) = 0 then (if 0 ≤ x10_2 then (if x10_2 < (l1.length : Int) then ((dynamoworld_Number.f (rd l1 x10_2) 128).bind fun t118 => (dynamolaw23_SequenceSafe.l0 kj16 l0 l1 t115 (Go.bits .or .i64 t115 (Go.bits .and .i64 x3_2 t118)) true (wrap64 (x10_2 + 1)))) else (none)) else (none)) else ((graph_Joined.f kj16 (Go.bits .or .i64 (Go.bits .or .i64 t115 x3_2) x2_2)).bind fun t119 => (if t119 = true then (some false) else (if 0 ≤ x10_2 then (if x10_2 < (l1.length : Int) then ((dynamoworld_Number.f (rd l1 x10_2) 128).bind fun t121 => (dynamolaw23_SequenceSafe.l0 kj16 l0 l1 t115 (Go.bits .or .i64 t115 (Go.bits .and .i64 x3_2 t121)) true (wrap64 (x10_2 + 1)))) else (none)) else (none))))) = some true := by first | (rw [if_neg (show ¬ (false = true) by decide)] at H; exact H) | exact H | rfl
             clear H
             have H := H1
             clear H1
             by_cases c21 : (Go.bits .andNot .i64 t115 x2_2) = 0
             ·rw [if_pos c21] at H
              have c21b0 : ((Go.bits .andNot .i64 t115 x2_2) == 0) = true := beq_iff_eq.mpr c21
              have c21b1 : ((Go.bits .andNot .i64 t115 x2_2) != 0) = false := bne_eq_false_iff_eq.mpr c21
              clear c21
              by_cases c22 : 0 ≤ x10_2
              ·rw [if_pos c22] at H
               have c22b0 : decide (0 ≤ x10_2) = true := decide_eq_true c22
               clear c22
               by_cases c23 : x10_2 < (l1.length : Int)
               ·rw [if_pos c23] at H
                have c23b0 : decide (x10_2 < (l1.length : Int)) = true := decide_eq_true c23
                clear c23
                replace H := Option.bind_eq_some_iff.mp H
                obtain ⟨t118, A240, H⟩ := H
                replace H : (dynamolaw23_SequenceSafe.l0 kj16 l0 l1 t115 (Go.bits .or .i64 t115 (Go.bits .and .i64 x3_2 t118)) true (wrap64 (x10_2 + 1))) = some true := H
                have A24 := Aside0.mk A240
                clear A240
                have H' := Aside0.mk H
                clear H
                have p117 : 0 ≤ (x10_2 : Int) := of_decide_eq_true (by first | (with_reducible assumption) | assumption)
                have q117 : x10_2 < (l1.length : Int) := of_decide_eq_true (by first | (with_reducible assumption) | assumption)
                obtain ⟨ad117, e117, hx117_0⟩ := Kd.at_int HR1.out x10_2 p117 q117
                cases e117
                replace p117 := eq_true p117
                replace q117 := eq_true q117
                go_wp2_with (first | ((with_reducible refine gate_callee (f := 22) rfl ?_); refine goesL_ (some 76) rfl rfl Try.func22 (by kernel_rfl) rfl #[.int .i64 (rd l1 x10_2), .int .i64 128] rfl (by (try simp only [List.map_toArray, List.map_cons, List.map_nil]); first | done | rfl | (simp only [List.length_drop, List.length_take]; rfl)) ?_; (with_reducible refine (dynamoworld_Number.calls (rd l1 x10_2) 128 t118 _ A24.out).mono ?_); rintro e w' ⟨rfl, ⟨nd, rfl⟩⟩; refine ⟨_, rfl, ?_⟩))
                go_roundg kj16
                case measure => have := HJ6.out; have := HK2.out; have := HJ16.out; omega
                case rel => exact ⟨(t115), (Go.bits .or .i64 t115 (Go.bits .and .i64 x3_2 t118)), (wrap64 (x10_2 + 1)), (by first | rfl | (simp; done) | (simp [*]; done)), (by first | rfl | (simp; done) | (simp [*]; done)), (by first | rfl | (simp; done) | (simp [*]; done)), H', ⟨by have := HJ6.out; have := HK2.out; have := HJ16.out; omega⟩, by repeat (first | exact Drawn0.refl _ | apply Drawn0.step)⟩
               ·rw [if_neg c23] at H
                exact absurd H (by simp)
              ·rw [if_neg c22] at H
               exact absurd H (by simp)
             ·rw [if_neg c21] at H
              have c21b0 : ((Go.bits .andNot .i64 t115 x2_2) == 0) = false := beq_eq_false_iff_ne.mpr c21
              have c21b1 : ((Go.bits .andNot .i64 t115 x2_2) != 0) = true := bne_iff_ne.mpr c21
              replace H := Option.bind_eq_some_iff.mp H
              obtain ⟨t119, A250, H⟩ := H
              replace H : (if t119 = true then (some false) else (if 0 ≤ x10_2 then (if x10_2 < (l1.length : Int) then ((dynamoworld_Number.f (rd l1 x10_2) 128).bind fun t121 => (dynamolaw23_SequenceSafe.l0 kj16 l0 l1 t115 (Go.bits .or .i64 t115 (Go.bits .and .i64 x3_2 t121)) true (wrap64 (x10_2 + 1)))) else (none)) else (none))) = some true := H
              have A25 := Aside0.mk A250
              clear A250
              by_cases c26 : t119 = true
              ·subst c26
               have H1 : (some false) = some true := by first | (rw [if_pos rfl] at H; exact H) | exact H | rfl
               clear H
               have H := H1
               clear H1
               exact absurd H (by simp)
              ·replace c26 := Bool.eq_false_iff.mpr c26
               subst c26
               have H1 : (if 0 ≤ x10_2 then (if x10_2 < (l1.length : Int) then ((dynamoworld_Number.f (rd l1 x10_2) 128).bind fun t121 => (dynamolaw23_SequenceSafe.l0 kj16 l0 l1 t115 (Go.bits .or .i64 t115 (Go.bits .and .i64 x3_2 t121)) true (wrap64 (x10_2 + 1)))) else (none)) else (none)) = some true := by first | (rw [if_neg (show ¬ (false = true) by decide)] at H; exact H) | exact H | rfl
               clear H
               have H := H1
               clear H1
               by_cases c27 : 0 ≤ x10_2
               ·rw [if_pos c27] at H
                have c27b0 : decide (0 ≤ x10_2) = true := decide_eq_true c27
                clear c27
                by_cases c28 : x10_2 < (l1.length : Int)
                ·rw [if_pos c28] at H
                 have c28b0 : decide (x10_2 < (l1.length : Int)) = true := decide_eq_true c28
                 clear c28
                 replace H := Option.bind_eq_some_iff.mp H
                 obtain ⟨t121, A290, H⟩ := H
                 replace H : (dynamolaw23_SequenceSafe.l0 kj16 l0 l1 t115 (Go.bits .or .i64 t115 (Go.bits .and .i64 x3_2 t121)) true (wrap64 (x10_2 + 1))) = some true := H
                 have A29 := Aside0.mk A290
                 clear A290
                 have H' := Aside0.mk H
                 clear H
                 go_wp2_with (first | (go_at_call 29; (with_reducible refine (graph_Joined.calls kj16 (Go.bits .or .i64 (Go.bits .or .i64 t115 x3_2) x2_2) false _ A25.out).mono ?_); rintro e w' ⟨rfl, ⟨nd, rfl⟩⟩; have p120 : 0 ≤ (x10_2 : Int) := of_decide_eq_true (by first | (with_reducible assumption) | assumption); have q120 : x10_2 < (l1.length : Int) := of_decide_eq_true (by first | (with_reducible assumption) | assumption); obtain ⟨ad120, e120, hx120_0⟩ := Kd.at_int HR1.out x10_2 p120 q120; cases e120; replace p120 := eq_true p120; replace q120 := eq_true q120) | ((with_reducible refine gate_callee (f := 22) rfl ?_); refine goesL_ (some 76) rfl rfl Try.func22 (by kernel_rfl) rfl #[.int .i64 (rd l1 x10_2), .int .i64 128] rfl (by (try simp only [List.map_toArray, List.map_cons, List.map_nil]); first | done | rfl | (simp only [List.length_drop, List.length_take]; rfl)) ?_; (with_reducible refine (dynamoworld_Number.calls (rd l1 x10_2) 128 t121 _ A29.out).mono ?_); rintro e w' ⟨rfl, ⟨nd, rfl⟩⟩; refine ⟨_, rfl, ?_⟩))
                 go_roundg kj16
                 case measure => have := HJ6.out; have := HK2.out; have := HJ16.out; omega
                 case rel => exact ⟨(t115), (Go.bits .or .i64 t115 (Go.bits .and .i64 x3_2 t121)), (wrap64 (x10_2 + 1)), (by first | rfl | (simp; done) | (simp [*]; done)), (by first | rfl | (simp; done) | (simp [*]; done)), (by first | rfl | (simp; done) | (simp [*]; done)), H', ⟨by have := HJ6.out; have := HK2.out; have := HJ16.out; omega⟩, by repeat (first | exact Drawn0.refl _ | apply Drawn0.step)⟩
                ·rw [if_neg c28] at H
                 exact absurd H (by simp)
               ·rw [if_neg c27] at H
                exact absurd H (by simp)
        ·rw [if_neg c12] at H
         exact absurd H (by simp)
       ·rw [if_neg c11] at H
        have c11b0 : decide (x10_2 < (l0.length : Int)) = false := decide_eq_false c11
        clear c11
        have HLAST := Aside0.mk (Option.some.inj H)
        clear H
        go_wp2
        all_goals (try go_ret)
        all_goals first | (exfalso; simp_all; done) | exact ⟨by first | rfl | (rw [HLAST.out]; done) | (simp [HLAST.out]; done) | (have HL_ := HLAST.out; simp_all; done) | (simp; done) | (simp [*]; done), by repeat (first | exact Drawn0.refl _ | apply Drawn0.step)⟩
 ·replace c6 := Bool.eq_false_iff.mpr c6
  subst c6
  have H1 : (some false) = some true := by first | (rw [if_neg (show ¬ (false = true) by decide)] at H; exact H) | exact H | rfl
  clear H
  have H := H1
  clear H1
  exact absurd H (by simp)

/-- THE ONE PURE STATEMENT of dynamolaw23_SequenceSafe: yours. -/
def dynamolaw23_SequenceSafe.Pure : Prop := ∀ (l0 : List Int) (l1 : List Int) (a2 : Int) (a3 : Int), l0.length ≤ maxLen → l0.length * 8 ≤ 140737488351232 → (∀ x ∈ l0, (Lit.int .i64 x).wf = true) → l1.length ≤ maxLen → l1.length * 8 ≤ 140737488351232 → (∀ x ∈ l1, (Lit.int .i64 x).wf = true) → (Lit.int .i64 a2).wf = true → (Lit.int .i64 a3).wf = true → ∃ k, dynamolaw23_SequenceSafe.f k l0 l1 a2 a3 = some true
theorem dynamolaw23_SequenceSafe.walk (P : dynamolaw23_SequenceSafe.Pure) (a0 : Option Addr) (len0 cap0 : Nat) (z0 : List Int) (a1 : Option Addr) (len1 cap1 : Nat) (z1 : List Int) (a2 : Int) (a3 : Int) (w : World) (w0 : (a0 = none ∧ len0 = 0 ∧ cap0 = 0 ∧ z0 = []) ∨ ∃ x, a0 = some x ∧ len0 ≤ cap0 ∧ cap0 ≤ maxLen ∧ z0.length = cap0 ∧ (∀ i, i < z0.length → w.cell? (x.add i) = some (.int .i64 (z0.getD i 0))) ∧ ∀ n ∈ z0, (Lit.int .i64 n).wf = true) (y0 : len0 * 8 ≤ 140737488351232) (w1 : (a1 = none ∧ len1 = 0 ∧ cap1 = 0 ∧ z1 = []) ∨ ∃ x, a1 = some x ∧ len1 ≤ cap1 ∧ cap1 ≤ maxLen ∧ z1.length = cap1 ∧ (∀ i, i < z1.length → w.cell? (x.add i) = some (.int .i64 (z1.getD i 0))) ∧ ∀ n ∈ z1, (Lit.int .i64 n).wf = true) (y1 : len1 * 8 ≤ 140737488351232) (w2 : (Lit.int .i64 a2).wf = true) (w3 : (Lit.int .i64 a3).wf = true) :
  Calls Try.prog 10 #[.slice a0 len0 cap0, .slice a1 len1 cap1, .int .i64 a2, .int .i64 a3] w fun e w' => e = .returned (.bool true) ∧ Below w.heap.size w w' := by
 obtain ⟨l0, rfl, hr0, hm0, hw0, hc0⟩ := ReadsInt.ofRowC w0
 obtain ⟨l1, rfl, hr1, hm1, hw1, hc1⟩ := ReadsInt.ofRowC w1
 obtain ⟨k, h⟩ := P l0 l1 a2 a3 hm0 y0 hw0 hm1 y1 hw1 w2 w3
 refine (dynamolaw23_SequenceSafe.calls k _ _ l0 _ _ l1 a2 a3 w (Kd.C_of_reads (d := (0 : Int)) (h1 := fun _ => rfl) hr0) hc0 (Kd.C_of_reads (d := (0 : Int)) (h1 := fun _ => rfl) hr1) hc1 h).mono ?_
 rintro e w' ⟨rfl, hd⟩
 exact ⟨rfl, hd.below⟩

end Go.Proofs.Ytjmggdccmggboaa.PSequenceSafe
