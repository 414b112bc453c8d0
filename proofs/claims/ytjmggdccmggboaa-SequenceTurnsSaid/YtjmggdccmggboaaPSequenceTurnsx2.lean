-- written by this work with wip/mkprint2.py
import Derived.Test.YtjmggdccmggboaaPSequenceTurnsx0
import Derived.Test.YtjmggdccmggboaaPSequenceTurnsx1
namespace Go.Proofs.Ytjmggdccmggboaa.PSequenceTurns
open Go.RowKit Go.Proofs.YtjmggdccmggboaaW.PrintWords Go.Proofs.YtjmggdccmggboaaW.PrintLast Go.Proofs.YtjmggdccmggboaaW.PrintMore
attribute [local go_sem] max2_int min2_int max_two min_two max_three min_three max_four min_four   -- for this text's walks alone
set_option linter.unusedVariables false
set_option linter.unusedSimpArgs false

/-! ### dynamolaw23_SequenceTurns: function 11 -/
mutual
def dynamolaw23_SequenceTurns.j0 : Nat → Int → Int → Int → Bool → Bool → Option (Bool)
 | 0, _, _, _, _, _ => none
 | k + 1, x0, x1, x2, x7, x25 => if x25 = true then (some x7) else ((dynamoworld_Number.f x2 9).bind fun t115 => (dynamolaw23_SequenceTurns.l0 k x0 x1 t115 x7 x0 x0 0))
def dynamolaw23_SequenceTurns.l0 : Nat → Int → Int → Int → Bool → Int → Int → Int → Option (Bool)
 | 0, _, _, _, _, _, _, _ => none
 | k + 1, x0, x1, x2, x7, x8, x9, x10 => if x10 < x2 then ((sequence_Next.f x1 x8 x9).bind fun t116 => (if (Go.bits .andNot .i64 x0 x1) = 0 then (if t116 = x1 then ((sequence_Safe.f k x8 x9 t116).bind fun t117 => (if t117 = true then (dynamolaw23_SequenceTurns.l0 k x0 x1 x2 x7 t116 (Go.bits .or .i64 x9 t116) (wrap64 (x10 + 1))) else (some false))) else (some false)) else (if t116 = (Go.bits .and .i64 x0 x1) then ((sequence_Safe.f k x8 x9 t116).bind fun t118 => (if t118 = true then (dynamolaw23_SequenceTurns.l0 k x0 x1 x2 x7 t116 (Go.bits .or .i64 x9 t116) (wrap64 (x10 + 1))) else (some false))) else (some false)))) else ((sequence_Next.f x1 x8 x8).bind fun t119 => (if x2 = 0 then (if (Go.bits .andNot .i64 x0 x1) = 0 then (if x7 = true then (if t119 = x1 then ((sequence_Safe.f k x8 x8 t119).bind fun t120 => (some t120)) else (some false)) else (some false)) else (if x7 = true then (some (t119 == (Go.bits .and .i64 x0 x1))) else (some false))) else (if x7 = true then (if t119 = x1 then ((sequence_Safe.f k x8 x8 t119).bind fun t121 => (some t121)) else (some false)) else (some false))))
end
def dynamolaw23_SequenceTurns.f (k : Nat) (a0 : Int) (a1 : Int) (a2 : Int) : Option (Bool) := (dynamolaw23_first.f).bind fun t110 => (if t110 = true then ((dynamoworld_Number.f a0 128).bind fun t111 => ((dynamoworld_Number.f a1 128).bind fun t112 => ((graph_Joined.f k t111).bind fun t113 => (if t113 = true then (dynamolaw23_SequenceTurns.j0 k t111 t112 a2 t110 true) else ((graph_Joined.f k t112).bind fun t114 => (dynamolaw23_SequenceTurns.j0 k t111 t112 a2 t110 t114)))))) else (some false))
theorem dynamolaw23_SequenceTurns.mono_l : ∀ k, (∀ y0 y1 y2 y3 y4, LeO (dynamolaw23_SequenceTurns.j0 k y0 y1 y2 y3 y4) (dynamolaw23_SequenceTurns.j0 (k + 1) y0 y1 y2 y3 y4)) ∧ (∀ y0 y1 y2 y3 y4 y5 y6, LeO (dynamolaw23_SequenceTurns.l0 k y0 y1 y2 y3 y4 y5 y6) (dynamolaw23_SequenceTurns.l0 (k + 1) y0 y1 y2 y3 y4 y5 y6))
 | 0 => ⟨fun _ _ _ _ _ r h => by simp [dynamolaw23_SequenceTurns.j0] at h, fun _ _ _ _ _ _ _ r h => by simp [dynamolaw23_SequenceTurns.l0] at h⟩
 | k + 1 => by
  obtain ⟨ih0, ih1⟩ := dynamolaw23_SequenceTurns.mono_l k
  refine ⟨?_, ?_⟩
  ·intro y0 y1 y2 y3 y4
   unfold dynamolaw23_SequenceTurns.j0
   repeat' first
   | (with_reducible exact ih0 _ _ _ _ _)
   | (with_reducible exact ih1 _ _ _ _ _ _ _)
   | (with_reducible exact graph_Joined.mono _ _)
   | (with_reducible exact sequence_Safe.mono _ _ _ _)
   | (with_reducible exact LeO.refl _)
   | (with_reducible exact LeO.none _)
   | (with_reducible refine LeO.ite ?_ ?_)
   | (with_reducible refine LeO.bind ?_ (fun _ => ?_))
   | exact ih0 _ _ _ _ _
   | exact ih1 _ _ _ _ _ _ _
   | exact graph_Joined.mono _ _
   | exact sequence_Safe.mono _ _ _ _
   | exact LeO.none _
   | refine LeO.ite ?_ ?_
   | refine LeO.bind ?_ (fun _ => ?_)
  ·intro y0 y1 y2 y3 y4 y5 y6
   unfold dynamolaw23_SequenceTurns.l0
   repeat' first
   | (with_reducible exact ih0 _ _ _ _ _)
   | (with_reducible exact ih1 _ _ _ _ _ _ _)
   | (with_reducible exact graph_Joined.mono _ _)
   | (with_reducible exact sequence_Safe.mono _ _ _ _)
   | (with_reducible exact LeO.refl _)
   | (with_reducible exact LeO.none _)
   | (with_reducible refine LeO.ite ?_ ?_)
   | (with_reducible refine LeO.bind ?_ (fun _ => ?_))
   | exact ih0 _ _ _ _ _
   | exact ih1 _ _ _ _ _ _ _
   | exact graph_Joined.mono _ _
   | exact sequence_Safe.mono _ _ _ _
   | exact LeO.none _
   | refine LeO.ite ?_ ?_
   | refine LeO.bind ?_ (fun _ => ?_)
theorem dynamolaw23_SequenceTurns.mono : ∀ a0 a1 a2 k, LeO (dynamolaw23_SequenceTurns.f k a0 a1 a2) (dynamolaw23_SequenceTurns.f (k + 1) a0 a1 a2) := by
 intro a0 a1 a2 k
 obtain ⟨ih0, ih1⟩ := dynamolaw23_SequenceTurns.mono_l k
 unfold dynamolaw23_SequenceTurns.f
 repeat' first
   | (with_reducible exact ih0 _ _ _ _ _)
   | (with_reducible exact ih1 _ _ _ _ _ _ _)
   | (with_reducible exact graph_Joined.mono _ _)
   | (with_reducible exact sequence_Safe.mono _ _ _ _)
   | (with_reducible exact LeO.refl _)
   | (with_reducible exact LeO.none _)
   | (with_reducible refine LeO.ite ?_ ?_)
   | (with_reducible refine LeO.bind ?_ (fun _ => ?_))
   | exact ih0 _ _ _ _ _
   | exact ih1 _ _ _ _ _ _ _
   | exact graph_Joined.mono _ _
   | exact sequence_Safe.mono _ _ _ _
   | exact LeO.none _
   | refine LeO.ite ?_ ?_
   | refine LeO.bind ?_ (fun _ => ?_)
set_option maxHeartbeats 8000000 in
set_option maxRecDepth 100000 in
theorem dynamolaw23_SequenceTurns.calls (k : Nat) (a0 : Int) (a1 : Int) (a2 : Int) (w : World) (h : dynamolaw23_SequenceTurns.f k a0 a1 a2 = some true) :
  Calls Try.prog 11 #[.int .i64 a0, .int .i64 a1, .int .i64 a2] w fun e w' => e = .returned (.bool true) ∧ Drawn0 w w' := by
 have H : ((dynamolaw23_first.f).bind fun t110 => (if t110 = true then ((dynamoworld_Number.f a0 128).bind fun t111 => ((dynamoworld_Number.f a1 128).bind fun t112 => ((graph_Joined.f k t111).bind fun t113 => (if t113 = true then (dynamolaw23_SequenceTurns.j0 k t111 t112 a2 t110 true) else ((graph_Joined.f k t112).bind fun t114 => (dynamolaw23_SequenceTurns.j0 k t111 t112 a2 t110 t114)))))) else (some false))) = some true := h
 clear h
 replace H := Option.bind_eq_some_iff.mp H
 obtain ⟨t110, A40, H⟩ := H
 replace H : (if t110 = true then ((dynamoworld_Number.f a0 128).bind fun t111 => ((dynamoworld_Number.f a1 128).bind fun t112 => ((graph_Joined.f k t111).bind fun t113 => (if t113 = true then (dynamolaw23_SequenceTurns.j0 k t111 t112 a2 t110 true) else ((graph_Joined.f k t112).bind fun t114 => (dynamolaw23_SequenceTurns.j0 k t111 t112 a2 t110 t114)))))) else (some false)) = some true := H
 have A4 := Aside0.mk A40
 clear A40
 by_cases c5 : t110 = true
 ·subst c5
  have H1 : ((dynamoworld_Number.f a0 128).bind fun t111 => ((dynamoworld_Number.f a1 128).bind fun t112 => ((graph_Joined.f k t111).bind fun t113 => (if t113 = true then (dynamolaw23_SequenceTurns.j0 k t111 t112 a2 true true) else ((graph_Joined.f k t112).bind fun t114 => (dynamolaw23_SequenceTurns.j0 k t111 t112 a2 true t114)))))) = some true := by first | (rw [if_pos rfl] at H; exact H) | exact H | rfl
  clear H
  have H := H1
  clear H1
  replace H := Option.bind_eq_some_iff.mp H
  obtain ⟨t111, A60, H⟩ := H
  replace H : ((dynamoworld_Number.f a1 128).bind fun t112 => ((graph_Joined.f k t111).bind fun t113 => (if t113 = true then (dynamolaw23_SequenceTurns.j0 k t111 t112 a2 true true) else ((graph_Joined.f k t112).bind fun t114 => (dynamolaw23_SequenceTurns.j0 k t111 t112 a2 true t114))))) = some true := H
  have A6 := Aside0.mk A60
  clear A60
  replace H := Option.bind_eq_some_iff.mp H
  obtain ⟨t112, A70, H⟩ := H
  replace H : ((graph_Joined.f k t111).bind fun t113 => (if t113 = true then (dynamolaw23_SequenceTurns.j0 k t111 t112 a2 true true) else ((graph_Joined.f k t112).bind fun t114 => (dynamolaw23_SequenceTurns.j0 k t111 t112 a2 true t114)))) = some true := H
  have A7 := Aside0.mk A70
  clear A70
  have HC8 := Aside0.mk H
  clear H
  go_enter Try.func11, Try.ntmps11
  go_upto_region 6 with (first | ((with_reducible refine gate_callee (f := 24) rfl ?_); refine goesL_ (some 13) rfl rfl Try.func24 (by kernel_rfl) rfl #[] rfl (by (try simp only [List.map_toArray, List.map_cons, List.map_nil]); first | done | rfl | (simp only [List.length_drop, List.length_take]; rfl)) ?_; (with_reducible refine (dynamolaw23_first.calls  true _ A4.out).mono ?_); rintro e w' ⟨rfl, ⟨nd, rfl⟩⟩; refine ⟨_, rfl, ?_⟩) | ((with_reducible refine gate_callee (f := 22) rfl ?_); refine goesL_ (some 17) rfl rfl Try.func22 (by kernel_rfl) rfl #[.int .i64 a0, .int .i64 128] rfl (by (try simp only [List.map_toArray, List.map_cons, List.map_nil]); first | done | rfl | (simp only [List.length_drop, List.length_take]; rfl)) ?_; (with_reducible refine (dynamoworld_Number.calls a0 128 t111 _ A6.out).mono ?_); rintro e w' ⟨rfl, ⟨nd, rfl⟩⟩; refine ⟨_, rfl, ?_⟩) | ((with_reducible refine gate_callee (f := 22) rfl ?_); refine goesL_ (some 19) rfl rfl Try.func22 (by kernel_rfl) rfl #[.int .i64 a1, .int .i64 128] rfl (by (try simp only [List.map_toArray, List.map_cons, List.map_nil]); first | done | rfl | (simp only [List.length_drop, List.length_take]; rfl)) ?_; (with_reducible refine (dynamoworld_Number.calls a1 128 t112 _ A7.out).mono ?_); rintro e w' ⟨rfl, ⟨nd, rfl⟩⟩; refine ⟨_, rfl, ?_⟩))
  (try simp only [Act.put, List.setIfInBounds_toArray, List.set_cons_zero, List.set_cons_succ])
  go_cut [25] (fun v25 wc => ∃ (kq : Nat) (x25_7 : Bool), v25 = .bool x25_7 ∧ Aside0 (dynamolaw23_SequenceTurns.j0 kq t111 t112 a2 true x25_7 = some true) ∧ Aside0 (kq ≤ k) ∧ Drawn0 w wc)
  case first =>
   have H := HC8.out
   clear HC8
   replace H := Option.bind_eq_some_iff.mp H
   obtain ⟨t113, A90, H⟩ := H
   replace H : (if t113 = true then (dynamolaw23_SequenceTurns.j0 k t111 t112 a2 true true) else ((graph_Joined.f k t112).bind fun t114 => (dynamolaw23_SequenceTurns.j0 k t111 t112 a2 true t114))) = some true := H
   have A9 := Aside0.mk A90
   clear A90
   by_cases c10 : t113 = true
   ·subst c10
    have H1 : (dynamolaw23_SequenceTurns.j0 k t111 t112 a2 true true) = some true := by first | (rw [if_pos rfl] at H; exact H) | exact H | rfl
    clear H
    have H := H1
    clear H1
    have H' := Aside0.mk H
    clear H
    go_wp2_with (first | ((with_reducible refine gate_callee (f := 29) rfl ?_); refine goesL_ (some 21) rfl rfl Try.func29 (by kernel_rfl) rfl #[.int .i64 t111] rfl (by (try simp only [List.map_toArray, List.map_cons, List.map_nil]); first | done | rfl | (simp only [List.length_drop, List.length_take]; rfl)) ?_; (with_reducible refine (graph_Joined.calls k t111 true _ A9.out).mono ?_); rintro e w' ⟨rfl, ⟨nd, rfl⟩⟩; refine ⟨_, rfl, ?_⟩))
    go_meet
    case rel => exact ⟨_, (true), (by first | rfl | (simp; done) | (simp [*]; done)), H', ⟨by first | omega | exact Nat.le_refl _⟩, by repeat (first | exact Drawn0.refl _ | apply Drawn0.step)⟩
   ·replace c10 := Bool.eq_false_iff.mpr c10
    subst c10
    have H1 : ((graph_Joined.f k t112).bind fun t114 => (dynamolaw23_SequenceTurns.j0 k t111 t112 a2 true t114)) = some true := by first | (rw [if_neg (show ¬ (false = true) by decide)] at H; exact H) | exact H | rfl
    clear H
    have H := H1
    clear H1
    replace H := Option.bind_eq_some_iff.mp H
    obtain ⟨t114, A110, H⟩ := H
    replace H : (dynamolaw23_SequenceTurns.j0 k t111 t112 a2 true t114) = some true := H
    have A11 := Aside0.mk A110
    clear A110
    have H' := Aside0.mk H
    clear H
    go_wp2_with (first | ((with_reducible refine gate_callee (f := 29) rfl ?_); refine goesL_ (some 21) rfl rfl Try.func29 (by kernel_rfl) rfl #[.int .i64 t111] rfl (by (try simp only [List.map_toArray, List.map_cons, List.map_nil]); first | done | rfl | (simp only [List.length_drop, List.length_take]; rfl)) ?_; (with_reducible refine (graph_Joined.calls k t111 false _ A9.out).mono ?_); rintro e w' ⟨rfl, ⟨nd, rfl⟩⟩; refine ⟨_, rfl, ?_⟩) | (go_at_call 29; (with_reducible refine (graph_Joined.calls k t112 t114 _ A11.out).mono ?_); rintro e w' ⟨rfl, ⟨nd, rfl⟩⟩))
    go_meet
    case rel => exact ⟨_, (t114), (by first | rfl | (simp; done) | (simp [*]; done)), H', ⟨by first | omega | exact Nat.le_refl _⟩, by repeat (first | exact Drawn0.refl _ | apply Drawn0.step)⟩
  case rest =>
   clear HC8
   try clear c1
   try clear c2
   try clear p2
   try clear c5
   try clear c10
   try clear c11
   obtain ⟨kq, x25_7, rfl, HA, HJ7, ⟨mc7, rfl⟩⟩ := hcut
   cases kq with
   | zero => exact absurd HA.out (by simp [dynamolaw23_SequenceTurns.j0])
   | succ kj7 =>
    have H := HA.out
    clear HA
    simp only [dynamolaw23_SequenceTurns.j0] at H
    by_cases c12 : x25_7 = true
    ·subst c12
     have H1 : (some true) = some true := by first | (rw [if_pos rfl] at H; exact H) | exact H | rfl
     clear H
     have H := H1
     clear H1
     have HLAST := Aside0.mk (Option.some.inj H)
     clear H
     go_wp2
     all_goals (try go_ret)
     all_goals first | (exfalso; simp_all; done) | exact ⟨by first | rfl | (rw [HLAST.out]; done) | (simp [HLAST.out]; done) | (have HL_ := HLAST.out; simp_all; done) | (simp; done) | (simp [*]; done), by repeat (first | exact Drawn0.refl _ | apply Drawn0.step)⟩
    ·replace c12 := Bool.eq_false_iff.mpr c12
     subst c12
     have H1 : ((dynamoworld_Number.f a2 9).bind fun t115 => (dynamolaw23_SequenceTurns.l0 kj7 t111 t112 t115 true t111 t111 0)) = some true := by first | (rw [if_neg (show ¬ (false = true) by decide)] at H; exact H) | exact H | rfl
     clear H
     have H := H1
     clear H1
     replace H := Option.bind_eq_some_iff.mp H
     obtain ⟨t115, A130, H⟩ := H
     replace H : (dynamolaw23_SequenceTurns.l0 kj7 t111 t112 t115 true t111 t111 0) = some true := H
     have A13 := Aside0.mk A130
     clear A130
     have H' := Aside0.mk H
     clear H
     go_wp2_with (first | ((with_reducible refine gate_callee (f := 22) rfl ?_); refine goesL_ (some 28) rfl rfl Try.func22 (by kernel_rfl) rfl #[.int .i64 a2, .int .i64 9] rfl (by (try simp only [List.map_toArray, List.map_cons, List.map_nil]); first | done | rfl | (simp only [List.length_drop, List.length_take]; rfl)) ?_; (with_reducible refine (dynamoworld_Number.calls a2 9 t115 _ A13.out).mono ?_); rintro e w' ⟨rfl, ⟨nd, rfl⟩⟩; refine ⟨_, rfl, ?_⟩))
     go_loopg [8, 9, 10] kj7 (fun kq v8 v9 v10 w' => ∃ (x8_2 : Int) (x9_2 : Int) (x10_2 : Int), v8 = .int .i64 x8_2 ∧ v9 = .int .i64 x9_2 ∧ v10 = .int .i64 x10_2 ∧ Aside0 (dynamolaw23_SequenceTurns.l0 kq t111 t112 t115 true x8_2 x9_2 x10_2 = some true) ∧ Aside0 (kq ≤ kj7) ∧ Drawn0 w w')
     case atStart => exact ⟨(t111), (t111), (0), (by first | rfl | (simp; done) | (simp [*]; done)), (by first | rfl | (simp; done) | (simp [*]; done)), (by first | rfl | (simp; done) | (simp [*]; done)), H', ⟨Nat.le_refl _⟩, by repeat (first | exact Drawn0.refl _ | apply Drawn0.step)⟩
     case round =>
      clear H'
      try clear c1
      try clear c2
      try clear p2
      try clear c5
      try clear c7
      try clear c10
      try clear c11
      try clear c12
      try clear p2
      obtain ⟨x8_2, x9_2, x10_2, rfl, rfl, rfl, HA, HK2, ⟨m2, rfl⟩⟩ := hrel
      cases gk with
      | zero => exact absurd HA.out (by simp [dynamolaw23_SequenceTurns.l0])
      | succ k2 =>
       have H := HA.out
       clear HA
       simp only [dynamolaw23_SequenceTurns.l0] at H
       by_cases c14 : x10_2 < t115
       ·rw [if_pos c14] at H
        have c14b0 : decide (x10_2 < t115) = true := decide_eq_true c14
        clear c14
        replace H := Option.bind_eq_some_iff.mp H
        obtain ⟨t116, A150, H⟩ := H
        replace H : (if (Go.bits .andNot .i64 t111 t112) = 0 then (if t116 = t112 then ((sequence_Safe.f k2 x8_2 x9_2 t116).bind fun t117 => (if t117 = true then (dynamolaw23_SequenceTurns.l0 k2 t111 t112 t115 true t116 (Go.bits .or .i64 x9_2 t116) (wrap64 (x10_2 + 1))) else (some false))) else (some false)) else (if t116 = (Go.bits .and .i64 t111 t112) then ((sequence_Safe.f k2 x8_2 x9_2 t116).bind fun t118 => (if t118 = true then (dynamolaw23_SequenceTurns.l0 k2 t111 t112 t115 true t116 (Go.bits .or .i64 x9_2 t116) (wrap64 (x10_2 + 1))) else (some false))) else (some false))) = some true := H
        have A15 := Aside0.mk A150
        clear A150
        by_cases c16 : (Go.bits .andNot .i64 t111 t112) = 0
        ·rw [if_pos c16] at H
         have c16b0 : ((Go.bits .andNot .i64 t111 t112) == 0) = true := beq_iff_eq.mpr c16
         have c16b1 : ((Go.bits .andNot .i64 t111 t112) != 0) = false := bne_eq_false_iff_eq.mpr c16
         clear c16
         by_cases c17 : t116 = t112
         ·rw [if_pos c17] at H
          have c17b0 : (t116 == t112) = true := beq_iff_eq.mpr c17
          have c17b1 : (t116 != t112) = false := bne_eq_false_iff_eq.mpr c17
          clear c17
          replace H := Option.bind_eq_some_iff.mp H
          obtain ⟨t117, A180, H⟩ := H
          replace H : (if t117 = true then (dynamolaw23_SequenceTurns.l0 k2 t111 t112 t115 true t116 (Go.bits .or .i64 x9_2 t116) (wrap64 (x10_2 + 1))) else (some false)) = some true := H
          have A18 := Aside0.mk A180
          clear A180
          by_cases c19 : t117 = true
          ·subst c19
           have H1 : (dynamolaw23_SequenceTurns.l0 k2 t111 t112 t115 true t116 (Go.bits .or .i64 x9_2 t116) (wrap64 (x10_2 + 1))) = some true := by first | (rw [if_pos rfl] at H; exact H) | exact H | rfl
           clear H
           have H := H1
           clear H1
           have H' := Aside0.mk H
           clear H
           go_wp2_with (first | ((with_reducible refine gate_callee (f := 25) rfl ?_); refine goesL_ (some 39) rfl rfl Try.func25 (by kernel_rfl) rfl #[.int .i64 t112, .int .i64 x8_2, .int .i64 x9_2] rfl (by (try simp only [List.map_toArray, List.map_cons, List.map_nil]); first | done | rfl | (simp only [List.length_drop, List.length_take]; rfl)) ?_; (with_reducible refine (sequence_Next.calls t112 x8_2 x9_2 t116 _ A15.out).mono ?_); rintro e w' ⟨rfl, ⟨nd, rfl⟩⟩; refine ⟨_, rfl, ?_⟩) | (go_at_call 27; (with_reducible refine (sequence_Safe.calls k2 x8_2 x9_2 t116 true _ A18.out).mono ?_); rintro e w' ⟨rfl, ⟨nd, rfl⟩⟩))
           go_roundg k2
           case measure => have := HJ7.out; have := HK2.out; omega
           case rel => exact ⟨(t116), (Go.bits .or .i64 x9_2 t116), (wrap64 (x10_2 + 1)), (by first | rfl | (simp; done) | (simp [*]; done)), (by first | rfl | (simp; done) | (simp [*]; done)), (by first | rfl | (simp; done) | (simp [*]; done)), H', ⟨by have := HJ7.out; have := HK2.out; omega⟩, by repeat (first | exact Drawn0.refl _ | apply Drawn0.step)⟩
          ·replace c19 := Bool.eq_false_iff.mpr c19
           subst c19
           have H1 : (some false) = some true := by first | (rw [if_neg (show ¬ (false = true) by decide)] at H; exact H) | exact H | rfl
           clear H
           have H := H1
           clear H1
           exact absurd H (by simp)
         ·rw [if_neg c17] at H
          have c17b0 : (t116 == t112) = false := beq_eq_false_iff_ne.mpr c17
          have c17b1 : (t116 != t112) = true := bne_iff_ne.mpr c17
          exact absurd H (by simp)
        ·rw [if_neg c16] at H
         have c16b0 : ((Go.bits .andNot .i64 t111 t112) == 0) = false := beq_eq_false_iff_ne.mpr c16
         have c16b1 : ((Go.bits .andNot .i64 t111 t112) != 0) = true := bne_iff_ne.mpr c16
         by_cases c20 : t116 = (Go.bits .and .i64 t111 t112)
         ·rw [if_pos c20] at H
          have c20b0 : (t116 == (Go.bits .and .i64 t111 t112)) = true := beq_iff_eq.mpr c20
          have c20b1 : (t116 != (Go.bits .and .i64 t111 t112)) = false := bne_eq_false_iff_eq.mpr c20
          clear c20
          replace H := Option.bind_eq_some_iff.mp H
          obtain ⟨t118, A210, H⟩ := H
          replace H : (if t118 = true then (dynamolaw23_SequenceTurns.l0 k2 t111 t112 t115 true t116 (Go.bits .or .i64 x9_2 t116) (wrap64 (x10_2 + 1))) else (some false)) = some true := H
          have A21 := Aside0.mk A210
          clear A210
          by_cases c22 : t118 = true
          ·subst c22
           have H1 : (dynamolaw23_SequenceTurns.l0 k2 t111 t112 t115 true t116 (Go.bits .or .i64 x9_2 t116) (wrap64 (x10_2 + 1))) = some true := by first | (rw [if_pos rfl] at H; exact H) | exact H | rfl
           clear H
           have H := H1
           clear H1
           have H' := Aside0.mk H
           clear H
           go_wp2_with (first | ((with_reducible refine gate_callee (f := 25) rfl ?_); refine goesL_ (some 39) rfl rfl Try.func25 (by kernel_rfl) rfl #[.int .i64 t112, .int .i64 x8_2, .int .i64 x9_2] rfl (by (try simp only [List.map_toArray, List.map_cons, List.map_nil]); first | done | rfl | (simp only [List.length_drop, List.length_take]; rfl)) ?_; (with_reducible refine (sequence_Next.calls t112 x8_2 x9_2 t116 _ A15.out).mono ?_); rintro e w' ⟨rfl, ⟨nd, rfl⟩⟩; refine ⟨_, rfl, ?_⟩) | (go_at_call 27; (with_reducible refine (sequence_Safe.calls k2 x8_2 x9_2 t116 true _ A21.out).mono ?_); rintro e w' ⟨rfl, ⟨nd, rfl⟩⟩))
           go_roundg k2
           case measure => have := HJ7.out; have := HK2.out; omega
           case rel => exact ⟨(t116), (Go.bits .or .i64 x9_2 t116), (wrap64 (x10_2 + 1)), (by first | rfl | (simp; done) | (simp [*]; done)), (by first | rfl | (simp; done) | (simp [*]; done)), (by first | rfl | (simp; done) | (simp [*]; done)), H', ⟨by have := HJ7.out; have := HK2.out; omega⟩, by repeat (first | exact Drawn0.refl _ | apply Drawn0.step)⟩
          ·replace c22 := Bool.eq_false_iff.mpr c22
           subst c22
           have H1 : (some false) = some true := by first | (rw [if_neg (show ¬ (false = true) by decide)] at H; exact H) | exact H | rfl
           clear H
           have H := H1
           clear H1
           exact absurd H (by simp)
         ·rw [if_neg c20] at H
          have c20b0 : (t116 == (Go.bits .and .i64 t111 t112)) = false := beq_eq_false_iff_ne.mpr c20
          have c20b1 : (t116 != (Go.bits .and .i64 t111 t112)) = true := bne_iff_ne.mpr c20
          exact absurd H (by simp)
       ·rw [if_neg c14] at H
        have c14b0 : decide (x10_2 < t115) = false := decide_eq_false c14
        clear c14
        replace H := Option.bind_eq_some_iff.mp H
        obtain ⟨t119, A230, H⟩ := H
        replace H : (if t115 = 0 then (if (Go.bits .andNot .i64 t111 t112) = 0 then (if true = true then (if t119 = t112 then ((sequence_Safe.f k2 x8_2 x8_2 t119).bind fun t120 => (some t120)) else (some false)) else (some false)) else (if true = true then (some (t119 == (Go.bits .and .i64 t111 t112))) else (some false))) else (if true = true then (if t119 = t112 then ((sequence_Safe.f k2 x8_2 x8_2 t119).bind fun t121 => (some t121)) else (some false)) else (some false))) = some true := H
        have A23 := Aside0.mk A230
        clear A230
        by_cases c24 : t115 = 0
        ·rw [if_pos c24] at H
         have c24b0 : (t115 == 0) = true := beq_iff_eq.mpr c24
         have c24b1 : (t115 != 0) = false := bne_eq_false_iff_eq.mpr c24
         clear c24
         by_cases c25 : (Go.bits .andNot .i64 t111 t112) = 0
         ·rw [if_pos c25] at H
          have c25b0 : ((Go.bits .andNot .i64 t111 t112) == 0) = true := beq_iff_eq.mpr c25
          have c25b1 : ((Go.bits .andNot .i64 t111 t112) != 0) = false := bne_eq_false_iff_eq.mpr c25
          clear c25
          have H1 : (if t119 = t112 then ((sequence_Safe.f k2 x8_2 x8_2 t119).bind fun t120 => (some t120)) else (some false)) = some true := by first | (with_reducible exact H) | (rw [if_pos rfl] at H; exact H) | exact H | rfl
          clear H
          have H := H1
          clear H1
          by_cases c26 : t119 = t112
          ·rw [if_pos c26] at H
           have c26b0 : (t119 == t112) = true := beq_iff_eq.mpr c26
           have c26b1 : (t119 != t112) = false := bne_eq_false_iff_eq.mpr c26
           clear c26
           replace H := Option.bind_eq_some_iff.mp H
           obtain ⟨t120, A270, H⟩ := H
           replace H : (some t120) = some true := H
           have A27 := Aside0.mk A270
           clear A270
           have HLAST := Aside0.mk (Option.some.inj H)
           clear H
           go_wp2_with (first | ((with_reducible refine gate_callee (f := 25) rfl ?_); refine goesL_ (some 76) rfl rfl Try.func25 (by kernel_rfl) rfl #[.int .i64 t112, .int .i64 x8_2, .int .i64 x8_2] rfl (by (try simp only [List.map_toArray, List.map_cons, List.map_nil]); first | done | rfl | (simp only [List.length_drop, List.length_take]; rfl)) ?_; (with_reducible refine (sequence_Next.calls t112 x8_2 x8_2 t119 _ A23.out).mono ?_); rintro e w' ⟨rfl, ⟨nd, rfl⟩⟩; refine ⟨_, rfl, ?_⟩) | (go_at_call 27; (with_reducible refine (sequence_Safe.calls k2 x8_2 x8_2 t119 t120 _ A27.out).mono ?_); rintro e w' ⟨rfl, ⟨nd, rfl⟩⟩))
           all_goals (try go_ret)
           all_goals first | (exfalso; simp_all; done) | exact ⟨by first | rfl | (rw [HLAST.out]; done) | (simp [HLAST.out]; done) | (have HL_ := HLAST.out; simp_all; done) | (simp; done) | (simp [*]; done), by repeat (first | exact Drawn0.refl _ | apply Drawn0.step)⟩
          ·rw [if_neg c26] at H
           have c26b0 : (t119 == t112) = false := beq_eq_false_iff_ne.mpr c26
           have c26b1 : (t119 != t112) = true := bne_iff_ne.mpr c26
           exact absurd H (by simp)
         ·rw [if_neg c25] at H
          have c25b0 : ((Go.bits .andNot .i64 t111 t112) == 0) = false := beq_eq_false_iff_ne.mpr c25
          have c25b1 : ((Go.bits .andNot .i64 t111 t112) != 0) = true := bne_iff_ne.mpr c25
          have H1 : (some (t119 == (Go.bits .and .i64 t111 t112))) = some true := by first | (with_reducible exact H) | (rw [if_pos rfl] at H; exact H) | exact H | rfl
          clear H
          have H := H1
          clear H1
          have HLAST := Aside0.mk (Option.some.inj H)
          clear H
          go_wp2_with (first | ((with_reducible refine gate_callee (f := 25) rfl ?_); refine goesL_ (some 76) rfl rfl Try.func25 (by kernel_rfl) rfl #[.int .i64 t112, .int .i64 x8_2, .int .i64 x8_2] rfl (by (try simp only [List.map_toArray, List.map_cons, List.map_nil]); first | done | rfl | (simp only [List.length_drop, List.length_take]; rfl)) ?_; (with_reducible refine (sequence_Next.calls t112 x8_2 x8_2 t119 _ A23.out).mono ?_); rintro e w' ⟨rfl, ⟨nd, rfl⟩⟩; refine ⟨_, rfl, ?_⟩))
          all_goals (try go_ret)
          all_goals first | (exfalso; simp_all; done) | exact ⟨by first | rfl | (rw [HLAST.out]; done) | (simp [HLAST.out]; done) | (have HL_ := HLAST.out; simp_all; done) | (simp; done) | (simp [*]; done), by repeat (first | exact Drawn0.refl _ | apply Drawn0.step)⟩
        ·rw [if_neg c24] at H
         have c24b0 : (t115 == 0) = false := beq_eq_false_iff_ne.mpr c24
         have c24b1 : (t115 != 0) = true := bne_iff_ne.mpr c24
         have H1 : (if t119 = t112 then ((sequence_Safe.f k2 x8_2 x8_2 t119).bind fun t121 => (some t121)) else (some false)) = some true := by first | (with_reducible exact H) | (rw [if_pos rfl] at H; exact H) | exact H | rfl
         clear H
         have H := H1
         clear H1
         by_cases c28 : t119 = t112
         ·rw [if_pos c28] at H
          have c28b0 : (t119 == t112) = true := beq_iff_eq.mpr c28
          have c28b1 : (t119 != t112) = false := bne_eq_false_iff_eq.mpr c28
          clear c28
          replace H := Option.bind_eq_some_iff.mp H
          obtain ⟨t121, A290, H⟩ := H
          replace H : (some t121) = some true := H
          have A29 := Aside0.mk A290
          clear A290
          have HLAST := Aside0.mk (Option.some.inj H)
          clear H
          go_wp2_with (first | ((with_reducible refine gate_callee (f := 25) rfl ?_); refine goesL_ (some 76) rfl rfl Try.func25 (by kernel_rfl) rfl #[.int .i64 t112, .int .i64 x8_2, .int .i64 x8_2] rfl (by (try simp only [List.map_toArray, List.map_cons, List.map_nil]); first | done | rfl | (simp only [List.length_drop, List.length_take]; rfl)) ?_; (with_reducible refine (sequence_Next.calls t112 x8_2 x8_2 t119 _ A23.out).mono ?_); rintro e w' ⟨rfl, ⟨nd, rfl⟩⟩; refine ⟨_, rfl, ?_⟩) | (go_at_call 27; (with_reducible refine (sequence_Safe.calls k2 x8_2 x8_2 t119 t121 _ A29.out).mono ?_); rintro e w' ⟨rfl, ⟨nd, rfl⟩⟩))
          all_goals (try go_ret)
          all_goals first | (exfalso; simp_all; done) | exact ⟨by first | rfl | (rw [HLAST.out]; done) | (simp [HLAST.out]; done) | (have HL_ := HLAST.out; simp_all; done) | (simp; done) | (simp [*]; done), by repeat (first | exact Drawn0.refl _ | apply Drawn0.step)⟩
         ·rw [if_neg c28] at H
          have c28b0 : (t119 == t112) = false := beq_eq_false_iff_ne.mpr c28
          have c28b1 : (t119 != t112) = true := bne_iff_ne.mpr c28
          exact absurd H (by simp)
 ·replace c5 := Bool.eq_false_iff.mpr c5
  subst c5
  have H1 : (some false) = some true := by first | (rw [if_neg (show ¬ (false = true) by decide)] at H; exact H) | exact H | rfl
  clear H
  have H := H1
  clear H1
  exact absurd H (by simp)

/-- THE ONE PURE STATEMENT of dynamolaw23_SequenceTurns: yours. -/
def dynamolaw23_SequenceTurns.Pure : Prop := ∀ (a0 : Int) (a1 : Int) (a2 : Int), (Lit.int .i64 a0).wf = true → (Lit.int .i64 a1).wf = true → (Lit.int .i64 a2).wf = true → ∃ k, dynamolaw23_SequenceTurns.f k a0 a1 a2 = some true
theorem dynamolaw23_SequenceTurns.walk (P : dynamolaw23_SequenceTurns.Pure) (a0 : Int) (a1 : Int) (a2 : Int) (w : World) (w0 : (Lit.int .i64 a0).wf = true) (w1 : (Lit.int .i64 a1).wf = true) (w2 : (Lit.int .i64 a2).wf = true) :
  Calls Try.prog 11 #[.int .i64 a0, .int .i64 a1, .int .i64 a2] w fun e w' => e = .returned (.bool true) ∧ Below w.heap.size w w' := by
 obtain ⟨k, h⟩ := P a0 a1 a2 w0 w1 w2
 refine (dynamolaw23_SequenceTurns.calls k a0 a1 a2 w h).mono ?_
 rintro e w' ⟨rfl, hd⟩
 exact ⟨rfl, hd.below⟩

end Go.Proofs.Ytjmggdccmggboaa.PSequenceTurns
