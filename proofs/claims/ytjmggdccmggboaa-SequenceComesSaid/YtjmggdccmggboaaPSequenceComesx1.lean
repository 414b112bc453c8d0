-- written by this work with wip/mkprint2.py
import Derived.Test.YtjmggdccmggboaaPSequenceComesx0
namespace Go.Proofs.Ytjmggdccmggboaa.PSequenceComes
open Go.RowKit Go.Proofs.YtjmggdccmggboaaW.PrintWords Go.Proofs.YtjmggdccmggboaaW.PrintLast Go.Proofs.YtjmggdccmggboaaW.PrintMore
attribute [local go_sem] max2_int min2_int max_two min_two max_three min_three max_four min_four   -- for this text's walks alone
set_option linter.unusedVariables false
set_option linter.unusedSimpArgs false

/-! ### dynamoworld_Number: function 22 -/
def dynamoworld_Number.f (a0 : Int) (a1 : Int) : Option (Int) := if a1 = 0 then (none) else (if (Int.tmod a0 a1) < 0 then (some (wrap64 ((Int.tmod a0 a1) + a1))) else (some (Int.tmod a0 a1)))
set_option maxHeartbeats 8000000 in
set_option maxRecDepth 100000 in
theorem dynamoworld_Number.calls (a0 : Int) (a1 : Int) (r : Int) (w : World) (h : dynamoworld_Number.f a0 a1 = some r) :
  Calls Try.prog 22 #[.int .i64 a0, .int .i64 a1] w fun e w' => e = .returned (.int .i64 r) ∧ Drawn0 w w' := by
 have H : (if a1 = 0 then (none) else (if (Int.tmod a0 a1) < 0 then (some (wrap64 ((Int.tmod a0 a1) + a1))) else (some (Int.tmod a0 a1)))) = some r := h
 clear h
 by_cases c3 : a1 = 0
 ·rw [if_pos c3] at H
  exact absurd H (by simp)
 ·rw [if_neg c3] at H
  have c3b0 : (a1 == 0) = false := beq_eq_false_iff_ne.mpr c3
  have c3b1 : (a1 != 0) = true := bne_iff_ne.mpr c3
  by_cases c4 : (Int.tmod a0 a1) < 0
  ·rw [if_pos c4] at H
   have c4b0 : decide ((Int.tmod a0 a1) < 0) = true := decide_eq_true c4
   clear c4
   obtain rfl := Option.some.inj H
   go_enter Try.func22, Try.ntmps22
   go_wp2
   go_ret
   exact ⟨by first | rfl | (rw [HLAST.out]; done) | (simp [HLAST.out]; done) | (have HL_ := HLAST.out; simp_all; done) | (simp; done) | (simp [*]; done), by repeat (first | exact Drawn0.refl _ | apply Drawn0.step)⟩
  ·rw [if_neg c4] at H
   have c4b0 : decide ((Int.tmod a0 a1) < 0) = false := decide_eq_false c4
   clear c4
   obtain rfl := Option.some.inj H
   go_enter Try.func22, Try.ntmps22
   go_wp2
   go_ret
   exact ⟨by first | rfl | (rw [HLAST.out]; done) | (simp [HLAST.out]; done) | (have HL_ := HLAST.out; simp_all; done) | (simp; done) | (simp [*]; done), by repeat (first | exact Drawn0.refl _ | apply Drawn0.step)⟩

/-! ### sequence_Next: function 25 -/
def sequence_Next.f (a0 : Int) (a1 : Int) (a2 : Int) : Option (Int) := if (Go.bits .andNot .i64 (Go.bits .or .i64 a1 a2) a0) = 0 then (some a0) else (some (Go.bits .and .i64 a1 a0))
set_option maxHeartbeats 8000000 in
set_option maxRecDepth 100000 in
theorem sequence_Next.calls (a0 : Int) (a1 : Int) (a2 : Int) (r : Int) (w : World) (h : sequence_Next.f a0 a1 a2 = some r) :
  Calls Try.prog 25 #[.int .i64 a0, .int .i64 a1, .int .i64 a2] w fun e w' => e = .returned (.int .i64 r) ∧ Drawn0 w w' := by
 have H : (if (Go.bits .andNot .i64 (Go.bits .or .i64 a1 a2) a0) = 0 then (some a0) else (some (Go.bits .and .i64 a1 a0))) = some r := h
 clear h
 by_cases c4 : (Go.bits .andNot .i64 (Go.bits .or .i64 a1 a2) a0) = 0
 ·rw [if_pos c4] at H
  have c4b0 : ((Go.bits .andNot .i64 (Go.bits .or .i64 a1 a2) a0) == 0) = true := beq_iff_eq.mpr c4
  have c4b1 : ((Go.bits .andNot .i64 (Go.bits .or .i64 a1 a2) a0) != 0) = false := bne_eq_false_iff_eq.mpr c4
  clear c4
  obtain rfl := Option.some.inj H
  go_enter Try.func25, Try.ntmps25
  go_wp2
  go_ret
  exact ⟨by first | rfl | (rw [HLAST.out]; done) | (simp [HLAST.out]; done) | (have HL_ := HLAST.out; simp_all; done) | (simp; done) | (simp [*]; done), by repeat (first | exact Drawn0.refl _ | apply Drawn0.step)⟩
 ·rw [if_neg c4] at H
  have c4b0 : ((Go.bits .andNot .i64 (Go.bits .or .i64 a1 a2) a0) == 0) = false := beq_eq_false_iff_ne.mpr c4
  have c4b1 : ((Go.bits .andNot .i64 (Go.bits .or .i64 a1 a2) a0) != 0) = true := bne_iff_ne.mpr c4
  obtain rfl := Option.some.inj H
  go_enter Try.func25, Try.ntmps25
  go_wp2
  go_ret
  exact ⟨by first | rfl | (rw [HLAST.out]; done) | (simp [HLAST.out]; done) | (have HL_ := HLAST.out; simp_all; done) | (simp; done) | (simp [*]; done), by repeat (first | exact Drawn0.refl _ | apply Drawn0.step)⟩

/-! ### dynamolaw23_first: function 24 -/
def dynamolaw23_first.f  : Option (Bool) := (sequence_Next.f 3 0 4).bind fun t101 => (if t101 = 0 then ((sequence_Next.f 3 0 0).bind fun t102 => (some (t102 == 3))) else (some false))
set_option maxHeartbeats 8000000 in
set_option maxRecDepth 100000 in
theorem dynamolaw23_first.calls  (r : Bool) (w : World) (h : dynamolaw23_first.f  = some r) :
  Calls Try.prog 24 #[] w fun e w' => e = .returned (.bool r) ∧ Drawn0 w w' := by
 have H : ((sequence_Next.f 3 0 4).bind fun t101 => (if t101 = 0 then ((sequence_Next.f 3 0 0).bind fun t102 => (some (t102 == 3))) else (some false))) = some r := h
 clear h
 replace H := Option.bind_eq_some_iff.mp H
 obtain ⟨t101, A10, H⟩ := H
 replace H : (if t101 = 0 then ((sequence_Next.f 3 0 0).bind fun t102 => (some (t102 == 3))) else (some false)) = some r := H
 have A1 := Aside0.mk A10
 clear A10
 by_cases c2 : t101 = 0
 ·rw [if_pos c2] at H
  have c2b0 : (t101 == 0) = true := beq_iff_eq.mpr c2
  have c2b1 : (t101 != 0) = false := bne_eq_false_iff_eq.mpr c2
  clear c2
  replace H := Option.bind_eq_some_iff.mp H
  obtain ⟨t102, A30, H⟩ := H
  replace H : (some (t102 == 3)) = some r := H
  have A3 := Aside0.mk A30
  clear A30
  obtain rfl := Option.some.inj H
  go_enter Try.func24, Try.ntmps24
  go_wp2_with (first | ((with_reducible refine gate_callee (f := 25) rfl ?_); refine goesL_ (some 1) rfl rfl Try.func25 (by kernel_rfl) rfl #[.int .i64 3, .int .i64 0, .int .i64 4] rfl (by (try simp only [List.map_toArray, List.map_cons, List.map_nil]); first | done | rfl | (simp only [List.length_drop, List.length_take]; rfl)) ?_; (with_reducible refine (sequence_Next.calls 3 0 4 t101 _ A1.out).mono ?_); rintro e w' ⟨rfl, ⟨nd, rfl⟩⟩; refine ⟨_, rfl, ?_⟩) | (go_at_call 25; (with_reducible refine (sequence_Next.calls 3 0 0 t102 _ A3.out).mono ?_); rintro e w' ⟨rfl, ⟨nd, rfl⟩⟩))
  go_ret
  exact ⟨by first | rfl | (rw [HLAST.out]; done) | (simp [HLAST.out]; done) | (have HL_ := HLAST.out; simp_all; done) | (simp; done) | (simp [*]; done), by repeat (first | exact Drawn0.refl _ | apply Drawn0.step)⟩
 ·rw [if_neg c2] at H
  have c2b0 : (t101 == 0) = false := beq_eq_false_iff_ne.mpr c2
  have c2b1 : (t101 != 0) = true := bne_iff_ne.mpr c2
  obtain rfl := Option.some.inj H
  go_enter Try.func24, Try.ntmps24
  go_wp2_with (first | ((with_reducible refine gate_callee (f := 25) rfl ?_); refine goesL_ (some 1) rfl rfl Try.func25 (by kernel_rfl) rfl #[.int .i64 3, .int .i64 0, .int .i64 4] rfl (by (try simp only [List.map_toArray, List.map_cons, List.map_nil]); first | done | rfl | (simp only [List.length_drop, List.length_take]; rfl)) ?_; (with_reducible refine (sequence_Next.calls 3 0 4 t101 _ A1.out).mono ?_); rintro e w' ⟨rfl, ⟨nd, rfl⟩⟩; refine ⟨_, rfl, ?_⟩))
  go_ret
  exact ⟨by first | rfl | (rw [HLAST.out]; done) | (simp [HLAST.out]; done) | (have HL_ := HLAST.out; simp_all; done) | (simp; done) | (simp [*]; done), by repeat (first | exact Drawn0.refl _ | apply Drawn0.step)⟩

/-! ### dynamolaw23_SequenceComes: function 7 -/
def dynamolaw23_SequenceComes.f (a0 : Int) (a1 : Int) (a2 : Int) : Option (Bool) := (dynamolaw23_first.f).bind fun t103 => (if t103 = true then ((dynamoworld_Number.f a0 128).bind fun t104 => ((dynamoworld_Number.f a1 128).bind fun t105 => ((dynamoworld_Number.f a2 128).bind fun t106 => ((sequence_Next.f t104 t105 t106).bind fun t107 => ((sequence_Next.f t104 t107 t107).bind fun t108 => (if ((Go.bits .andNot .i64 (Go.bits .or .i64 t105 t106) t104) = 0) then (if t107 = t104 then (if (Go.bits .andNot .i64 (Go.bits .or .i64 t105 t106) t104) = 0 then (some (t108 == t104)) else (if t107 = (Go.bits .and .i64 t105 t104) then (some (t108 == t104)) else (some false))) else (some false)) else (if (Go.bits .andNot .i64 (Go.bits .or .i64 t105 t106) t104) = 0 then (some (t108 == t104)) else (if t107 = (Go.bits .and .i64 t105 t104) then (some (t108 == t104)) else (some false))))))))) else (some false))
set_option maxHeartbeats 8000000 in
set_option maxRecDepth 100000 in
theorem dynamolaw23_SequenceComes.calls (a0 : Int) (a1 : Int) (a2 : Int) (w : World) (h : dynamolaw23_SequenceComes.f a0 a1 a2 = some true) :
  Calls Try.prog 7 #[.int .i64 a0, .int .i64 a1, .int .i64 a2] w fun e w' => e = .returned (.bool true) ∧ Drawn0 w w' := by
 have H : ((dynamolaw23_first.f).bind fun t103 => (if t103 = true then ((dynamoworld_Number.f a0 128).bind fun t104 => ((dynamoworld_Number.f a1 128).bind fun t105 => ((dynamoworld_Number.f a2 128).bind fun t106 => ((sequence_Next.f t104 t105 t106).bind fun t107 => ((sequence_Next.f t104 t107 t107).bind fun t108 => (if ((Go.bits .andNot .i64 (Go.bits .or .i64 t105 t106) t104) = 0) then (if t107 = t104 then (if (Go.bits .andNot .i64 (Go.bits .or .i64 t105 t106) t104) = 0 then (some (t108 == t104)) else (if t107 = (Go.bits .and .i64 t105 t104) then (some (t108 == t104)) else (some false))) else (some false)) else (if (Go.bits .andNot .i64 (Go.bits .or .i64 t105 t106) t104) = 0 then (some (t108 == t104)) else (if t107 = (Go.bits .and .i64 t105 t104) then (some (t108 == t104)) else (some false))))))))) else (some false))) = some true := h
 clear h
 replace H := Option.bind_eq_some_iff.mp H
 obtain ⟨t103, A40, H⟩ := H
 replace H : (if t103 = true then ((dynamoworld_Number.f a0 128).bind fun t104 => ((dynamoworld_Number.f a1 128).bind fun t105 => ((dynamoworld_Number.f a2 128).bind fun t106 => ((sequence_Next.f t104 t105 t106).bind fun t107 => ((sequence_Next.f t104 t107 t107).bind fun t108 => (if ((Go.bits .andNot .i64 (Go.bits .or .i64 t105 t106) t104) = 0) then (if t107 = t104 then (if (Go.bits .andNot .i64 (Go.bits .or .i64 t105 t106) t104) = 0 then (some (t108 == t104)) else (if t107 = (Go.bits .and .i64 t105 t104) then (some (t108 == t104)) else (some false))) else (some false)) else (if (Go.bits .andNot .i64 (Go.bits .or .i64 t105 t106) t104) = 0 then (some (t108 == t104)) else (if t107 = (Go.bits .and .i64 t105 t104) then (some (t108 == t104)) else (some false))))))))) else (some false)) = some true := H
 have A4 := Aside0.mk A40
 clear A40
 by_cases c5 : t103 = true
 ·subst c5
  have H1 : ((dynamoworld_Number.f a0 128).bind fun t104 => ((dynamoworld_Number.f a1 128).bind fun t105 => ((dynamoworld_Number.f a2 128).bind fun t106 => ((sequence_Next.f t104 t105 t106).bind fun t107 => ((sequence_Next.f t104 t107 t107).bind fun t108 => (if ((Go.bits .andNot .i64 (Go.bits .or .i64 t105 t106) t104) = 0) then (if t107 = t104 then (if (Go.bits .andNot .i64 (Go.bits .or .i64 t105 t106) t104) = 0 then (some (t108 == t104)) else (if t107 = (Go.bits .and .i64 t105 t104) then (some (t108 == t104)) else (some false))) else (some false)) else (if (Go.bits .andNot .i64 (Go.bits .or .i64 t105 t106) t104) = 0 then (some (t108 == t104)) else (if t107 = (Go.bits .and .i64 t105 t104) then (some (t108 == t104)) else (some false))))))))) = some true := by first | (rw [if_pos rfl] at H; exact H) | exact H | rfl
  clear H
  have H := H1
  clear H1
  replace H := Option.bind_eq_some_iff.mp H
  obtain ⟨t104, A60, H⟩ := H
  replace H : ((dynamoworld_Number.f a1 128).bind fun t105 => ((dynamoworld_Number.f a2 128).bind fun t106 => ((sequence_Next.f t104 t105 t106).bind fun t107 => ((sequence_Next.f t104 t107 t107).bind fun t108 => (if ((Go.bits .andNot .i64 (Go.bits .or .i64 t105 t106) t104) = 0) then (if t107 = t104 then (if (Go.bits .andNot .i64 (Go.bits .or .i64 t105 t106) t104) = 0 then (some (t108 == t104)) else (if t107 = (Go.bits .and .i64 t105 t104) then (some (t108 == t104)) else (some false))) else (some false)) else (if (Go.bits .andNot .i64 (Go.bits .or .i64 t105 t106) t104) = 0 then (some (t108 == t104)) else (if t107 = (Go.bits .and .i64 t105 t104) then (some (t108 == t104)) else (some false)))))))) = some true := H
  have A6 := Aside0.mk A60
  clear A60
  replace H := Option.bind_eq_some_iff.mp H
  obtain ⟨t105, A70, H⟩ := H
  replace H : ((dynamoworld_Number.f a2 128).bind fun t106 => ((sequence_Next.f t104 t105 t106).bind fun t107 => ((sequence_Next.f t104 t107 t107).bind fun t108 => (if ((Go.bits .andNot .i64 (Go.bits .or .i64 t105 t106) t104) = 0) then (if t107 = t104 then (if (Go.bits .andNot .i64 (Go.bits .or .i64 t105 t106) t104) = 0 then (some (t108 == t104)) else (if t107 = (Go.bits .and .i64 t105 t104) then (some (t108 == t104)) else (some false))) else (some false)) else (if (Go.bits .andNot .i64 (Go.bits .or .i64 t105 t106) t104) = 0 then (some (t108 == t104)) else (if t107 = (Go.bits .and .i64 t105 t104) then (some (t108 == t104)) else (some false))))))) = some true := H
  have A7 := Aside0.mk A70
  clear A70
  replace H := Option.bind_eq_some_iff.mp H
  obtain ⟨t106, A80, H⟩ := H
  replace H : ((sequence_Next.f t104 t105 t106).bind fun t107 => ((sequence_Next.f t104 t107 t107).bind fun t108 => (if ((Go.bits .andNot .i64 (Go.bits .or .i64 t105 t106) t104) = 0) then (if t107 = t104 then (if (Go.bits .andNot .i64 (Go.bits .or .i64 t105 t106) t104) = 0 then (some (t108 == t104)) else (if t107 = (Go.bits .and .i64 t105 t104) then (some (t108 == t104)) else (some false))) else (some false)) else (if (Go.bits .andNot .i64 (Go.bits .or .i64 t105 t106) t104) = 0 then (some (t108 == t104)) else (if t107 = (Go.bits .and .i64 t105 t104) then (some (t108 == t104)) else (some false)))))) = some true := H
  have A8 := Aside0.mk A80
  clear A80
  replace H := Option.bind_eq_some_iff.mp H
  obtain ⟨t107, A90, H⟩ := H
  replace H : ((sequence_Next.f t104 t107 t107).bind fun t108 => (if ((Go.bits .andNot .i64 (Go.bits .or .i64 t105 t106) t104) = 0) then (if t107 = t104 then (if (Go.bits .andNot .i64 (Go.bits .or .i64 t105 t106) t104) = 0 then (some (t108 == t104)) else (if t107 = (Go.bits .and .i64 t105 t104) then (some (t108 == t104)) else (some false))) else (some false)) else (if (Go.bits .andNot .i64 (Go.bits .or .i64 t105 t106) t104) = 0 then (some (t108 == t104)) else (if t107 = (Go.bits .and .i64 t105 t104) then (some (t108 == t104)) else (some false))))) = some true := H
  have A9 := Aside0.mk A90
  clear A90
  replace H := Option.bind_eq_some_iff.mp H
  obtain ⟨t108, A100, H⟩ := H
  replace H : (if ((Go.bits .andNot .i64 (Go.bits .or .i64 t105 t106) t104) = 0) then (if t107 = t104 then (if (Go.bits .andNot .i64 (Go.bits .or .i64 t105 t106) t104) = 0 then (some (t108 == t104)) else (if t107 = (Go.bits .and .i64 t105 t104) then (some (t108 == t104)) else (some false))) else (some false)) else (if (Go.bits .andNot .i64 (Go.bits .or .i64 t105 t106) t104) = 0 then (some (t108 == t104)) else (if t107 = (Go.bits .and .i64 t105 t104) then (some (t108 == t104)) else (some false)))) = some true := H
  have A10 := Aside0.mk A100
  clear A100
  by_cases c11 : ((Go.bits .andNot .i64 (Go.bits .or .i64 t105 t106) t104) = 0)
  ·rw [if_pos c11] at H
   have c11b0 : ((Go.bits .andNot .i64 (Go.bits .or .i64 t105 t106) t104) == 0) = true := beq_iff_eq.mpr c11
   have c11b1 : ((Go.bits .andNot .i64 (Go.bits .or .i64 t105 t106) t104) != 0) = false := bne_eq_false_iff_eq.mpr c11
   clear c11
   by_cases c12 : t107 = t104
   ·rw [if_pos c12] at H
    have c12b0 : (t107 == t104) = true := beq_iff_eq.mpr c12
    have c12b1 : (t107 != t104) = false := bne_eq_false_iff_eq.mpr c12
    clear c12
    by_cases c13 : (Go.bits .andNot .i64 (Go.bits .or .i64 t105 t106) t104) = 0
    ·rw [if_pos c13] at H
     have c13b0 : ((Go.bits .andNot .i64 (Go.bits .or .i64 t105 t106) t104) == 0) = true := beq_iff_eq.mpr c13
     have c13b1 : ((Go.bits .andNot .i64 (Go.bits .or .i64 t105 t106) t104) != 0) = false := bne_eq_false_iff_eq.mpr c13
     clear c13
     have HLAST := Aside0.mk (Option.some.inj H)
     clear H
     go_enter Try.func7, Try.ntmps7
     go_wp2_with (first | ((with_reducible refine gate_callee (f := 24) rfl ?_); refine goesL_ (some 11) rfl rfl Try.func24 (by kernel_rfl) rfl #[] rfl (by (try simp only [List.map_toArray, List.map_cons, List.map_nil]); first | done | rfl | (simp only [List.length_drop, List.length_take]; rfl)) ?_; (with_reducible refine (dynamolaw23_first.calls  true _ A4.out).mono ?_); rintro e w' ⟨rfl, ⟨nd, rfl⟩⟩; refine ⟨_, rfl, ?_⟩) | ((with_reducible refine gate_callee (f := 22) rfl ?_); refine goesL_ (some 15) rfl rfl Try.func22 (by kernel_rfl) rfl #[.int .i64 a0, .int .i64 128] rfl (by (try simp only [List.map_toArray, List.map_cons, List.map_nil]); first | done | rfl | (simp only [List.length_drop, List.length_take]; rfl)) ?_; (with_reducible refine (dynamoworld_Number.calls a0 128 t104 _ A6.out).mono ?_); rintro e w' ⟨rfl, ⟨nd, rfl⟩⟩; refine ⟨_, rfl, ?_⟩) | ((with_reducible refine gate_callee (f := 22) rfl ?_); refine goesL_ (some 17) rfl rfl Try.func22 (by kernel_rfl) rfl #[.int .i64 a1, .int .i64 128] rfl (by (try simp only [List.map_toArray, List.map_cons, List.map_nil]); first | done | rfl | (simp only [List.length_drop, List.length_take]; rfl)) ?_; (with_reducible refine (dynamoworld_Number.calls a1 128 t105 _ A7.out).mono ?_); rintro e w' ⟨rfl, ⟨nd, rfl⟩⟩; refine ⟨_, rfl, ?_⟩) | ((with_reducible refine gate_callee (f := 22) rfl ?_); refine goesL_ (some 19) rfl rfl Try.func22 (by kernel_rfl) rfl #[.int .i64 a2, .int .i64 128] rfl (by (try simp only [List.map_toArray, List.map_cons, List.map_nil]); first | done | rfl | (simp only [List.length_drop, List.length_take]; rfl)) ?_; (with_reducible refine (dynamoworld_Number.calls a2 128 t106 _ A8.out).mono ?_); rintro e w' ⟨rfl, ⟨nd, rfl⟩⟩; refine ⟨_, rfl, ?_⟩) | ((with_reducible refine gate_callee (f := 25) rfl ?_); refine goesL_ (some 23) rfl rfl Try.func25 (by kernel_rfl) rfl #[.int .i64 t104, .int .i64 t105, .int .i64 t106] rfl (by (try simp only [List.map_toArray, List.map_cons, List.map_nil]); first | done | rfl | (simp only [List.length_drop, List.length_take]; rfl)) ?_; (with_reducible refine (sequence_Next.calls t104 t105 t106 t107 _ A9.out).mono ?_); rintro e w' ⟨rfl, ⟨nd, rfl⟩⟩; refine ⟨_, rfl, ?_⟩) | ((with_reducible refine gate_callee (f := 25) rfl ?_); refine goesL_ (some 27) rfl rfl Try.func25 (by kernel_rfl) rfl #[.int .i64 t104, .int .i64 t107, .int .i64 t107] rfl (by (try simp only [List.map_toArray, List.map_cons, List.map_nil]); first | done | rfl | (simp only [List.length_drop, List.length_take]; rfl)) ?_; (with_reducible refine (sequence_Next.calls t104 t107 t107 t108 _ A10.out).mono ?_); rintro e w' ⟨rfl, ⟨nd, rfl⟩⟩; refine ⟨_, rfl, ?_⟩))
     all_goals (try go_ret)
     all_goals first | (exfalso; simp_all; done) | exact ⟨by first | rfl | (rw [HLAST.out]; done) | (simp [HLAST.out]; done) | (have HL_ := HLAST.out; simp_all; done) | (simp; done) | (simp [*]; done), by repeat (first | exact Drawn0.refl _ | apply Drawn0.step)⟩
    ·rw [if_neg c13] at H
     have c13b0 : ((Go.bits .andNot .i64 (Go.bits .or .i64 t105 t106) t104) == 0) = false := beq_eq_false_iff_ne.mpr c13
     have c13b1 : ((Go.bits .andNot .i64 (Go.bits .or .i64 t105 t106) t104) != 0) = true := bne_iff_ne.mpr c13
     by_cases c14 : t107 = (Go.bits .and .i64 t105 t104)
     ·rw [if_pos c14] at H
      have c14b0 : (t107 == (Go.bits .and .i64 t105 t104)) = true := beq_iff_eq.mpr c14
      have c14b1 : (t107 != (Go.bits .and .i64 t105 t104)) = false := bne_eq_false_iff_eq.mpr c14
      clear c14
      have HLAST := Aside0.mk (Option.some.inj H)
      clear H
      go_enter Try.func7, Try.ntmps7
      go_wp2_with (first | ((with_reducible refine gate_callee (f := 24) rfl ?_); refine goesL_ (some 11) rfl rfl Try.func24 (by kernel_rfl) rfl #[] rfl (by (try simp only [List.map_toArray, List.map_cons, List.map_nil]); first | done | rfl | (simp only [List.length_drop, List.length_take]; rfl)) ?_; (with_reducible refine (dynamolaw23_first.calls  true _ A4.out).mono ?_); rintro e w' ⟨rfl, ⟨nd, rfl⟩⟩; refine ⟨_, rfl, ?_⟩) | ((with_reducible refine gate_callee (f := 22) rfl ?_); refine goesL_ (some 15) rfl rfl Try.func22 (by kernel_rfl) rfl #[.int .i64 a0, .int .i64 128] rfl (by (try simp only [List.map_toArray, List.map_cons, List.map_nil]); first | done | rfl | (simp only [List.length_drop, List.length_take]; rfl)) ?_; (with_reducible refine (dynamoworld_Number.calls a0 128 t104 _ A6.out).mono ?_); rintro e w' ⟨rfl, ⟨nd, rfl⟩⟩; refine ⟨_, rfl, ?_⟩) | ((with_reducible refine gate_callee (f := 22) rfl ?_); refine goesL_ (some 17) rfl rfl Try.func22 (by kernel_rfl) rfl #[.int .i64 a1, .int .i64 128] rfl (by (try simp only [List.map_toArray, List.map_cons, List.map_nil]); first | done | rfl | (simp only [List.length_drop, List.length_take]; rfl)) ?_; (with_reducible refine (dynamoworld_Number.calls a1 128 t105 _ A7.out).mono ?_); rintro e w' ⟨rfl, ⟨nd, rfl⟩⟩; refine ⟨_, rfl, ?_⟩) | ((with_reducible refine gate_callee (f := 22) rfl ?_); refine goesL_ (some 19) rfl rfl Try.func22 (by kernel_rfl) rfl #[.int .i64 a2, .int .i64 128] rfl (by (try simp only [List.map_toArray, List.map_cons, List.map_nil]); first | done | rfl | (simp only [List.length_drop, List.length_take]; rfl)) ?_; (with_reducible refine (dynamoworld_Number.calls a2 128 t106 _ A8.out).mono ?_); rintro e w' ⟨rfl, ⟨nd, rfl⟩⟩; refine ⟨_, rfl, ?_⟩) | ((with_reducible refine gate_callee (f := 25) rfl ?_); refine goesL_ (some 23) rfl rfl Try.func25 (by kernel_rfl) rfl #[.int .i64 t104, .int .i64 t105, .int .i64 t106] rfl (by (try simp only [List.map_toArray, List.map_cons, List.map_nil]); first | done | rfl | (simp only [List.length_drop, List.length_take]; rfl)) ?_; (with_reducible refine (sequence_Next.calls t104 t105 t106 t107 _ A9.out).mono ?_); rintro e w' ⟨rfl, ⟨nd, rfl⟩⟩; refine ⟨_, rfl, ?_⟩) | ((with_reducible refine gate_callee (f := 25) rfl ?_); refine goesL_ (some 27) rfl rfl Try.func25 (by kernel_rfl) rfl #[.int .i64 t104, .int .i64 t107, .int .i64 t107] rfl (by (try simp only [List.map_toArray, List.map_cons, List.map_nil]); first | done | rfl | (simp only [List.length_drop, List.length_take]; rfl)) ?_; (with_reducible refine (sequence_Next.calls t104 t107 t107 t108 _ A10.out).mono ?_); rintro e w' ⟨rfl, ⟨nd, rfl⟩⟩; refine ⟨_, rfl, ?_⟩))
      all_goals (try go_ret)
      all_goals first | (exfalso; simp_all; done) | exact ⟨by first | rfl | (rw [HLAST.out]; done) | (simp [HLAST.out]; done) | (have HL_ := HLAST.out; simp_all; done) | (simp; done) | (simp [*]; done), by repeat (first | exact Drawn0.refl _ | apply Drawn0.step)⟩
     ·rw [if_neg c14] at H
      have c14b0 : (t107 == (Go.bits .and .i64 t105 t104)) = false := beq_eq_false_iff_ne.mpr c14
      have c14b1 : (t107 != (Go.bits .and .i64 t105 t104)) = true := bne_iff_ne.mpr c14
      exact absurd H (by simp)
   ·rw [if_neg c12] at H
    have c12b0 : (t107 == t104) = false := beq_eq_false_iff_ne.mpr c12
    have c12b1 : (t107 != t104) = true := bne_iff_ne.mpr c12
    exact absurd H (by simp)
  ·rw [if_neg c11] at H
   have c11b0 : ((Go.bits .andNot .i64 (Go.bits .or .i64 t105 t106) t104) == 0) = false := beq_eq_false_iff_ne.mpr c11
   have c11b1 : ((Go.bits .andNot .i64 (Go.bits .or .i64 t105 t106) t104) != 0) = true := bne_iff_ne.mpr c11
   by_cases c15 : (Go.bits .andNot .i64 (Go.bits .or .i64 t105 t106) t104) = 0
   ·rw [if_pos c15] at H
    have c15b0 : ((Go.bits .andNot .i64 (Go.bits .or .i64 t105 t106) t104) == 0) = true := beq_iff_eq.mpr c15
    have c15b1 : ((Go.bits .andNot .i64 (Go.bits .or .i64 t105 t106) t104) != 0) = false := bne_eq_false_iff_eq.mpr c15
    clear c15
    have HLAST := Aside0.mk (Option.some.inj H)
    clear H
    go_enter Try.func7, Try.ntmps7
    go_wp2_with (first | ((with_reducible refine gate_callee (f := 24) rfl ?_); refine goesL_ (some 11) rfl rfl Try.func24 (by kernel_rfl) rfl #[] rfl (by (try simp only [List.map_toArray, List.map_cons, List.map_nil]); first | done | rfl | (simp only [List.length_drop, List.length_take]; rfl)) ?_; (with_reducible refine (dynamolaw23_first.calls  true _ A4.out).mono ?_); rintro e w' ⟨rfl, ⟨nd, rfl⟩⟩; refine ⟨_, rfl, ?_⟩) | ((with_reducible refine gate_callee (f := 22) rfl ?_); refine goesL_ (some 15) rfl rfl Try.func22 (by kernel_rfl) rfl #[.int .i64 a0, .int .i64 128] rfl (by (try simp only [List.map_toArray, List.map_cons, List.map_nil]); first | done | rfl | (simp only [List.length_drop, List.length_take]; rfl)) ?_; (with_reducible refine (dynamoworld_Number.calls a0 128 t104 _ A6.out).mono ?_); rintro e w' ⟨rfl, ⟨nd, rfl⟩⟩; refine ⟨_, rfl, ?_⟩) | ((with_reducible refine gate_callee (f := 22) rfl ?_); refine goesL_ (some 17) rfl rfl Try.func22 (by kernel_rfl) rfl #[.int .i64 a1, .int .i64 128] rfl (by (try simp only [List.map_toArray, List.map_cons, List.map_nil]); first | done | rfl | (simp only [List.length_drop, List.length_take]; rfl)) ?_; (with_reducible refine (dynamoworld_Number.calls a1 128 t105 _ A7.out).mono ?_); rintro e w' ⟨rfl, ⟨nd, rfl⟩⟩; refine ⟨_, rfl, ?_⟩) | ((with_reducible refine gate_callee (f := 22) rfl ?_); refine goesL_ (some 19) rfl rfl Try.func22 (by kernel_rfl) rfl #[.int .i64 a2, .int .i64 128] rfl (by (try simp only [List.map_toArray, List.map_cons, List.map_nil]); first | done | rfl | (simp only [List.length_drop, List.length_take]; rfl)) ?_; (with_reducible refine (dynamoworld_Number.calls a2 128 t106 _ A8.out).mono ?_); rintro e w' ⟨rfl, ⟨nd, rfl⟩⟩; refine ⟨_, rfl, ?_⟩) | ((with_reducible refine gate_callee (f := 25) rfl ?_); refine goesL_ (some 23) rfl rfl Try.func25 (by kernel_rfl) rfl #[.int .i64 t104, .int .i64 t105, .int .i64 t106] rfl (by (try simp only [List.map_toArray, List.map_cons, List.map_nil]); first | done | rfl | (simp only [List.length_drop, List.length_take]; rfl)) ?_; (with_reducible refine (sequence_Next.calls t104 t105 t106 t107 _ A9.out).mono ?_); rintro e w' ⟨rfl, ⟨nd, rfl⟩⟩; refine ⟨_, rfl, ?_⟩) | ((with_reducible refine gate_callee (f := 25) rfl ?_); refine goesL_ (some 27) rfl rfl Try.func25 (by kernel_rfl) rfl #[.int .i64 t104, .int .i64 t107, .int .i64 t107] rfl (by (try simp only [List.map_toArray, List.map_cons, List.map_nil]); first | done | rfl | (simp only [List.length_drop, List.length_take]; rfl)) ?_; (with_reducible refine (sequence_Next.calls t104 t107 t107 t108 _ A10.out).mono ?_); rintro e w' ⟨rfl, ⟨nd, rfl⟩⟩; refine ⟨_, rfl, ?_⟩))
    all_goals (try go_ret)
    all_goals first | (exfalso; simp_all; done) | exact ⟨by first | rfl | (rw [HLAST.out]; done) | (simp [HLAST.out]; done) | (have HL_ := HLAST.out; simp_all; done) | (simp; done) | (simp [*]; done), by repeat (first | exact Drawn0.refl _ | apply Drawn0.step)⟩
   ·rw [if_neg c15] at H
    have c15b0 : ((Go.bits .andNot .i64 (Go.bits .or .i64 t105 t106) t104) == 0) = false := beq_eq_false_iff_ne.mpr c15
    have c15b1 : ((Go.bits .andNot .i64 (Go.bits .or .i64 t105 t106) t104) != 0) = true := bne_iff_ne.mpr c15
    by_cases c16 : t107 = (Go.bits .and .i64 t105 t104)
    ·rw [if_pos c16] at H
     have c16b0 : (t107 == (Go.bits .and .i64 t105 t104)) = true := beq_iff_eq.mpr c16
     have c16b1 : (t107 != (Go.bits .and .i64 t105 t104)) = false := bne_eq_false_iff_eq.mpr c16
     clear c16
     have HLAST := Aside0.mk (Option.some.inj H)
     clear H
     go_enter Try.func7, Try.ntmps7
     go_wp2_with (first | ((with_reducible refine gate_callee (f := 24) rfl ?_); refine goesL_ (some 11) rfl rfl Try.func24 (by kernel_rfl) rfl #[] rfl (by (try simp only [List.map_toArray, List.map_cons, List.map_nil]); first | done | rfl | (simp only [List.length_drop, List.length_take]; rfl)) ?_; (with_reducible refine (dynamolaw23_first.calls  true _ A4.out).mono ?_); rintro e w' ⟨rfl, ⟨nd, rfl⟩⟩; refine ⟨_, rfl, ?_⟩) | ((with_reducible refine gate_callee (f := 22) rfl ?_); refine goesL_ (some 15) rfl rfl Try.func22 (by kernel_rfl) rfl #[.int .i64 a0, .int .i64 128] rfl (by (try simp only [List.map_toArray, List.map_cons, List.map_nil]); first | done | rfl | (simp only [List.length_drop, List.length_take]; rfl)) ?_; (with_reducible refine (dynamoworld_Number.calls a0 128 t104 _ A6.out).mono ?_); rintro e w' ⟨rfl, ⟨nd, rfl⟩⟩; refine ⟨_, rfl, ?_⟩) | ((with_reducible refine gate_callee (f := 22) rfl ?_); refine goesL_ (some 17) rfl rfl Try.func22 (by kernel_rfl) rfl #[.int .i64 a1, .int .i64 128] rfl (by (try simp only [List.map_toArray, List.map_cons, List.map_nil]); first | done | rfl | (simp only [List.length_drop, List.length_take]; rfl)) ?_; (with_reducible refine (dynamoworld_Number.calls a1 128 t105 _ A7.out).mono ?_); rintro e w' ⟨rfl, ⟨nd, rfl⟩⟩; refine ⟨_, rfl, ?_⟩) | ((with_reducible refine gate_callee (f := 22) rfl ?_); refine goesL_ (some 19) rfl rfl Try.func22 (by kernel_rfl) rfl #[.int .i64 a2, .int .i64 128] rfl (by (try simp only [List.map_toArray, List.map_cons, List.map_nil]); first | done | rfl | (simp only [List.length_drop, List.length_take]; rfl)) ?_; (with_reducible refine (dynamoworld_Number.calls a2 128 t106 _ A8.out).mono ?_); rintro e w' ⟨rfl, ⟨nd, rfl⟩⟩; refine ⟨_, rfl, ?_⟩) | ((with_reducible refine gate_callee (f := 25) rfl ?_); refine goesL_ (some 23) rfl rfl Try.func25 (by kernel_rfl) rfl #[.int .i64 t104, .int .i64 t105, .int .i64 t106] rfl (by (try simp only [List.map_toArray, List.map_cons, List.map_nil]); first | done | rfl | (simp only [List.length_drop, List.length_take]; rfl)) ?_; (with_reducible refine (sequence_Next.calls t104 t105 t106 t107 _ A9.out).mono ?_); rintro e w' ⟨rfl, ⟨nd, rfl⟩⟩; refine ⟨_, rfl, ?_⟩) | ((with_reducible refine gate_callee (f := 25) rfl ?_); refine goesL_ (some 27) rfl rfl Try.func25 (by kernel_rfl) rfl #[.int .i64 t104, .int .i64 t107, .int .i64 t107] rfl (by (try simp only [List.map_toArray, List.map_cons, List.map_nil]); first | done | rfl | (simp only [List.length_drop, List.length_take]; rfl)) ?_; (with_reducible refine (sequence_Next.calls t104 t107 t107 t108 _ A10.out).mono ?_); rintro e w' ⟨rfl, ⟨nd, rfl⟩⟩; refine ⟨_, rfl, ?_⟩))
     all_goals (try go_ret)
     all_goals first | (exfalso; simp_all; done) | exact ⟨by first | rfl | (rw [HLAST.out]; done) | (simp [HLAST.out]; done) | (have HL_ := HLAST.out; simp_all; done) | (simp; done) | (simp [*]; done), by repeat (first | exact Drawn0.refl _ | apply Drawn0.step)⟩
    ·rw [if_neg c16] at H
     have c16b0 : (t107 == (Go.bits .and .i64 t105 t104)) = false := beq_eq_false_iff_ne.mpr c16
     have c16b1 : (t107 != (Go.bits .and .i64 t105 t104)) = true := bne_iff_ne.mpr c16
     exact absurd H (by simp)
 ·replace c5 := Bool.eq_false_iff.mpr c5
  subst c5
  have H1 : (some false) = some true := by first | (rw [if_neg (show ¬ (false = true) by decide)] at H; exact H) | exact H | rfl
  clear H
  have H := H1
  clear H1
  exact absurd H (by simp)

/-- THE ONE PURE STATEMENT of dynamolaw23_SequenceComes: yours. -/
def dynamolaw23_SequenceComes.Pure : Prop := ∀ (a0 : Int) (a1 : Int) (a2 : Int), (Lit.int .i64 a0).wf = true → (Lit.int .i64 a1).wf = true → (Lit.int .i64 a2).wf = true → dynamolaw23_SequenceComes.f a0 a1 a2 = some true
theorem dynamolaw23_SequenceComes.walk (P : dynamolaw23_SequenceComes.Pure) (a0 : Int) (a1 : Int) (a2 : Int) (w : World) (w0 : (Lit.int .i64 a0).wf = true) (w1 : (Lit.int .i64 a1).wf = true) (w2 : (Lit.int .i64 a2).wf = true) :
  Calls Try.prog 7 #[.int .i64 a0, .int .i64 a1, .int .i64 a2] w fun e w' => e = .returned (.bool true) ∧ Below w.heap.size w w' := by
 have h := P a0 a1 a2 w0 w1 w2
 refine (dynamolaw23_SequenceComes.calls a0 a1 a2 w h).mono ?_
 rintro e w' ⟨rfl, hd⟩
 exact ⟨rfl, hd.below⟩

end Go.Proofs.Ytjmggdccmggboaa.PSequenceComes
