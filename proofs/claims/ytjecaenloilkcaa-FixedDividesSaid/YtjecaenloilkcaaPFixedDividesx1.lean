-- written by this work with wip/mkprint2.py
import Derived.Test.YtjecaenloilkcaaPFixedDividesx0
namespace Go.Proofs.Ytjecaenloilkcaa.PFixedDivides
open Go.RowKit Go.Proofs.YtjecaenloilkcaaW.PrintWords Go.Proofs.YtjecaenloilkcaaW.PrintLast Go.Proofs.YtjecaenloilkcaaW.PrintMore
attribute [local go_sem] max2_int min2_int max_two min_two max_three min_three max_four min_four   -- for this text's walks alone
set_option linter.unusedVariables false
set_option linter.unusedSimpArgs false

/-! ### fixed_Down: function 20 -/
def fixed_Down.f (a0 : Int) (a1 : Int) : Option (Int) := if a1 < 1 then (some 0) else (if a1 = 0 then (none) else (if (Int.tmod a0 a1) < 0 then (some (wrap64 ((wrap64 (Int.tdiv a0 a1)) - 1))) else (some (wrap64 (Int.tdiv a0 a1)))))
set_option maxHeartbeats 8000000 in
set_option maxRecDepth 100000 in
theorem fixed_Down.calls (a0 : Int) (a1 : Int) (r : Int) (w : World) (h : fixed_Down.f a0 a1 = some r) :
    Calls Try.prog 20 #[.int .i64 a0, .int .i64 a1] w fun e w' => e = .returned (.int .i64 r) ∧ Drawn0 w w' := by
  have H : (if a1 < 1 then (some 0) else (if a1 = 0 then (none) else (if (Int.tmod a0 a1) < 0 then (some (wrap64 ((wrap64 (Int.tdiv a0 a1)) - 1))) else (some (wrap64 (Int.tdiv a0 a1)))))) = some r := h
  clear h
  by_cases c3 : a1 < 1
  · rw [if_pos c3] at H
    have c3b0 : decide (a1 < 1) = true := decide_eq_true c3
    clear c3
    obtain rfl := Option.some.inj H
    go_enter Try.func20, Try.ntmps20
    go_wp2
    go_ret
    exact ⟨by first | rfl | (rw [HLAST.out]; done) | (simp [HLAST.out]; done) | (have HL_ := HLAST.out; simp_all; done) | (simp; done) | (simp [*]; done), by repeat (first | exact Drawn0.refl _ | apply Drawn0.step)⟩
  · rw [if_neg c3] at H
    have c3b0 : decide (a1 < 1) = false := decide_eq_false c3
    clear c3
    by_cases c4 : a1 = 0
    · rw [if_pos c4] at H
      exact absurd H (by simp)
    · rw [if_neg c4] at H
      have c4b0 : (a1 == 0) = false := beq_eq_false_iff_ne.mpr c4
      have c4b1 : (a1 != 0) = true := bne_iff_ne.mpr c4
      by_cases c5 : (Int.tmod a0 a1) < 0
      · rw [if_pos c5] at H
        have c5b0 : decide ((Int.tmod a0 a1) < 0) = true := decide_eq_true c5
        clear c5
        obtain rfl := Option.some.inj H
        go_enter Try.func20, Try.ntmps20
        go_wp2
        go_ret
        exact ⟨by first | rfl | (rw [HLAST.out]; done) | (simp [HLAST.out]; done) | (have HL_ := HLAST.out; simp_all; done) | (simp; done) | (simp [*]; done), by repeat (first | exact Drawn0.refl _ | apply Drawn0.step)⟩
      · rw [if_neg c5] at H
        have c5b0 : decide ((Int.tmod a0 a1) < 0) = false := decide_eq_false c5
        clear c5
        obtain rfl := Option.some.inj H
        go_enter Try.func20, Try.ntmps20
        go_wp2
        go_ret
        exact ⟨by first | rfl | (rw [HLAST.out]; done) | (simp [HLAST.out]; done) | (have HL_ := HLAST.out; simp_all; done) | (simp; done) | (simp [*]; done), by repeat (first | exact Drawn0.refl _ | apply Drawn0.step)⟩

/-! ### fixed_Up: function 21 -/
def fixed_Up.f (a0 : Int) (a1 : Int) : Option (Int) := if a1 < 1 then (some 0) else (if a1 = 0 then (none) else (if (Int.tmod a0 a1) > 0 then (some (wrap64 ((wrap64 (Int.tdiv a0 a1)) + 1))) else (some (wrap64 (Int.tdiv a0 a1)))))
set_option maxHeartbeats 8000000 in
set_option maxRecDepth 100000 in
theorem fixed_Up.calls (a0 : Int) (a1 : Int) (r : Int) (w : World) (h : fixed_Up.f a0 a1 = some r) :
    Calls Try.prog 21 #[.int .i64 a0, .int .i64 a1] w fun e w' => e = .returned (.int .i64 r) ∧ Drawn0 w w' := by
  have H : (if a1 < 1 then (some 0) else (if a1 = 0 then (none) else (if (Int.tmod a0 a1) > 0 then (some (wrap64 ((wrap64 (Int.tdiv a0 a1)) + 1))) else (some (wrap64 (Int.tdiv a0 a1)))))) = some r := h
  clear h
  by_cases c3 : a1 < 1
  · rw [if_pos c3] at H
    have c3b0 : decide (a1 < 1) = true := decide_eq_true c3
    clear c3
    obtain rfl := Option.some.inj H
    go_enter Try.func21, Try.ntmps21
    go_wp2
    go_ret
    exact ⟨by first | rfl | (rw [HLAST.out]; done) | (simp [HLAST.out]; done) | (have HL_ := HLAST.out; simp_all; done) | (simp; done) | (simp [*]; done), by repeat (first | exact Drawn0.refl _ | apply Drawn0.step)⟩
  · rw [if_neg c3] at H
    have c3b0 : decide (a1 < 1) = false := decide_eq_false c3
    clear c3
    by_cases c4 : a1 = 0
    · rw [if_pos c4] at H
      exact absurd H (by simp)
    · rw [if_neg c4] at H
      have c4b0 : (a1 == 0) = false := beq_eq_false_iff_ne.mpr c4
      have c4b1 : (a1 != 0) = true := bne_iff_ne.mpr c4
      by_cases c5 : (Int.tmod a0 a1) > 0
      · rw [if_pos c5] at H
        have c5b0 : decide (0 < (Int.tmod a0 a1)) = true := decide_eq_true c5
        clear c5
        obtain rfl := Option.some.inj H
        go_enter Try.func21, Try.ntmps21
        go_wp2
        go_ret
        exact ⟨by first | rfl | (rw [HLAST.out]; done) | (simp [HLAST.out]; done) | (have HL_ := HLAST.out; simp_all; done) | (simp; done) | (simp [*]; done), by repeat (first | exact Drawn0.refl _ | apply Drawn0.step)⟩
      · rw [if_neg c5] at H
        have c5b0 : decide (0 < (Int.tmod a0 a1)) = false := decide_eq_false c5
        clear c5
        obtain rfl := Option.some.inj H
        go_enter Try.func21, Try.ntmps21
        go_wp2
        go_ret
        exact ⟨by first | rfl | (rw [HLAST.out]; done) | (simp [HLAST.out]; done) | (have HL_ := HLAST.out; simp_all; done) | (simp; done) | (simp [*]; done), by repeat (first | exact Drawn0.refl _ | apply Drawn0.step)⟩

/-! ### fixed_Add: function 25 -/
def fixed_Add.j0 : Nat → Int → Int → Bool → Option (Int)
  | 0, _, _, _ => none
  | k + 1, x0, x1, x5 => if x5 = true then (some 9223372036854775807) else (if x1 < 0 then (if x0 < (wrap64 ((-9223372036854775808) - x1)) then (some (-9223372036854775808)) else (some (wrap64 (x0 + x1)))) else (some (wrap64 (x0 + x1))))
def fixed_Add.f (k : Nat) (a0 : Int) (a1 : Int) : Option (Int) := if a1 > 0 then (fixed_Add.j0 k a0 a1 (decide (a0 > (wrap64 (9223372036854775807 - a1))))) else (fixed_Add.j0 k a0 a1 false)
theorem fixed_Add.mono_l : ∀ k, (∀ y0 y1 y2, LeO (fixed_Add.j0 k y0 y1 y2) (fixed_Add.j0 (k + 1) y0 y1 y2))
  | 0 => fun _ _ _ r h => by simp [fixed_Add.j0] at h
  | k + 1 => by
    have ih0 := fixed_Add.mono_l k
    · intro y0 y1 y2
      unfold fixed_Add.j0
      repeat' first
      | (with_reducible exact ih0 _ _ _)
      | (with_reducible exact LeO.refl _)
      | (with_reducible exact LeO.none _)
      | (with_reducible refine LeO.ite ?_ ?_)
      | (with_reducible refine LeO.bind ?_ (fun _ => ?_))
      | exact ih0 _ _ _
      | exact LeO.none _
      | refine LeO.ite ?_ ?_
      | refine LeO.bind ?_ (fun _ => ?_)
theorem fixed_Add.mono : ∀ a0 a1 k, LeO (fixed_Add.f k a0 a1) (fixed_Add.f (k + 1) a0 a1) := by
  intro a0 a1 k
  have ih0 := fixed_Add.mono_l k
  unfold fixed_Add.f
  repeat' first
      | (with_reducible exact ih0 _ _ _)
      | (with_reducible exact LeO.refl _)
      | (with_reducible exact LeO.none _)
      | (with_reducible refine LeO.ite ?_ ?_)
      | (with_reducible refine LeO.bind ?_ (fun _ => ?_))
      | exact ih0 _ _ _
      | exact LeO.none _
      | refine LeO.ite ?_ ?_
      | refine LeO.bind ?_ (fun _ => ?_)
set_option maxHeartbeats 8000000 in
set_option maxRecDepth 100000 in
theorem fixed_Add.calls (k : Nat) (a0 : Int) (a1 : Int) (r : Int) (w : World) (h : fixed_Add.f k a0 a1 = some r) :
    Calls Try.prog 25 #[.int .i64 a0, .int .i64 a1] w fun e w' => e = .returned (.int .i64 r) ∧ Drawn0 w w' := by
  have H : (if a1 > 0 then (fixed_Add.j0 k a0 a1 (decide (a0 > (wrap64 (9223372036854775807 - a1))))) else (fixed_Add.j0 k a0 a1 false)) = some r := h
  clear h
  have HC3 := Aside0.mk H
  clear H
  go_enter Try.func25, Try.ntmps25
  go_upto_region 1 with (fail)
  go_cut [5] (fun v5 wc => ∃ (kq : Nat) (x5_2 : Bool), v5 = .bool x5_2 ∧ Aside0 (fixed_Add.j0 kq a0 a1 x5_2 = some r) ∧ Aside0 (kq ≤ k) ∧ Drawn0 w wc)
  case first =>
    have H := HC3.out
    clear HC3
    by_cases c4 : a1 > 0
    · rw [if_pos c4] at H
      have c4b0 : decide (0 < a1) = true := decide_eq_true c4
      clear c4
      (first | rw [c4b0] | (simp only [i64_w, i32_w]; rw [c4b0]) | skip)
      have H' := Aside0.mk H
      clear H
      go_wp2
      go_meet
      case rel => exact ⟨_, (decide (a0 > (wrap64 (9223372036854775807 - a1)))), (by first | rfl | (simp; done) | (simp [*]; done)), H', ⟨by first | omega | exact Nat.le_refl _⟩, by repeat (first | exact Drawn0.refl _ | apply Drawn0.step)⟩
    · rw [if_neg c4] at H
      have c4b0 : decide (0 < a1) = false := decide_eq_false c4
      clear c4
      (first | rw [c4b0] | (simp only [i64_w, i32_w]; rw [c4b0]) | skip)
      have H' := Aside0.mk H
      clear H
      go_wp2
      go_meet
      case rel => exact ⟨_, (false), (by first | rfl | (simp; done) | (simp [*]; done)), H', ⟨by first | omega | exact Nat.le_refl _⟩, by repeat (first | exact Drawn0.refl _ | apply Drawn0.step)⟩
  case rest =>
    clear HC3
    try clear c2
    try clear p2
    try clear c4
    try clear c4b0
    obtain ⟨kq, x5_2, rfl, HA, HJ2, ⟨mc2, rfl⟩⟩ := hcut
    cases kq with
    | zero => exact absurd HA.out (by simp [fixed_Add.j0])
    | succ kj2 =>
      have H := HA.out
      clear HA
      simp only [fixed_Add.j0] at H
      by_cases c5 : x5_2 = true
      · subst c5
        have H1 : (some 9223372036854775807) = some r := by first | (rw [if_pos rfl] at H; exact H) | exact H | rfl
        clear H
        have H := H1
        clear H1
        obtain rfl := Option.some.inj H
        go_wp2
        go_ret
        exact ⟨by first | rfl | (rw [HLAST.out]; done) | (simp [HLAST.out]; done) | (have HL_ := HLAST.out; simp_all; done) | (simp; done) | (simp [*]; done), by repeat (first | exact Drawn0.refl _ | apply Drawn0.step)⟩
      · replace c5 := Bool.eq_false_iff.mpr c5
        subst c5
        have H1 : (if a1 < 0 then (if a0 < (wrap64 ((-9223372036854775808) - a1)) then (some (-9223372036854775808)) else (some (wrap64 (a0 + a1)))) else (some (wrap64 (a0 + a1)))) = some r := by first | (rw [if_neg (show ¬ (false = true) by decide)] at H; exact H) | exact H | rfl
        clear H
        have H := H1
        clear H1
        by_cases c6 : a1 < 0
        · rw [if_pos c6] at H
          have c6b0 : decide (a1 < 0) = true := decide_eq_true c6
          clear c6
          by_cases c7 : a0 < (wrap64 ((-9223372036854775808) - a1))
          · rw [if_pos c7] at H
            have c7b0 : decide (a0 < (wrap64 ((-9223372036854775808) - a1))) = true := decide_eq_true c7
            clear c7
            obtain rfl := Option.some.inj H
            go_wp2
            go_ret
            exact ⟨by first | rfl | (rw [HLAST.out]; done) | (simp [HLAST.out]; done) | (have HL_ := HLAST.out; simp_all; done) | (simp; done) | (simp [*]; done), by repeat (first | exact Drawn0.refl _ | apply Drawn0.step)⟩
          · rw [if_neg c7] at H
            have c7b0 : decide (a0 < (wrap64 ((-9223372036854775808) - a1))) = false := decide_eq_false c7
            clear c7
            obtain rfl := Option.some.inj H
            go_wp2
            go_ret
            exact ⟨by first | rfl | (rw [HLAST.out]; done) | (simp [HLAST.out]; done) | (have HL_ := HLAST.out; simp_all; done) | (simp; done) | (simp [*]; done), by repeat (first | exact Drawn0.refl _ | apply Drawn0.step)⟩
        · rw [if_neg c6] at H
          have c6b0 : decide (a1 < 0) = false := decide_eq_false c6
          clear c6
          obtain rfl := Option.some.inj H
          go_wp2
          go_ret
          exact ⟨by first | rfl | (rw [HLAST.out]; done) | (simp [HLAST.out]; done) | (have HL_ := HLAST.out; simp_all; done) | (simp; done) | (simp [*]; done), by repeat (first | exact Drawn0.refl _ | apply Drawn0.step)⟩

/-! ### dynamolaw1_first: function 19 -/
def dynamolaw1_first.f (k : Nat)  : Option (Bool) := (fixed_Down.f (-1) 2).bind fun t101 => (if t101 = (-1) then ((fixed_Up.f 1 2).bind fun t102 => (if t102 = 1 then ((fixed_Add.f k 1 2).bind fun t103 => (some (t103 == 3))) else (some false))) else (some false))
theorem dynamolaw1_first.mono : ∀ k, LeO (dynamolaw1_first.f k ) (dynamolaw1_first.f (k + 1) ) := by
  intro  k
  unfold dynamolaw1_first.f
  repeat' first
      | (with_reducible exact fixed_Add.mono _ _ _)
      | (with_reducible exact LeO.refl _)
      | (with_reducible exact LeO.none _)
      | (with_reducible refine LeO.ite ?_ ?_)
      | (with_reducible refine LeO.bind ?_ (fun _ => ?_))
      | exact fixed_Add.mono _ _ _
      | exact LeO.none _
      | refine LeO.ite ?_ ?_
      | refine LeO.bind ?_ (fun _ => ?_)
set_option maxHeartbeats 8000000 in
set_option maxRecDepth 100000 in
theorem dynamolaw1_first.calls (k : Nat)  (r : Bool) (w : World) (h : dynamolaw1_first.f k  = some r) :
    Calls Try.prog 19 #[] w fun e w' => e = .returned (.bool r) ∧ Drawn0 w w' := by
  have H : ((fixed_Down.f (-1) 2).bind fun t101 => (if t101 = (-1) then ((fixed_Up.f 1 2).bind fun t102 => (if t102 = 1 then ((fixed_Add.f k 1 2).bind fun t103 => (some (t103 == 3))) else (some false))) else (some false))) = some r := h
  clear h
  replace H := Option.bind_eq_some_iff.mp H
  obtain ⟨t101, A10, H⟩ := H
  replace H : (if t101 = (-1) then ((fixed_Up.f 1 2).bind fun t102 => (if t102 = 1 then ((fixed_Add.f k 1 2).bind fun t103 => (some (t103 == 3))) else (some false))) else (some false)) = some r := H
  have A1 := Aside0.mk A10
  clear A10
  by_cases c2 : t101 = (-1)
  · rw [if_pos c2] at H
    have c2b0 : (t101 == (-1)) = true := beq_iff_eq.mpr c2
    have c2b1 : (t101 != (-1)) = false := bne_eq_false_iff_eq.mpr c2
    clear c2
    replace H := Option.bind_eq_some_iff.mp H
    obtain ⟨t102, A30, H⟩ := H
    replace H : (if t102 = 1 then ((fixed_Add.f k 1 2).bind fun t103 => (some (t103 == 3))) else (some false)) = some r := H
    have A3 := Aside0.mk A30
    clear A30
    by_cases c4 : t102 = 1
    · rw [if_pos c4] at H
      have c4b0 : (t102 == 1) = true := beq_iff_eq.mpr c4
      have c4b1 : (t102 != 1) = false := bne_eq_false_iff_eq.mpr c4
      clear c4
      replace H := Option.bind_eq_some_iff.mp H
      obtain ⟨t103, A50, H⟩ := H
      replace H : (some (t103 == 3)) = some r := H
      have A5 := Aside0.mk A50
      clear A50
      obtain rfl := Option.some.inj H
      go_enter Try.func19, Try.ntmps19
      go_wp2_with (first | ((with_reducible refine gate_callee (f := 20) rfl ?_); refine goesL_ (some 1) rfl rfl Try.func20 (by kernel_rfl) rfl #[.int .i64 (-1), .int .i64 2] rfl (by (try simp only [List.map_toArray, List.map_cons, List.map_nil]); first | done | rfl | (simp only [List.length_drop, List.length_take]; rfl)) ?_; (with_reducible refine (fixed_Down.calls (-1) 2 t101 _ A1.out).mono ?_); rintro e w' ⟨rfl, ⟨nd, rfl⟩⟩; refine ⟨_, rfl, ?_⟩) | (go_at_call 21; (with_reducible refine (fixed_Up.calls 1 2 t102 _ A3.out).mono ?_); rintro e w' ⟨rfl, ⟨nd, rfl⟩⟩) | (go_at_call 25; (with_reducible refine (fixed_Add.calls k 1 2 t103 _ A5.out).mono ?_); rintro e w' ⟨rfl, ⟨nd, rfl⟩⟩))
      go_ret
      exact ⟨by first | rfl | (rw [HLAST.out]; done) | (simp [HLAST.out]; done) | (have HL_ := HLAST.out; simp_all; done) | (simp; done) | (simp [*]; done), by repeat (first | exact Drawn0.refl _ | apply Drawn0.step)⟩
    · rw [if_neg c4] at H
      have c4b0 : (t102 == 1) = false := beq_eq_false_iff_ne.mpr c4
      have c4b1 : (t102 != 1) = true := bne_iff_ne.mpr c4
      obtain rfl := Option.some.inj H
      go_enter Try.func19, Try.ntmps19
      go_wp2_with (first | ((with_reducible refine gate_callee (f := 20) rfl ?_); refine goesL_ (some 1) rfl rfl Try.func20 (by kernel_rfl) rfl #[.int .i64 (-1), .int .i64 2] rfl (by (try simp only [List.map_toArray, List.map_cons, List.map_nil]); first | done | rfl | (simp only [List.length_drop, List.length_take]; rfl)) ?_; (with_reducible refine (fixed_Down.calls (-1) 2 t101 _ A1.out).mono ?_); rintro e w' ⟨rfl, ⟨nd, rfl⟩⟩; refine ⟨_, rfl, ?_⟩) | (go_at_call 21; (with_reducible refine (fixed_Up.calls 1 2 t102 _ A3.out).mono ?_); rintro e w' ⟨rfl, ⟨nd, rfl⟩⟩))
      go_ret
      exact ⟨by first | rfl | (rw [HLAST.out]; done) | (simp [HLAST.out]; done) | (have HL_ := HLAST.out; simp_all; done) | (simp; done) | (simp [*]; done), by repeat (first | exact Drawn0.refl _ | apply Drawn0.step)⟩
  · rw [if_neg c2] at H
    have c2b0 : (t101 == (-1)) = false := beq_eq_false_iff_ne.mpr c2
    have c2b1 : (t101 != (-1)) = true := bne_iff_ne.mpr c2
    obtain rfl := Option.some.inj H
    go_enter Try.func19, Try.ntmps19
    go_wp2_with (first | ((with_reducible refine gate_callee (f := 20) rfl ?_); refine goesL_ (some 1) rfl rfl Try.func20 (by kernel_rfl) rfl #[.int .i64 (-1), .int .i64 2] rfl (by (try simp only [List.map_toArray, List.map_cons, List.map_nil]); first | done | rfl | (simp only [List.length_drop, List.length_take]; rfl)) ?_; (with_reducible refine (fixed_Down.calls (-1) 2 t101 _ A1.out).mono ?_); rintro e w' ⟨rfl, ⟨nd, rfl⟩⟩; refine ⟨_, rfl, ?_⟩))
    go_ret
    exact ⟨by first | rfl | (rw [HLAST.out]; done) | (simp [HLAST.out]; done) | (have HL_ := HLAST.out; simp_all; done) | (simp; done) | (simp [*]; done), by repeat (first | exact Drawn0.refl _ | apply Drawn0.step)⟩

/-! ### dynamolaw1_FixedDivides: function 4 -/
def dynamolaw1_FixedDivides.j0 : Nat → Int → Int → Bool → Bool → Option (Bool)
  | 0, _, _, _, _ => none
  | k + 1, x0, x1, x5, x19 => if x19 = true then (if x5 = true then (if x1 ≥ 1 then (some true) else ((fixed_Down.f x0 x1).bind fun t105 => (if t105 = 0 then ((fixed_Up.f x0 x1).bind fun t106 => (some (t106 == 0))) else (some false)))) else (some false)) else ((fixed_Down.f x0 x1).bind fun t107 => ((fixed_Up.f x0 x1).bind fun t108 => (if x1 = 0 then (none) else (if x5 = true then (if (wrap64 (t107 * x1)) ≤ x0 then (if (wrap64 (x0 - (wrap64 (t107 * x1)))) < x1 then (if (wrap64 (t108 * x1)) ≥ x0 then (if (wrap64 ((wrap64 (t108 * x1)) - x0)) < x1 then (if ((t108 == t107) == ((Int.tmod x0 x1) == 0)) = true then (if (Int.tmod x0 x1) = 0 then (some true) else (some (t108 == (wrap64 (t107 + 1))))) else (some false)) else (some false)) else (some false)) else (some false)) else (some false)) else (some false)))))
def dynamolaw1_FixedDivides.f (k : Nat) (a0 : Int) (a1 : Int) : Option (Bool) := (dynamolaw1_first.f k).bind fun t104 => (if t104 = true then (if a1 < 1 then (dynamolaw1_FixedDivides.j0 k (a0 / 4) a1 t104 true) else (dynamolaw1_FixedDivides.j0 k (a0 / 4) a1 t104 (decide (a1 > 2305843009213693952)))) else (some false))
theorem dynamolaw1_FixedDivides.mono_l : ∀ k, (∀ y0 y1 y2 y3, LeO (dynamolaw1_FixedDivides.j0 k y0 y1 y2 y3) (dynamolaw1_FixedDivides.j0 (k + 1) y0 y1 y2 y3))
  | 0 => fun _ _ _ _ r h => by simp [dynamolaw1_FixedDivides.j0] at h
  | k + 1 => by
    have ih0 := dynamolaw1_FixedDivides.mono_l k
    · intro y0 y1 y2 y3
      unfold dynamolaw1_FixedDivides.j0
      repeat' first
      | (with_reducible exact ih0 _ _ _ _)
      | (with_reducible exact dynamolaw1_first.mono _)
      | (with_reducible exact LeO.refl _)
      | (with_reducible exact LeO.none _)
      | (with_reducible refine LeO.ite ?_ ?_)
      | (with_reducible refine LeO.bind ?_ (fun _ => ?_))
      | exact ih0 _ _ _ _
      | exact dynamolaw1_first.mono _
      | exact LeO.none _
      | refine LeO.ite ?_ ?_
      | refine LeO.bind ?_ (fun _ => ?_)
theorem dynamolaw1_FixedDivides.mono : ∀ a0 a1 k, LeO (dynamolaw1_FixedDivides.f k a0 a1) (dynamolaw1_FixedDivides.f (k + 1) a0 a1) := by
  intro a0 a1 k
  have ih0 := dynamolaw1_FixedDivides.mono_l k
  unfold dynamolaw1_FixedDivides.f
  repeat' first
      | (with_reducible exact ih0 _ _ _ _)
      | (with_reducible exact dynamolaw1_first.mono _)
      | (with_reducible exact LeO.refl _)
      | (with_reducible exact LeO.none _)
      | (with_reducible refine LeO.ite ?_ ?_)
      | (with_reducible refine LeO.bind ?_ (fun _ => ?_))
      | exact ih0 _ _ _ _
      | exact dynamolaw1_first.mono _
      | exact LeO.none _
      | refine LeO.ite ?_ ?_
      | refine LeO.bind ?_ (fun _ => ?_)
set_option maxHeartbeats 8000000 in
set_option maxRecDepth 100000 in
theorem dynamolaw1_FixedDivides.calls (k : Nat) (a0 : Int) (a1 : Int) (w : World) (h : dynamolaw1_FixedDivides.f k a0 a1 = some true) :
    Calls Try.prog 4 #[.int .i64 a0, .int .i64 a1] w fun e w' => e = .returned (.bool true) ∧ Drawn0 w w' := by
  have H : ((dynamolaw1_first.f k).bind fun t104 => (if t104 = true then (if a1 < 1 then (dynamolaw1_FixedDivides.j0 k (a0 / 4) a1 t104 true) else (dynamolaw1_FixedDivides.j0 k (a0 / 4) a1 t104 (decide (a1 > 2305843009213693952)))) else (some false))) = some true := h
  clear h
  replace H := Option.bind_eq_some_iff.mp H
  obtain ⟨t104, A30, H⟩ := H
  replace H : (if t104 = true then (if a1 < 1 then (dynamolaw1_FixedDivides.j0 k (a0 / 4) a1 t104 true) else (dynamolaw1_FixedDivides.j0 k (a0 / 4) a1 t104 (decide (a1 > 2305843009213693952)))) else (some false)) = some true := H
  have A3 := Aside0.mk A30
  clear A30
  by_cases c4 : t104 = true
  · subst c4
    have H1 : (if a1 < 1 then (dynamolaw1_FixedDivides.j0 k (a0 / 4) a1 true true) else (dynamolaw1_FixedDivides.j0 k (a0 / 4) a1 true (decide (a1 > 2305843009213693952)))) = some true := by first | (rw [if_pos rfl] at H; exact H) | exact H | rfl
    clear H
    have H := H1
    clear H1
    have HC5 := Aside0.mk H
    clear H
    go_enter Try.func4, Try.ntmps4
    go_upto_region 5 with (first | ((with_reducible refine gate_callee (f := 19) rfl ?_); refine goesL_ (some 9) rfl rfl Try.func19 (by kernel_rfl) rfl #[] rfl (by (try simp only [List.map_toArray, List.map_cons, List.map_nil]); first | done | rfl | (simp only [List.length_drop, List.length_take]; rfl)) ?_; (with_reducible refine (dynamolaw1_first.calls k  true _ A3.out).mono ?_); rintro e w' ⟨rfl, ⟨nd, rfl⟩⟩; refine ⟨_, rfl, ?_⟩))
    (try simp only [Act.put, List.setIfInBounds_toArray, List.set_cons_zero, List.set_cons_succ])
    go_cut [19] (fun v19 wc => ∃ (kq : Nat) (x19_4 : Bool), v19 = .bool x19_4 ∧ Aside0 (dynamolaw1_FixedDivides.j0 kq (a0 / 4) a1 true x19_4 = some true) ∧ Aside0 (kq ≤ k) ∧ Drawn0 w wc)
    case first =>
      have H := HC5.out
      clear HC5
      by_cases c6 : a1 < 1
      · rw [if_pos c6] at H
        have c6b0 : decide (a1 < 1) = true := decide_eq_true c6
        clear c6
        (first | rw [c6b0] | (simp only [i64_w, i32_w]; rw [c6b0]) | skip)
        have H' := Aside0.mk H
        clear H
        go_wp2
        go_meet
        case rel => exact ⟨_, (true), (by first | rfl | (simp; done) | (simp [*]; done)), H', ⟨by first | omega | exact Nat.le_refl _⟩, by repeat (first | exact Drawn0.refl _ | apply Drawn0.step)⟩
      · rw [if_neg c6] at H
        have c6b0 : decide (a1 < 1) = false := decide_eq_false c6
        clear c6
        (first | rw [c6b0] | (simp only [i64_w, i32_w]; rw [c6b0]) | skip)
        have H' := Aside0.mk H
        clear H
        go_wp2
        go_meet
        case rel => exact ⟨_, (decide (a1 > 2305843009213693952)), (by first | rfl | (simp; done) | (simp [*]; done)), H', ⟨by first | omega | exact Nat.le_refl _⟩, by repeat (first | exact Drawn0.refl _ | apply Drawn0.step)⟩
    case rest =>
      clear HC5
      try clear c1
      try clear p2
      try clear c4
      try clear c6
      try clear c6b0
      obtain ⟨kq, x19_4, rfl, HA, HJ4, ⟨mc4, rfl⟩⟩ := hcut
      cases kq with
      | zero => exact absurd HA.out (by simp [dynamolaw1_FixedDivides.j0])
      | succ kj4 =>
        have H := HA.out
        clear HA
        simp only [dynamolaw1_FixedDivides.j0] at H
        by_cases c7 : x19_4 = true
        · subst c7
          have H1 : (if true = true then (if a1 ≥ 1 then (some true) else ((fixed_Down.f (a0 / 4) a1).bind fun t105 => (if t105 = 0 then ((fixed_Up.f (a0 / 4) a1).bind fun t106 => (some (t106 == 0))) else (some false)))) else (some false)) = some true := by first | (rw [if_pos rfl] at H; exact H) | exact H | rfl
          clear H
          have H := H1
          clear H1
          have H1 : (if a1 ≥ 1 then (some true) else ((fixed_Down.f (a0 / 4) a1).bind fun t105 => (if t105 = 0 then ((fixed_Up.f (a0 / 4) a1).bind fun t106 => (some (t106 == 0))) else (some false)))) = some true := by first | (with_reducible exact H) | (rw [if_pos rfl] at H; exact H) | exact H | rfl
          clear H
          have H := H1
          clear H1
          by_cases c8 : a1 ≥ 1
          · rw [if_pos c8] at H
            have c8b0 : decide (1 ≤ a1) = true := decide_eq_true c8
            clear c8
            have HLAST := Aside0.mk (Option.some.inj H)
            clear H
            go_wp2
            all_goals (try go_ret)
            all_goals first | (exfalso; simp_all; done) | exact ⟨by first | rfl | (rw [HLAST.out]; done) | (simp [HLAST.out]; done) | (have HL_ := HLAST.out; simp_all; done) | (simp; done) | (simp [*]; done), by repeat (first | exact Drawn0.refl _ | apply Drawn0.step)⟩
          · rw [if_neg c8] at H
            have c8b0 : decide (1 ≤ a1) = false := decide_eq_false c8
            clear c8
            replace H := Option.bind_eq_some_iff.mp H
            obtain ⟨t105, A90, H⟩ := H
            replace H : (if t105 = 0 then ((fixed_Up.f (a0 / 4) a1).bind fun t106 => (some (t106 == 0))) else (some false)) = some true := H
            have A9 := Aside0.mk A90
            clear A90
            by_cases c10 : t105 = 0
            · rw [if_pos c10] at H
              have c10b0 : (t105 == 0) = true := beq_iff_eq.mpr c10
              have c10b1 : (t105 != 0) = false := bne_eq_false_iff_eq.mpr c10
              clear c10
              replace H := Option.bind_eq_some_iff.mp H
              obtain ⟨t106, A110, H⟩ := H
              replace H : (some (t106 == 0)) = some true := H
              have A11 := Aside0.mk A110
              clear A110
              have HLAST := Aside0.mk (Option.some.inj H)
              clear H
              go_wp2_with (first | (go_at_call 20; (with_reducible refine (fixed_Down.calls (a0 / 4) a1 t105 _ A9.out).mono ?_); rintro e w' ⟨rfl, ⟨nd, rfl⟩⟩) | (go_at_call 21; (with_reducible refine (fixed_Up.calls (a0 / 4) a1 t106 _ A11.out).mono ?_); rintro e w' ⟨rfl, ⟨nd, rfl⟩⟩))
              all_goals (try go_ret)
              all_goals first | (exfalso; simp_all; done) | exact ⟨by first | rfl | (rw [HLAST.out]; done) | (simp [HLAST.out]; done) | (have HL_ := HLAST.out; simp_all; done) | (simp; done) | (simp [*]; done), by repeat (first | exact Drawn0.refl _ | apply Drawn0.step)⟩
            · rw [if_neg c10] at H
              have c10b0 : (t105 == 0) = false := beq_eq_false_iff_ne.mpr c10
              have c10b1 : (t105 != 0) = true := bne_iff_ne.mpr c10
              exact absurd H (by simp)
        · replace c7 := Bool.eq_false_iff.mpr c7
          subst c7
          have H1 : ((fixed_Down.f (a0 / 4) a1).bind fun t107 => ((fixed_Up.f (a0 / 4) a1).bind fun t108 => (if a1 = 0 then (none) else (if true = true then (if (wrap64 (t107 * a1)) ≤ (a0 / 4) then (if (wrap64 ((a0 / 4) - (wrap64 (t107 * a1)))) < a1 then (if (wrap64 (t108 * a1)) ≥ (a0 / 4) then (if (wrap64 ((wrap64 (t108 * a1)) - (a0 / 4))) < a1 then (if ((t108 == t107) == ((Int.tmod (a0 / 4) a1) == 0)) = true then (if (Int.tmod (a0 / 4) a1) = 0 then (some true) else (some (t108 == (wrap64 (t107 + 1))))) else (some false)) else (some false)) else (some false)) else (some false)) else (some false)) else (some false))))) = some true := by first | (rw [if_neg (show ¬ (false = true) by decide)] at H; exact H) | exact H | rfl
          clear H
          have H := H1
          clear H1
          replace H := Option.bind_eq_some_iff.mp H
          obtain ⟨t107, A120, H⟩ := H
          replace H : ((fixed_Up.f (a0 / 4) a1).bind fun t108 => (if a1 = 0 then (none) else (if true = true then (if (wrap64 (t107 * a1)) ≤ (a0 / 4) then (if (wrap64 ((a0 / 4) - (wrap64 (t107 * a1)))) < a1 then (if (wrap64 (t108 * a1)) ≥ (a0 / 4) then (if (wrap64 ((wrap64 (t108 * a1)) - (a0 / 4))) < a1 then (if ((t108 == t107) == ((Int.tmod (a0 / 4) a1) == 0)) = true then (if (Int.tmod (a0 / 4) a1) = 0 then (some true) else (some (t108 == (wrap64 (t107 + 1))))) else (some false)) else (some false)) else (some false)) else (some false)) else (some false)) else (some false)))) = some true := H
          have A12 := Aside0.mk A120
          clear A120
          replace H := Option.bind_eq_some_iff.mp H
          obtain ⟨t108, A130, H⟩ := H
          replace H : (if a1 = 0 then (none) else (if true = true then (if (wrap64 (t107 * a1)) ≤ (a0 / 4) then (if (wrap64 ((a0 / 4) - (wrap64 (t107 * a1)))) < a1 then (if (wrap64 (t108 * a1)) ≥ (a0 / 4) then (if (wrap64 ((wrap64 (t108 * a1)) - (a0 / 4))) < a1 then (if ((t108 == t107) == ((Int.tmod (a0 / 4) a1) == 0)) = true then (if (Int.tmod (a0 / 4) a1) = 0 then (some true) else (some (t108 == (wrap64 (t107 + 1))))) else (some false)) else (some false)) else (some false)) else (some false)) else (some false)) else (some false))) = some true := H
          have A13 := Aside0.mk A130
          clear A130
          by_cases c14 : a1 = 0
          · rw [if_pos c14] at H
            exact absurd H (by simp)
          · rw [if_neg c14] at H
            have c14b0 : (a1 == 0) = false := beq_eq_false_iff_ne.mpr c14
            have c14b1 : (a1 != 0) = true := bne_iff_ne.mpr c14
            have H1 : (if (wrap64 (t107 * a1)) ≤ (a0 / 4) then (if (wrap64 ((a0 / 4) - (wrap64 (t107 * a1)))) < a1 then (if (wrap64 (t108 * a1)) ≥ (a0 / 4) then (if (wrap64 ((wrap64 (t108 * a1)) - (a0 / 4))) < a1 then (if ((t108 == t107) == ((Int.tmod (a0 / 4) a1) == 0)) = true then (if (Int.tmod (a0 / 4) a1) = 0 then (some true) else (some (t108 == (wrap64 (t107 + 1))))) else (some false)) else (some false)) else (some false)) else (some false)) else (some false)) = some true := by first | (with_reducible exact H) | (rw [if_pos rfl] at H; exact H) | exact H | rfl
            clear H
            have H := H1
            clear H1
            by_cases c15 : (wrap64 (t107 * a1)) ≤ (a0 / 4)
            · rw [if_pos c15] at H
              have c15b0 : decide ((wrap64 (t107 * a1)) ≤ (a0 / 4)) = true := decide_eq_true c15
              clear c15
              by_cases c16 : (wrap64 ((a0 / 4) - (wrap64 (t107 * a1)))) < a1
              · rw [if_pos c16] at H
                have c16b0 : decide ((wrap64 ((a0 / 4) - (wrap64 (t107 * a1)))) < a1) = true := decide_eq_true c16
                clear c16
                by_cases c17 : (wrap64 (t108 * a1)) ≥ (a0 / 4)
                · rw [if_pos c17] at H
                  have c17b0 : decide ((a0 / 4) ≤ (wrap64 (t108 * a1))) = true := decide_eq_true c17
                  clear c17
                  by_cases c18 : (wrap64 ((wrap64 (t108 * a1)) - (a0 / 4))) < a1
                  · rw [if_pos c18] at H
                    have c18b0 : decide ((wrap64 ((wrap64 (t108 * a1)) - (a0 / 4))) < a1) = true := decide_eq_true c18
                    clear c18
                    by_cases c19 : ((t108 == t107) == ((Int.tmod (a0 / 4) a1) == 0)) = true
                    · rw [if_pos c19] at H
                      have c19b0 : ((t108 == t107) == ((Int.tmod (a0 / 4) a1) == 0)) = true := c19
                      (try (have c19b1 : decide ((t108 == t107) = ((Int.tmod (a0 / 4) a1) == 0)) = true := by simpa using c19))
                      (try (have c19b2 : ((t108 == t107) == ((Int.tmod (a0 / 4) a1) == 0)) = true := by simpa using c19))
                      clear c19
                      by_cases c20 : (Int.tmod (a0 / 4) a1) = 0
                      · rw [if_pos c20] at H
                        have c20b0 : ((Int.tmod (a0 / 4) a1) == 0) = true := beq_iff_eq.mpr c20
                        have c20b1 : ((Int.tmod (a0 / 4) a1) != 0) = false := bne_eq_false_iff_eq.mpr c20
                        clear c20
                        have HLAST := Aside0.mk (Option.some.inj H)
                        clear H
                        go_wp2_with (first | ((with_reducible refine gate_callee (f := 20) rfl ?_); refine goesL_ (some 39) rfl rfl Try.func20 (by kernel_rfl) rfl #[.int .i64 (a0 / 4), .int .i64 a1] rfl (by (try simp only [List.map_toArray, List.map_cons, List.map_nil]); first | done | rfl | (simp only [List.length_drop, List.length_take]; rfl)) ?_; (with_reducible refine (fixed_Down.calls (a0 / 4) a1 t107 _ A12.out).mono ?_); rintro e w' ⟨rfl, ⟨nd, rfl⟩⟩; refine ⟨_, rfl, ?_⟩) | ((with_reducible refine gate_callee (f := 21) rfl ?_); refine goesL_ (some 42) rfl rfl Try.func21 (by kernel_rfl) rfl #[.int .i64 (a0 / 4), .int .i64 a1] rfl (by (try simp only [List.map_toArray, List.map_cons, List.map_nil]); first | done | rfl | (simp only [List.length_drop, List.length_take]; rfl)) ?_; (with_reducible refine (fixed_Up.calls (a0 / 4) a1 t108 _ A13.out).mono ?_); rintro e w' ⟨rfl, ⟨nd, rfl⟩⟩; refine ⟨_, rfl, ?_⟩))
                        all_goals (try go_ret)
                        all_goals first | (exfalso; simp_all; done) | exact ⟨by first | rfl | (rw [HLAST.out]; done) | (simp [HLAST.out]; done) | (have HL_ := HLAST.out; simp_all; done) | (simp; done) | (simp [*]; done), by repeat (first | exact Drawn0.refl _ | apply Drawn0.step)⟩
                      · rw [if_neg c20] at H
                        have c20b0 : ((Int.tmod (a0 / 4) a1) == 0) = false := beq_eq_false_iff_ne.mpr c20
                        have c20b1 : ((Int.tmod (a0 / 4) a1) != 0) = true := bne_iff_ne.mpr c20
                        have HLAST := Aside0.mk (Option.some.inj H)
                        clear H
                        go_wp2_with (first | ((with_reducible refine gate_callee (f := 20) rfl ?_); refine goesL_ (some 39) rfl rfl Try.func20 (by kernel_rfl) rfl #[.int .i64 (a0 / 4), .int .i64 a1] rfl (by (try simp only [List.map_toArray, List.map_cons, List.map_nil]); first | done | rfl | (simp only [List.length_drop, List.length_take]; rfl)) ?_; (with_reducible refine (fixed_Down.calls (a0 / 4) a1 t107 _ A12.out).mono ?_); rintro e w' ⟨rfl, ⟨nd, rfl⟩⟩; refine ⟨_, rfl, ?_⟩) | ((with_reducible refine gate_callee (f := 21) rfl ?_); refine goesL_ (some 42) rfl rfl Try.func21 (by kernel_rfl) rfl #[.int .i64 (a0 / 4), .int .i64 a1] rfl (by (try simp only [List.map_toArray, List.map_cons, List.map_nil]); first | done | rfl | (simp only [List.length_drop, List.length_take]; rfl)) ?_; (with_reducible refine (fixed_Up.calls (a0 / 4) a1 t108 _ A13.out).mono ?_); rintro e w' ⟨rfl, ⟨nd, rfl⟩⟩; refine ⟨_, rfl, ?_⟩))
                        all_goals (try go_ret)
                        all_goals first | (exfalso; simp_all; done) | exact ⟨by first | rfl | (rw [HLAST.out]; done) | (simp [HLAST.out]; done) | (have HL_ := HLAST.out; simp_all; done) | (simp; done) | (simp [*]; done), by repeat (first | exact Drawn0.refl _ | apply Drawn0.step)⟩
                    · rw [if_neg c19] at H
                      have c19b0 : ((t108 == t107) == ((Int.tmod (a0 / 4) a1) == 0)) = false := by simpa using c19
                      (try (have c19b1 : decide ((t108 == t107) = ((Int.tmod (a0 / 4) a1) == 0)) = false := by simpa using c19))
                      (try (have c19b2 : ((t108 == t107) == ((Int.tmod (a0 / 4) a1) == 0)) = false := by simpa using c19))
                      (try (have c19b3 : ¬ ((t108 == t107) = ((Int.tmod (a0 / 4) a1) == 0)) := by simpa using c19))
                      clear c19
                      exact absurd H (by simp)
                  · rw [if_neg c18] at H
                    have c18b0 : decide ((wrap64 ((wrap64 (t108 * a1)) - (a0 / 4))) < a1) = false := decide_eq_false c18
                    clear c18
                    exact absurd H (by simp)
                · rw [if_neg c17] at H
                  have c17b0 : decide ((a0 / 4) ≤ (wrap64 (t108 * a1))) = false := decide_eq_false c17
                  clear c17
                  exact absurd H (by simp)
              · rw [if_neg c16] at H
                have c16b0 : decide ((wrap64 ((a0 / 4) - (wrap64 (t107 * a1)))) < a1) = false := decide_eq_false c16
                clear c16
                exact absurd H (by simp)
            · rw [if_neg c15] at H
              have c15b0 : decide ((wrap64 (t107 * a1)) ≤ (a0 / 4)) = false := decide_eq_false c15
              clear c15
              exact absurd H (by simp)
  · replace c4 := Bool.eq_false_iff.mpr c4
    subst c4
    have H1 : (some false) = some true := by first | (rw [if_neg (show ¬ (false = true) by decide)] at H; exact H) | exact H | rfl
    clear H
    have H := H1
    clear H1
    exact absurd H (by simp)

/-- THE ONE PURE STATEMENT of dynamolaw1_FixedDivides: yours. -/
def dynamolaw1_FixedDivides.Pure : Prop := ∀ (a0 : Int) (a1 : Int), (Lit.int .i64 a0).wf = true → (Lit.int .i64 a1).wf = true → ∃ k, dynamolaw1_FixedDivides.f k a0 a1 = some true
theorem dynamolaw1_FixedDivides.walk (P : dynamolaw1_FixedDivides.Pure) (a0 : Int) (a1 : Int) (w : World) (w0 : (Lit.int .i64 a0).wf = true) (w1 : (Lit.int .i64 a1).wf = true) :
    Calls Try.prog 4 #[.int .i64 a0, .int .i64 a1] w fun e w' => e = .returned (.bool true) ∧ Below w.heap.size w w' := by
  obtain ⟨k, h⟩ := P a0 a1 w0 w1
  refine (dynamolaw1_FixedDivides.calls k a0 a1 w h).mono ?_
  rintro e w' ⟨rfl, hd⟩
  exact ⟨rfl, hd.below⟩

end Go.Proofs.Ytjecaenloilkcaa.PFixedDivides
