-- written by this work with wip/mkprint2.py
import Derived.Test.YtjecaenloilkcaaPFixedSaysx0
import Derived.Test.YtjecaenloilkcaaPFixedSaysx1
namespace Go.Proofs.Ytjecaenloilkcaa.PFixedSays
open Go.RowKit Go.Proofs.YtjecaenloilkcaaW.PrintWords Go.Proofs.YtjecaenloilkcaaW.PrintLast Go.Proofs.YtjecaenloilkcaaW.PrintMore
attribute [local go_sem] max2_int min2_int max_two min_two max_three min_three max_four min_four   -- for this text's walks alone
set_option linter.unusedVariables false
set_option linter.unusedSimpArgs false

/-! ### dynamoref1_Add: function 29 -/
def dynamoref1_Add.j0 : Nat → Int → Int → Bool → Option (Int)
  | 0, _, _, _ => none
  | k + 1, x0, x1, x5 => if x5 = true then (some 9223372036854775807) else (if x1 < 0 then (if x0 < (wrap64 ((-9223372036854775808) - x1)) then (some (-9223372036854775808)) else (some (wrap64 (x0 + x1)))) else (some (wrap64 (x0 + x1))))
def dynamoref1_Add.f (k : Nat) (a0 : Int) (a1 : Int) : Option (Int) := if a1 > 0 then (dynamoref1_Add.j0 k a0 a1 (decide (a0 > (wrap64 (9223372036854775807 - a1))))) else (dynamoref1_Add.j0 k a0 a1 false)
theorem dynamoref1_Add.mono_l : ∀ k, (∀ y0 y1 y2, LeO (dynamoref1_Add.j0 k y0 y1 y2) (dynamoref1_Add.j0 (k + 1) y0 y1 y2))
  | 0 => fun _ _ _ r h => by simp [dynamoref1_Add.j0] at h
  | k + 1 => by
    have ih0 := dynamoref1_Add.mono_l k
    · intro y0 y1 y2
      unfold dynamoref1_Add.j0
      repeat' first
      | (with_reducible exact ih0 _ _ _)
      | (with_reducible exact LeO.refl _)
      | (with_reducible exact LeO.none _)
      | (with_reducible refine LeO.ite ?_ ?_)
      | (with_reducible refine LeO.bind ?_ (fun _ => ?_))
      | exact ih0 _ _ _
      | exact LeO.none _
      | refine LeO.ite ?_ ?_
      | refine LeO.bind ?_ (fun _ => ?_)
theorem dynamoref1_Add.mono : ∀ a0 a1 k, LeO (dynamoref1_Add.f k a0 a1) (dynamoref1_Add.f (k + 1) a0 a1) := by
  intro a0 a1 k
  have ih0 := dynamoref1_Add.mono_l k
  unfold dynamoref1_Add.f
  repeat' first
      | (with_reducible exact ih0 _ _ _)
      | (with_reducible exact LeO.refl _)
      | (with_reducible exact LeO.none _)
      | (with_reducible refine LeO.ite ?_ ?_)
      | (with_reducible refine LeO.bind ?_ (fun _ => ?_))
      | exact ih0 _ _ _
      | exact LeO.none _
      | refine LeO.ite ?_ ?_
      | refine LeO.bind ?_ (fun _ => ?_)
set_option maxHeartbeats 8000000 in
set_option maxRecDepth 100000 in
theorem dynamoref1_Add.calls (k : Nat) (a0 : Int) (a1 : Int) (r : Int) (w : World) (h : dynamoref1_Add.f k a0 a1 = some r) :
    Calls Try.prog 29 #[.int .i64 a0, .int .i64 a1] w fun e w' => e = .returned (.int .i64 r) ∧ Drawn0 w w' := by
  have H : (if a1 > 0 then (dynamoref1_Add.j0 k a0 a1 (decide (a0 > (wrap64 (9223372036854775807 - a1))))) else (dynamoref1_Add.j0 k a0 a1 false)) = some r := h
  clear h
  have HC3 := Aside0.mk H
  clear H
  go_enter Try.func29, Try.ntmps29
  go_upto_region 1 with (fail)
  go_cut [5] (fun v5 wc => ∃ (kq : Nat) (x5_2 : Bool), v5 = .bool x5_2 ∧ Aside0 (dynamoref1_Add.j0 kq a0 a1 x5_2 = some r) ∧ Aside0 (kq ≤ k) ∧ Drawn0 w wc)
  case first =>
    have H := HC3.out
    clear HC3
    by_cases c4 : a1 > 0
    · rw [if_pos c4] at H
      have c4b0 : decide (0 < a1) = true := decide_eq_true c4
      clear c4
      (first | rw [c4b0] | (simp only [i64_w, i32_w]; rw [c4b0]) | skip)
      have H' := Aside0.mk H
      clear H
      go_wp2
      go_meet
      case rel => exact ⟨_, (decide (a0 > (wrap64 (9223372036854775807 - a1)))), (by first | rfl | (simp; done) | (simp [*]; done)), H', ⟨by first | omega | exact Nat.le_refl _⟩, by repeat (first | exact Drawn0.refl _ | apply Drawn0.step)⟩
    · rw [if_neg c4] at H
      have c4b0 : decide (0 < a1) = false := decide_eq_false c4
      clear c4
      (first | rw [c4b0] | (simp only [i64_w, i32_w]; rw [c4b0]) | skip)
      have H' := Aside0.mk H
      clear H
      go_wp2
      go_meet
      case rel => exact ⟨_, (false), (by first | rfl | (simp; done) | (simp [*]; done)), H', ⟨by first | omega | exact Nat.le_refl _⟩, by repeat (first | exact Drawn0.refl _ | apply Drawn0.step)⟩
  case rest =>
    clear HC3
    try clear c2
    try clear p2
    try clear c4
    try clear c4b0
    obtain ⟨kq, x5_2, rfl, HA, HJ2, ⟨mc2, rfl⟩⟩ := hcut
    cases kq with
    | zero => exact absurd HA.out (by simp [dynamoref1_Add.j0])
    | succ kj2 =>
      have H := HA.out
      clear HA
      simp only [dynamoref1_Add.j0] at H
      by_cases c5 : x5_2 = true
      · subst c5
        have H1 : (some 9223372036854775807) = some r := by first | (rw [if_pos rfl] at H; exact H) | exact H | rfl
        clear H
        have H := H1
        clear H1
        obtain rfl := Option.some.inj H
        go_wp2
        go_ret
        exact ⟨by first | rfl | (rw [HLAST.out]; done) | (simp [HLAST.out]; done) | (have HL_ := HLAST.out; simp_all; done) | (simp; done) | (simp [*]; done), by repeat (first | exact Drawn0.refl _ | apply Drawn0.step)⟩
      · replace c5 := Bool.eq_false_iff.mpr c5
        subst c5
        have H1 : (if a1 < 0 then (if a0 < (wrap64 ((-9223372036854775808) - a1)) then (some (-9223372036854775808)) else (some (wrap64 (a0 + a1)))) else (some (wrap64 (a0 + a1)))) = some r := by first | (rw [if_neg (show ¬ (false = true) by decide)] at H; exact H) | exact H | rfl
        clear H
        have H := H1
        clear H1
        by_cases c6 : a1 < 0
        · rw [if_pos c6] at H
          have c6b0 : decide (a1 < 0) = true := decide_eq_true c6
          clear c6
          by_cases c7 : a0 < (wrap64 ((-9223372036854775808) - a1))
          · rw [if_pos c7] at H
            have c7b0 : decide (a0 < (wrap64 ((-9223372036854775808) - a1))) = true := decide_eq_true c7
            clear c7
            obtain rfl := Option.some.inj H
            go_wp2
            go_ret
            exact ⟨by first | rfl | (rw [HLAST.out]; done) | (simp [HLAST.out]; done) | (have HL_ := HLAST.out; simp_all; done) | (simp; done) | (simp [*]; done), by repeat (first | exact Drawn0.refl _ | apply Drawn0.step)⟩
          · rw [if_neg c7] at H
            have c7b0 : decide (a0 < (wrap64 ((-9223372036854775808) - a1))) = false := decide_eq_false c7
            clear c7
            obtain rfl := Option.some.inj H
            go_wp2
            go_ret
            exact ⟨by first | rfl | (rw [HLAST.out]; done) | (simp [HLAST.out]; done) | (have HL_ := HLAST.out; simp_all; done) | (simp; done) | (simp [*]; done), by repeat (first | exact Drawn0.refl _ | apply Drawn0.step)⟩
        · rw [if_neg c6] at H
          have c6b0 : decide (a1 < 0) = false := decide_eq_false c6
          clear c6
          obtain rfl := Option.some.inj H
          go_wp2
          go_ret
          exact ⟨by first | rfl | (rw [HLAST.out]; done) | (simp [HLAST.out]; done) | (have HL_ := HLAST.out; simp_all; done) | (simp; done) | (simp [*]; done), by repeat (first | exact Drawn0.refl _ | apply Drawn0.step)⟩

/-! ### dynamoref1_Sub: function 30 -/
def dynamoref1_Sub.f (k : Nat) (a0 : Int) (a1 : Int) : Option (Int) := if a1 = (-9223372036854775808) then (if a0 ≥ 0 then (some 9223372036854775807) else (some (wrap64 (a0 - a1)))) else ((dynamoref1_Add.f k a0 (wrap64 (-a1))).bind fun t105 => (some t105))
theorem dynamoref1_Sub.mono : ∀ a0 a1 k, LeO (dynamoref1_Sub.f k a0 a1) (dynamoref1_Sub.f (k + 1) a0 a1) := by
  intro a0 a1 k
  unfold dynamoref1_Sub.f
  repeat' first
      | (with_reducible exact dynamoref1_Add.mono _ _ _)
      | (with_reducible exact LeO.refl _)
      | (with_reducible exact LeO.none _)
      | (with_reducible refine LeO.ite ?_ ?_)
      | (with_reducible refine LeO.bind ?_ (fun _ => ?_))
      | exact dynamoref1_Add.mono _ _ _
      | exact LeO.none _
      | refine LeO.ite ?_ ?_
      | refine LeO.bind ?_ (fun _ => ?_)
set_option maxHeartbeats 8000000 in
set_option maxRecDepth 100000 in
theorem dynamoref1_Sub.calls (k : Nat) (a0 : Int) (a1 : Int) (r : Int) (w : World) (h : dynamoref1_Sub.f k a0 a1 = some r) :
    Calls Try.prog 30 #[.int .i64 a0, .int .i64 a1] w fun e w' => e = .returned (.int .i64 r) ∧ Drawn0 w w' := by
  have H : (if a1 = (-9223372036854775808) then (if a0 ≥ 0 then (some 9223372036854775807) else (some (wrap64 (a0 - a1)))) else ((dynamoref1_Add.f k a0 (wrap64 (-a1))).bind fun t105 => (some t105))) = some r := h
  clear h
  by_cases c3 : a1 = (-9223372036854775808)
  · rw [if_pos c3] at H
    have c3b0 : (a1 == (-9223372036854775808)) = true := beq_iff_eq.mpr c3
    have c3b1 : (a1 != (-9223372036854775808)) = false := bne_eq_false_iff_eq.mpr c3
    clear c3
    by_cases c4 : a0 ≥ 0
    · rw [if_pos c4] at H
      have c4b0 : decide (0 ≤ a0) = true := decide_eq_true c4
      clear c4
      obtain rfl := Option.some.inj H
      go_enter Try.func30, Try.ntmps30
      go_wp2
      go_ret
      exact ⟨by first | rfl | (rw [HLAST.out]; done) | (simp [HLAST.out]; done) | (have HL_ := HLAST.out; simp_all; done) | (simp; done) | (simp [*]; done), by repeat (first | exact Drawn0.refl _ | apply Drawn0.step)⟩
    · rw [if_neg c4] at H
      have c4b0 : decide (0 ≤ a0) = false := decide_eq_false c4
      clear c4
      obtain rfl := Option.some.inj H
      go_enter Try.func30, Try.ntmps30
      go_wp2
      go_ret
      exact ⟨by first | rfl | (rw [HLAST.out]; done) | (simp [HLAST.out]; done) | (have HL_ := HLAST.out; simp_all; done) | (simp; done) | (simp [*]; done), by repeat (first | exact Drawn0.refl _ | apply Drawn0.step)⟩
  · rw [if_neg c3] at H
    have c3b0 : (a1 == (-9223372036854775808)) = false := beq_eq_false_iff_ne.mpr c3
    have c3b1 : (a1 != (-9223372036854775808)) = true := bne_iff_ne.mpr c3
    replace H := Option.bind_eq_some_iff.mp H
    obtain ⟨t105, A50, H⟩ := H
    replace H : (some t105) = some r := H
    have A5 := Aside0.mk A50
    clear A50
    obtain rfl := Option.some.inj H
    go_enter Try.func30, Try.ntmps30
    go_wp2_with (first | ((with_reducible refine gate_callee (f := 29) rfl ?_); refine goesL_ (some 15) rfl rfl Try.func29 (by kernel_rfl) rfl #[.int .i64 a0, .int .i64 (wrap64 (-a1))] rfl (by (try simp only [List.map_toArray, List.map_cons, List.map_nil]); first | done | rfl | (simp only [List.length_drop, List.length_take]; rfl)) ?_; (with_reducible refine (dynamoref1_Add.calls k a0 (wrap64 (-a1)) t105 _ A5.out).mono ?_); rintro e w' ⟨rfl, ⟨nd, rfl⟩⟩; refine ⟨_, rfl, ?_⟩))
    go_ret
    exact ⟨by first | rfl | (rw [HLAST.out]; done) | (simp [HLAST.out]; done) | (have HL_ := HLAST.out; simp_all; done) | (simp; done) | (simp [*]; done), by repeat (first | exact Drawn0.refl _ | apply Drawn0.step)⟩

/-! ### dynamoref1_mag: function 53 -/
def dynamoref1_mag.f (a0 : Int) : Option (Int) := if a0 < 0 then (some (IntKind.u64.wrap ((IntKind.u64.wrap (wrap64 (-(wrap64 (a0 + 1))))) + 1))) else (some (IntKind.u64.wrap (a0)))
set_option maxHeartbeats 8000000 in
set_option maxRecDepth 100000 in
theorem dynamoref1_mag.calls (a0 : Int) (r : Int) (w : World) (h : dynamoref1_mag.f a0 = some r) :
    Calls Try.prog 53 #[.int .i64 a0] w fun e w' => e = .returned (.int .u64 r) ∧ Drawn0 w w' := by
  have H : (if a0 < 0 then (some (IntKind.u64.wrap ((IntKind.u64.wrap (wrap64 (-(wrap64 (a0 + 1))))) + 1))) else (some (IntKind.u64.wrap (a0)))) = some r := h
  clear h
  by_cases c2 : a0 < 0
  · rw [if_pos c2] at H
    have c2b0 : decide (a0 < 0) = true := decide_eq_true c2
    clear c2
    obtain rfl := Option.some.inj H
    go_enter Try.func53, Try.ntmps53
    go_wp2
    go_ret
    exact ⟨by first | rfl | (rw [HLAST.out]; done) | (simp [HLAST.out]; done) | (have HL_ := HLAST.out; simp_all; done) | (simp; done) | (simp [*]; done), by repeat (first | exact Drawn0.refl _ | apply Drawn0.step)⟩
  · rw [if_neg c2] at H
    have c2b0 : decide (a0 < 0) = false := decide_eq_false c2
    clear c2
    obtain rfl := Option.some.inj H
    go_enter Try.func53, Try.ntmps53
    go_wp2
    go_ret
    exact ⟨by first | rfl | (rw [HLAST.out]; done) | (simp [HLAST.out]; done) | (have HL_ := HLAST.out; simp_all; done) | (simp; done) | (simp [*]; done), by repeat (first | exact Drawn0.refl _ | apply Drawn0.step)⟩

/-! ### dynamoref1_Mul: function 31 -/
mutual
def dynamoref1_Mul.j0 : Nat → Int → Int → Bool → Option (Int)
  | 0, _, _, _ => none
  | k + 1, x0, x1, x13 => if x13 = true then (some 0) else (if x0 > 0 then (if x1 > 0 then (dynamoref1_Mul.j1 k x0 x1 true) else (if x0 < 0 then (dynamoref1_Mul.j1 k x0 x1 (decide (x1 < 0))) else (dynamoref1_Mul.j1 k x0 x1 false))) else (if x0 < 0 then (dynamoref1_Mul.j1 k x0 x1 (decide (x1 < 0))) else (dynamoref1_Mul.j1 k x0 x1 false)))
def dynamoref1_Mul.j1 : Nat → Int → Int → Bool → Option (Int)
  | 0, _, _, _ => none
  | k + 1, x0, x1, x5 => (dynamoref1_mag.f x0).bind fun t106 => ((dynamoref1_mag.f x1).bind fun t107 => (if x5 = true then (if t107 = 0 then (none) else (if t106 > (IntKind.u64.wrap ((9223372036854775807 : Int) / t107)) then (some 9223372036854775807) else (some (wrap64 (IntKind.u64.wrap (t106 * t107)))))) else (if t107 = 0 then (none) else (if t106 > (IntKind.u64.wrap ((9223372036854775808 : Int) / t107)) then (some (-9223372036854775808)) else (some (wrap64 (IntKind.u64.wrap (-(IntKind.u64.wrap (t106 * t107))))))))))
end
def dynamoref1_Mul.f (k : Nat) (a0 : Int) (a1 : Int) : Option (Int) := if a0 = 0 then (dynamoref1_Mul.j0 k a0 a1 true) else (dynamoref1_Mul.j0 k a0 a1 (a1 == 0))
theorem dynamoref1_Mul.mono_l : ∀ k, (∀ y0 y1 y2, LeO (dynamoref1_Mul.j0 k y0 y1 y2) (dynamoref1_Mul.j0 (k + 1) y0 y1 y2)) ∧ (∀ y0 y1 y2, LeO (dynamoref1_Mul.j1 k y0 y1 y2) (dynamoref1_Mul.j1 (k + 1) y0 y1 y2))
  | 0 => ⟨fun _ _ _ r h => by simp [dynamoref1_Mul.j0] at h, fun _ _ _ r h => by simp [dynamoref1_Mul.j1] at h⟩
  | k + 1 => by
    obtain ⟨ih0, ih1⟩ := dynamoref1_Mul.mono_l k
    refine ⟨?_, ?_⟩
    · intro y0 y1 y2
      unfold dynamoref1_Mul.j0
      repeat' first
      | (with_reducible exact ih0 _ _ _)
      | (with_reducible exact ih1 _ _ _)
      | (with_reducible exact LeO.refl _)
      | (with_reducible exact LeO.none _)
      | (with_reducible refine LeO.ite ?_ ?_)
      | (with_reducible refine LeO.bind ?_ (fun _ => ?_))
      | exact ih0 _ _ _
      | exact ih1 _ _ _
      | exact LeO.none _
      | refine LeO.ite ?_ ?_
      | refine LeO.bind ?_ (fun _ => ?_)
    · intro y0 y1 y2
      unfold dynamoref1_Mul.j1
      repeat' first
      | (with_reducible exact ih0 _ _ _)
      | (with_reducible exact ih1 _ _ _)
      | (with_reducible exact LeO.refl _)
      | (with_reducible exact LeO.none _)
      | (with_reducible refine LeO.ite ?_ ?_)
      | (with_reducible refine LeO.bind ?_ (fun _ => ?_))
      | exact ih0 _ _ _
      | exact ih1 _ _ _
      | exact LeO.none _
      | refine LeO.ite ?_ ?_
      | refine LeO.bind ?_ (fun _ => ?_)
theorem dynamoref1_Mul.mono : ∀ a0 a1 k, LeO (dynamoref1_Mul.f k a0 a1) (dynamoref1_Mul.f (k + 1) a0 a1) := by
  intro a0 a1 k
  obtain ⟨ih0, ih1⟩ := dynamoref1_Mul.mono_l k
  unfold dynamoref1_Mul.f
  repeat' first
      | (with_reducible exact ih0 _ _ _)
      | (with_reducible exact ih1 _ _ _)
      | (with_reducible exact LeO.refl _)
      | (with_reducible exact LeO.none _)
      | (with_reducible refine LeO.ite ?_ ?_)
      | (with_reducible refine LeO.bind ?_ (fun _ => ?_))
      | exact ih0 _ _ _
      | exact ih1 _ _ _
      | exact LeO.none _
      | refine LeO.ite ?_ ?_
      | refine LeO.bind ?_ (fun _ => ?_)
set_option maxHeartbeats 8000000 in
set_option maxRecDepth 100000 in
theorem dynamoref1_Mul.calls (k : Nat) (a0 : Int) (a1 : Int) (r : Int) (w : World) (h : dynamoref1_Mul.f k a0 a1 = some r) :
    Calls Try.prog 31 #[.int .i64 a0, .int .i64 a1] w fun e w' => e = .returned (.int .i64 r) ∧ Drawn0 w w' := by
  have H : (if a0 = 0 then (dynamoref1_Mul.j0 k a0 a1 true) else (dynamoref1_Mul.j0 k a0 a1 (a1 == 0))) = some r := h
  clear h
  have HC3 := Aside0.mk H
  clear H
  go_enter Try.func31, Try.ntmps31
  go_upto_region 1 with (fail)
  go_cut [13] (fun v13 wc => ∃ (kq : Nat) (x13_2 : Bool), v13 = .bool x13_2 ∧ Aside0 (dynamoref1_Mul.j0 kq a0 a1 x13_2 = some r) ∧ Aside0 (kq ≤ k) ∧ Drawn0 w wc)
  case first =>
    have H := HC3.out
    clear HC3
    by_cases c4 : a0 = 0
    · rw [if_pos c4] at H
      have c4b0 : (a0 == 0) = true := beq_iff_eq.mpr c4
      have c4b1 : (a0 != 0) = false := bne_eq_false_iff_eq.mpr c4
      clear c4
      (first | rw [c4b0] | (simp only [i64_w, i32_w]; rw [c4b0]) | skip)
      have H' := Aside0.mk H
      clear H
      go_wp2
      go_meet
      case rel => exact ⟨_, (true), (by first | rfl | (simp; done) | (simp [*]; done)), H', ⟨by first | omega | exact Nat.le_refl _⟩, by repeat (first | exact Drawn0.refl _ | apply Drawn0.step)⟩
    · rw [if_neg c4] at H
      have c4b0 : (a0 == 0) = false := beq_eq_false_iff_ne.mpr c4
      have c4b1 : (a0 != 0) = true := bne_iff_ne.mpr c4
      (first | rw [c4b0] | (simp only [i64_w, i32_w]; rw [c4b0]) | skip)
      have H' := Aside0.mk H
      clear H
      go_wp2
      go_meet
      case rel => exact ⟨_, ((a1 == 0)), (by first | rfl | (simp; done) | (simp [*]; done)), H', ⟨by first | omega | exact Nat.le_refl _⟩, by repeat (first | exact Drawn0.refl _ | apply Drawn0.step)⟩
  case rest =>
    clear HC3
    try clear p2
    try clear c3
    try clear c4
    try clear c4b0
    try clear c4b1
    obtain ⟨kq, x13_2, rfl, HA, HJ2, ⟨mc2, rfl⟩⟩ := hcut
    cases kq with
    | zero => exact absurd HA.out (by simp [dynamoref1_Mul.j0])
    | succ kj2 =>
      have H := HA.out
      clear HA
      simp only [dynamoref1_Mul.j0] at H
      by_cases c5 : x13_2 = true
      · subst c5
        have H1 : (some 0) = some r := by first | (rw [if_pos rfl] at H; exact H) | exact H | rfl
        clear H
        have H := H1
        clear H1
        obtain rfl := Option.some.inj H
        go_wp2
        go_ret
        exact ⟨by first | rfl | (rw [HLAST.out]; done) | (simp [HLAST.out]; done) | (have HL_ := HLAST.out; simp_all; done) | (simp; done) | (simp [*]; done), by repeat (first | exact Drawn0.refl _ | apply Drawn0.step)⟩
      · replace c5 := Bool.eq_false_iff.mpr c5
        subst c5
        have H1 : (if a0 > 0 then (if a1 > 0 then (dynamoref1_Mul.j1 kj2 a0 a1 true) else (if a0 < 0 then (dynamoref1_Mul.j1 kj2 a0 a1 (decide (a1 < 0))) else (dynamoref1_Mul.j1 kj2 a0 a1 false))) else (if a0 < 0 then (dynamoref1_Mul.j1 kj2 a0 a1 (decide (a1 < 0))) else (dynamoref1_Mul.j1 kj2 a0 a1 false))) = some r := by first | (rw [if_neg (show ¬ (false = true) by decide)] at H; exact H) | exact H | rfl
        clear H
        have H := H1
        clear H1
        have HC6 := Aside0.mk H
        clear H
        go_upto_region 3 with (fail)
        go_cut [5] (fun v5 wc => ∃ (kq : Nat) (x5_5 : Bool), v5 = .bool x5_5 ∧ Aside0 (dynamoref1_Mul.j1 kq a0 a1 x5_5 = some r) ∧ Aside0 (kq ≤ kj2) ∧ Drawn0 w wc)
        case first =>
          have H := HC6.out
          clear HC6
          by_cases c7 : a0 > 0
          · rw [if_pos c7] at H
            have c7b0 : decide (0 < a0) = true := decide_eq_true c7
            clear c7
            (first | rw [c7b0] | (simp only [i64_w, i32_w]; rw [c7b0]) | skip)
            by_cases c8 : a1 > 0
            · rw [if_pos c8] at H
              have c8b0 : decide (0 < a1) = true := decide_eq_true c8
              clear c8
              have H' := Aside0.mk H
              clear H
              go_wp2
              go_meet
              case rel => exact ⟨_, (true), (by first | rfl | (simp; done) | (simp [*]; done)), H', ⟨by have := HJ2.out; first | omega | exact Nat.le_refl _⟩, by repeat (first | exact Drawn0.refl _ | apply Drawn0.step)⟩
            · rw [if_neg c8] at H
              have c8b0 : decide (0 < a1) = false := decide_eq_false c8
              clear c8
              by_cases c9 : a0 < 0
              · rw [if_pos c9] at H
                have c9b0 : decide (a0 < 0) = true := decide_eq_true c9
                clear c9
                have H' := Aside0.mk H
                clear H
                go_wp2
                go_meet
                case rel => exact ⟨_, (decide (a1 < 0)), (by first | rfl | (simp; done) | (simp [*]; done)), H', ⟨by have := HJ2.out; first | omega | exact Nat.le_refl _⟩, by repeat (first | exact Drawn0.refl _ | apply Drawn0.step)⟩
              · rw [if_neg c9] at H
                have c9b0 : decide (a0 < 0) = false := decide_eq_false c9
                clear c9
                have H' := Aside0.mk H
                clear H
                go_wp2
                go_meet
                case rel => exact ⟨_, (false), (by first | rfl | (simp; done) | (simp [*]; done)), H', ⟨by have := HJ2.out; first | omega | exact Nat.le_refl _⟩, by repeat (first | exact Drawn0.refl _ | apply Drawn0.step)⟩
          · rw [if_neg c7] at H
            have c7b0 : decide (0 < a0) = false := decide_eq_false c7
            clear c7
            (first | rw [c7b0] | (simp only [i64_w, i32_w]; rw [c7b0]) | skip)
            by_cases c10 : a0 < 0
            · rw [if_pos c10] at H
              have c10b0 : decide (a0 < 0) = true := decide_eq_true c10
              clear c10
              have H' := Aside0.mk H
              clear H
              go_wp2
              go_meet
              case rel => exact ⟨_, (decide (a1 < 0)), (by first | rfl | (simp; done) | (simp [*]; done)), H', ⟨by have := HJ2.out; first | omega | exact Nat.le_refl _⟩, by repeat (first | exact Drawn0.refl _ | apply Drawn0.step)⟩
            · rw [if_neg c10] at H
              have c10b0 : decide (a0 < 0) = false := decide_eq_false c10
              clear c10
              have H' := Aside0.mk H
              clear H
              go_wp2
              go_meet
              case rel => exact ⟨_, (false), (by first | rfl | (simp; done) | (simp [*]; done)), H', ⟨by have := HJ2.out; first | omega | exact Nat.le_refl _⟩, by repeat (first | exact Drawn0.refl _ | apply Drawn0.step)⟩
        case rest =>
          clear HC6
          try clear c1
          try clear c2
          try clear p2
          try clear c3
          try clear c4
          try clear c4b0
          try clear c4b1
          try clear c5
          try clear c7
          try clear c7b0
          try clear c8
          try clear c8b0
          try clear c9
          try clear c9b0
          try clear c10
          try clear c10b0
          try clear p2
          obtain ⟨kq, x5_5, rfl, HA, HJ5, ⟨mc5, rfl⟩⟩ := hcut
          cases kq with
          | zero => exact absurd HA.out (by simp [dynamoref1_Mul.j1])
          | succ kj5 =>
            have H := HA.out
            clear HA
            simp only [dynamoref1_Mul.j1] at H
            replace H := Option.bind_eq_some_iff.mp H
            obtain ⟨t106, A110, H⟩ := H
            replace H : ((dynamoref1_mag.f a1).bind fun t107 => (if x5_5 = true then (if t107 = 0 then (none) else (if t106 > (IntKind.u64.wrap ((9223372036854775807 : Int) / t107)) then (some 9223372036854775807) else (some (wrap64 (IntKind.u64.wrap (t106 * t107)))))) else (if t107 = 0 then (none) else (if t106 > (IntKind.u64.wrap ((9223372036854775808 : Int) / t107)) then (some (-9223372036854775808)) else (some (wrap64 (IntKind.u64.wrap (-(IntKind.u64.wrap (t106 * t107)))))))))) = some r := H
            have A11 := Aside0.mk A110
            clear A110
            replace H := Option.bind_eq_some_iff.mp H
            obtain ⟨t107, A120, H⟩ := H
            replace H : (if x5_5 = true then (if t107 = 0 then (none) else (if t106 > (IntKind.u64.wrap ((9223372036854775807 : Int) / t107)) then (some 9223372036854775807) else (some (wrap64 (IntKind.u64.wrap (t106 * t107)))))) else (if t107 = 0 then (none) else (if t106 > (IntKind.u64.wrap ((9223372036854775808 : Int) / t107)) then (some (-9223372036854775808)) else (some (wrap64 (IntKind.u64.wrap (-(IntKind.u64.wrap (t106 * t107))))))))) = some r := H
            have A12 := Aside0.mk A120
            clear A120
            by_cases c13 : x5_5 = true
            · subst c13
              have H1 : (if t107 = 0 then (none) else (if t106 > (IntKind.u64.wrap ((9223372036854775807 : Int) / t107)) then (some 9223372036854775807) else (some (wrap64 (IntKind.u64.wrap (t106 * t107)))))) = some r := by first | (rw [if_pos rfl] at H; exact H) | exact H | rfl
              clear H
              have H := H1
              clear H1
              by_cases c14 : t107 = 0
              · rw [if_pos c14] at H
                exact absurd H (by simp)
              · rw [if_neg c14] at H
                have c14b0 : (t107 == 0) = false := beq_eq_false_iff_ne.mpr c14
                have c14b1 : (t107 != 0) = true := bne_iff_ne.mpr c14
                by_cases c15 : t106 > (IntKind.u64.wrap ((9223372036854775807 : Int) / t107))
                · rw [if_pos c15] at H
                  have c15b0 : decide ((IntKind.u64.wrap ((9223372036854775807 : Int) / t107)) < t106) = true := decide_eq_true c15
                  (try (have c15t0 : decide ((IntKind.u64.wrap (Int.tdiv 9223372036854775807 t107)) < t106) = true := by rw [Int.tdiv_eq_ediv_of_nonneg (by decide)]; exact c15b0))
                  clear c15
                  obtain rfl := Option.some.inj H
                  go_wp2_with (first | ((with_reducible refine gate_callee (f := 53) rfl ?_); refine goesL_ (some 29) rfl rfl Try.func53 (by kernel_rfl) rfl #[.int .i64 a0] rfl (by (try simp only [List.map_toArray, List.map_cons, List.map_nil]); first | done | rfl | (simp only [List.length_drop, List.length_take]; rfl)) ?_; (with_reducible refine (dynamoref1_mag.calls a0 t106 _ A11.out).mono ?_); rintro e w' ⟨rfl, ⟨nd, rfl⟩⟩; refine ⟨_, rfl, ?_⟩) | ((with_reducible refine gate_callee (f := 53) rfl ?_); refine goesL_ (some 31) rfl rfl Try.func53 (by kernel_rfl) rfl #[.int .i64 a1] rfl (by (try simp only [List.map_toArray, List.map_cons, List.map_nil]); first | done | rfl | (simp only [List.length_drop, List.length_take]; rfl)) ?_; (with_reducible refine (dynamoref1_mag.calls a1 t107 _ A12.out).mono ?_); rintro e w' ⟨rfl, ⟨nd, rfl⟩⟩; refine ⟨_, rfl, ?_⟩))
                  go_ret
                  exact ⟨by first | rfl | (rw [HLAST.out]; done) | (simp [HLAST.out]; done) | (have HL_ := HLAST.out; simp_all; done) | (simp; done) | (simp [*]; done), by repeat (first | exact Drawn0.refl _ | apply Drawn0.step)⟩
                · rw [if_neg c15] at H
                  have c15b0 : decide ((IntKind.u64.wrap ((9223372036854775807 : Int) / t107)) < t106) = false := decide_eq_false c15
                  (try (have c15t0 : decide ((IntKind.u64.wrap (Int.tdiv 9223372036854775807 t107)) < t106) = false := by rw [Int.tdiv_eq_ediv_of_nonneg (by decide)]; exact c15b0))
                  clear c15
                  obtain rfl := Option.some.inj H
                  go_wp2_with (first | ((with_reducible refine gate_callee (f := 53) rfl ?_); refine goesL_ (some 29) rfl rfl Try.func53 (by kernel_rfl) rfl #[.int .i64 a0] rfl (by (try simp only [List.map_toArray, List.map_cons, List.map_nil]); first | done | rfl | (simp only [List.length_drop, List.length_take]; rfl)) ?_; (with_reducible refine (dynamoref1_mag.calls a0 t106 _ A11.out).mono ?_); rintro e w' ⟨rfl, ⟨nd, rfl⟩⟩; refine ⟨_, rfl, ?_⟩) | ((with_reducible refine gate_callee (f := 53) rfl ?_); refine goesL_ (some 31) rfl rfl Try.func53 (by kernel_rfl) rfl #[.int .i64 a1] rfl (by (try simp only [List.map_toArray, List.map_cons, List.map_nil]); first | done | rfl | (simp only [List.length_drop, List.length_take]; rfl)) ?_; (with_reducible refine (dynamoref1_mag.calls a1 t107 _ A12.out).mono ?_); rintro e w' ⟨rfl, ⟨nd, rfl⟩⟩; refine ⟨_, rfl, ?_⟩))
                  go_ret
                  exact ⟨by first | rfl | (rw [HLAST.out]; done) | (simp [HLAST.out]; done) | (have HL_ := HLAST.out; simp_all; done) | (simp; done) | (simp [*]; done), by repeat (first | exact Drawn0.refl _ | apply Drawn0.step)⟩
            · replace c13 := Bool.eq_false_iff.mpr c13
              subst c13
              have H1 : (if t107 = 0 then (none) else (if t106 > (IntKind.u64.wrap ((9223372036854775808 : Int) / t107)) then (some (-9223372036854775808)) else (some (wrap64 (IntKind.u64.wrap (-(IntKind.u64.wrap (t106 * t107)))))))) = some r := by first | (rw [if_neg (show ¬ (false = true) by decide)] at H; exact H) | exact H | rfl
              clear H
              have H := H1
              clear H1
              by_cases c16 : t107 = 0
              · rw [if_pos c16] at H
                exact absurd H (by simp)
              · rw [if_neg c16] at H
                have c16b0 : (t107 == 0) = false := beq_eq_false_iff_ne.mpr c16
                have c16b1 : (t107 != 0) = true := bne_iff_ne.mpr c16
                by_cases c17 : t106 > (IntKind.u64.wrap ((9223372036854775808 : Int) / t107))
                · rw [if_pos c17] at H
                  have c17b0 : decide ((IntKind.u64.wrap ((9223372036854775808 : Int) / t107)) < t106) = true := decide_eq_true c17
                  (try (have c17t0 : decide ((IntKind.u64.wrap (Int.tdiv 9223372036854775808 t107)) < t106) = true := by rw [Int.tdiv_eq_ediv_of_nonneg (by decide)]; exact c17b0))
                  clear c17
                  obtain rfl := Option.some.inj H
                  go_wp2_with (first | ((with_reducible refine gate_callee (f := 53) rfl ?_); refine goesL_ (some 29) rfl rfl Try.func53 (by kernel_rfl) rfl #[.int .i64 a0] rfl (by (try simp only [List.map_toArray, List.map_cons, List.map_nil]); first | done | rfl | (simp only [List.length_drop, List.length_take]; rfl)) ?_; (with_reducible refine (dynamoref1_mag.calls a0 t106 _ A11.out).mono ?_); rintro e w' ⟨rfl, ⟨nd, rfl⟩⟩; refine ⟨_, rfl, ?_⟩) | ((with_reducible refine gate_callee (f := 53) rfl ?_); refine goesL_ (some 31) rfl rfl Try.func53 (by kernel_rfl) rfl #[.int .i64 a1] rfl (by (try simp only [List.map_toArray, List.map_cons, List.map_nil]); first | done | rfl | (simp only [List.length_drop, List.length_take]; rfl)) ?_; (with_reducible refine (dynamoref1_mag.calls a1 t107 _ A12.out).mono ?_); rintro e w' ⟨rfl, ⟨nd, rfl⟩⟩; refine ⟨_, rfl, ?_⟩))
                  go_ret
                  exact ⟨by first | rfl | (rw [HLAST.out]; done) | (simp [HLAST.out]; done) | (have HL_ := HLAST.out; simp_all; done) | (simp; done) | (simp [*]; done), by repeat (first | exact Drawn0.refl _ | apply Drawn0.step)⟩
                · rw [if_neg c17] at H
                  have c17b0 : decide ((IntKind.u64.wrap ((9223372036854775808 : Int) / t107)) < t106) = false := decide_eq_false c17
                  (try (have c17t0 : decide ((IntKind.u64.wrap (Int.tdiv 9223372036854775808 t107)) < t106) = false := by rw [Int.tdiv_eq_ediv_of_nonneg (by decide)]; exact c17b0))
                  clear c17
                  obtain rfl := Option.some.inj H
                  go_wp2_with (first | ((with_reducible refine gate_callee (f := 53) rfl ?_); refine goesL_ (some 29) rfl rfl Try.func53 (by kernel_rfl) rfl #[.int .i64 a0] rfl (by (try simp only [List.map_toArray, List.map_cons, List.map_nil]); first | done | rfl | (simp only [List.length_drop, List.length_take]; rfl)) ?_; (with_reducible refine (dynamoref1_mag.calls a0 t106 _ A11.out).mono ?_); rintro e w' ⟨rfl, ⟨nd, rfl⟩⟩; refine ⟨_, rfl, ?_⟩) | ((with_reducible refine gate_callee (f := 53) rfl ?_); refine goesL_ (some 31) rfl rfl Try.func53 (by kernel_rfl) rfl #[.int .i64 a1] rfl (by (try simp only [List.map_toArray, List.map_cons, List.map_nil]); first | done | rfl | (simp only [List.length_drop, List.length_take]; rfl)) ?_; (with_reducible refine (dynamoref1_mag.calls a1 t107 _ A12.out).mono ?_); rintro e w' ⟨rfl, ⟨nd, rfl⟩⟩; refine ⟨_, rfl, ?_⟩))
                  go_ret
                  exact ⟨by first | rfl | (rw [HLAST.out]; done) | (simp [HLAST.out]; done) | (have HL_ := HLAST.out; simp_all; done) | (simp; done) | (simp [*]; done), by repeat (first | exact Drawn0.refl _ | apply Drawn0.step)⟩

/-! ### dynamoref1_Neg: function 54 -/
def dynamoref1_Neg.f (a0 : Int) : Option (Int) := if a0 = (-9223372036854775808) then (some 9223372036854775807) else (some (wrap64 (-a0)))
set_option maxHeartbeats 8000000 in
set_option maxRecDepth 100000 in
theorem dynamoref1_Neg.calls (a0 : Int) (r : Int) (w : World) (h : dynamoref1_Neg.f a0 = some r) :
    Calls Try.prog 54 #[.int .i64 a0] w fun e w' => e = .returned (.int .i64 r) ∧ Drawn0 w w' := by
  have H : (if a0 = (-9223372036854775808) then (some 9223372036854775807) else (some (wrap64 (-a0)))) = some r := h
  clear h
  by_cases c2 : a0 = (-9223372036854775808)
  · rw [if_pos c2] at H
    have c2b0 : (a0 == (-9223372036854775808)) = true := beq_iff_eq.mpr c2
    have c2b1 : (a0 != (-9223372036854775808)) = false := bne_eq_false_iff_eq.mpr c2
    clear c2
    obtain rfl := Option.some.inj H
    go_enter Try.func54, Try.ntmps54
    go_wp2
    go_ret
    exact ⟨by first | rfl | (rw [HLAST.out]; done) | (simp [HLAST.out]; done) | (have HL_ := HLAST.out; simp_all; done) | (simp; done) | (simp [*]; done), by repeat (first | exact Drawn0.refl _ | apply Drawn0.step)⟩
  · rw [if_neg c2] at H
    have c2b0 : (a0 == (-9223372036854775808)) = false := beq_eq_false_iff_ne.mpr c2
    have c2b1 : (a0 != (-9223372036854775808)) = true := bne_iff_ne.mpr c2
    obtain rfl := Option.some.inj H
    go_enter Try.func54, Try.ntmps54
    go_wp2
    go_ret
    exact ⟨by first | rfl | (rw [HLAST.out]; done) | (simp [HLAST.out]; done) | (have HL_ := HLAST.out; simp_all; done) | (simp; done) | (simp [*]; done), by repeat (first | exact Drawn0.refl _ | apply Drawn0.step)⟩

/-! ### dynamoref1_Abs: function 32 -/
def dynamoref1_Abs.f (a0 : Int) : Option (Int) := if a0 < 0 then ((dynamoref1_Neg.f a0).bind fun t108 => (some t108)) else (some a0)
set_option maxHeartbeats 8000000 in
set_option maxRecDepth 100000 in
theorem dynamoref1_Abs.calls (a0 : Int) (r : Int) (w : World) (h : dynamoref1_Abs.f a0 = some r) :
    Calls Try.prog 32 #[.int .i64 a0] w fun e w' => e = .returned (.int .i64 r) ∧ Drawn0 w w' := by
  have H : (if a0 < 0 then ((dynamoref1_Neg.f a0).bind fun t108 => (some t108)) else (some a0)) = some r := h
  clear h
  by_cases c2 : a0 < 0
  · rw [if_pos c2] at H
    have c2b0 : decide (a0 < 0) = true := decide_eq_true c2
    clear c2
    replace H := Option.bind_eq_some_iff.mp H
    obtain ⟨t108, A30, H⟩ := H
    replace H : (some t108) = some r := H
    have A3 := Aside0.mk A30
    clear A30
    obtain rfl := Option.some.inj H
    go_enter Try.func32, Try.ntmps32
    go_wp2_with (first | ((with_reducible refine gate_callee (f := 54) rfl ?_); refine goesL_ (some 6) rfl rfl Try.func54 (by kernel_rfl) rfl #[.int .i64 a0] rfl (by (try simp only [List.map_toArray, List.map_cons, List.map_nil]); first | done | rfl | (simp only [List.length_drop, List.length_take]; rfl)) ?_; (with_reducible refine (dynamoref1_Neg.calls a0 t108 _ A3.out).mono ?_); rintro e w' ⟨rfl, ⟨nd, rfl⟩⟩; refine ⟨_, rfl, ?_⟩))
    go_ret
    exact ⟨by first | rfl | (rw [HLAST.out]; done) | (simp [HLAST.out]; done) | (have HL_ := HLAST.out; simp_all; done) | (simp; done) | (simp [*]; done), by repeat (first | exact Drawn0.refl _ | apply Drawn0.step)⟩
  · rw [if_neg c2] at H
    have c2b0 : decide (a0 < 0) = false := decide_eq_false c2
    clear c2
    obtain rfl := Option.some.inj H
    go_enter Try.func32, Try.ntmps32
    go_wp2
    go_ret
    exact ⟨by first | rfl | (rw [HLAST.out]; done) | (simp [HLAST.out]; done) | (have HL_ := HLAST.out; simp_all; done) | (simp; done) | (simp [*]; done), by repeat (first | exact Drawn0.refl _ | apply Drawn0.step)⟩

/-! ### dynamoref1_Down: function 33 -/
def dynamoref1_Down.f (a0 : Int) (a1 : Int) : Option (Int) := if a1 < 1 then (some 0) else (if a1 = 0 then (none) else (if (Int.tmod a0 a1) < 0 then (some (wrap64 ((wrap64 (Int.tdiv a0 a1)) - 1))) else (some (wrap64 (Int.tdiv a0 a1)))))
set_option maxHeartbeats 8000000 in
set_option maxRecDepth 100000 in
theorem dynamoref1_Down.calls (a0 : Int) (a1 : Int) (r : Int) (w : World) (h : dynamoref1_Down.f a0 a1 = some r) :
    Calls Try.prog 33 #[.int .i64 a0, .int .i64 a1] w fun e w' => e = .returned (.int .i64 r) ∧ Drawn0 w w' := by
  have H : (if a1 < 1 then (some 0) else (if a1 = 0 then (none) else (if (Int.tmod a0 a1) < 0 then (some (wrap64 ((wrap64 (Int.tdiv a0 a1)) - 1))) else (some (wrap64 (Int.tdiv a0 a1)))))) = some r := h
  clear h
  by_cases c3 : a1 < 1
  · rw [if_pos c3] at H
    have c3b0 : decide (a1 < 1) = true := decide_eq_true c3
    clear c3
    obtain rfl := Option.some.inj H
    go_enter Try.func33, Try.ntmps33
    go_wp2
    go_ret
    exact ⟨by first | rfl | (rw [HLAST.out]; done) | (simp [HLAST.out]; done) | (have HL_ := HLAST.out; simp_all; done) | (simp; done) | (simp [*]; done), by repeat (first | exact Drawn0.refl _ | apply Drawn0.step)⟩
  · rw [if_neg c3] at H
    have c3b0 : decide (a1 < 1) = false := decide_eq_false c3
    clear c3
    by_cases c4 : a1 = 0
    · rw [if_pos c4] at H
      exact absurd H (by simp)
    · rw [if_neg c4] at H
      have c4b0 : (a1 == 0) = false := beq_eq_false_iff_ne.mpr c4
      have c4b1 : (a1 != 0) = true := bne_iff_ne.mpr c4
      by_cases c5 : (Int.tmod a0 a1) < 0
      · rw [if_pos c5] at H
        have c5b0 : decide ((Int.tmod a0 a1) < 0) = true := decide_eq_true c5
        clear c5
        obtain rfl := Option.some.inj H
        go_enter Try.func33, Try.ntmps33
        go_wp2
        go_ret
        exact ⟨by first | rfl | (rw [HLAST.out]; done) | (simp [HLAST.out]; done) | (have HL_ := HLAST.out; simp_all; done) | (simp; done) | (simp [*]; done), by repeat (first | exact Drawn0.refl _ | apply Drawn0.step)⟩
      · rw [if_neg c5] at H
        have c5b0 : decide ((Int.tmod a0 a1) < 0) = false := decide_eq_false c5
        clear c5
        obtain rfl := Option.some.inj H
        go_enter Try.func33, Try.ntmps33
        go_wp2
        go_ret
        exact ⟨by first | rfl | (rw [HLAST.out]; done) | (simp [HLAST.out]; done) | (have HL_ := HLAST.out; simp_all; done) | (simp; done) | (simp [*]; done), by repeat (first | exact Drawn0.refl _ | apply Drawn0.step)⟩

/-! ### dynamoref1_Up: function 34 -/
def dynamoref1_Up.f (a0 : Int) (a1 : Int) : Option (Int) := if a1 < 1 then (some 0) else (if a1 = 0 then (none) else (if (Int.tmod a0 a1) > 0 then (some (wrap64 ((wrap64 (Int.tdiv a0 a1)) + 1))) else (some (wrap64 (Int.tdiv a0 a1)))))
set_option maxHeartbeats 8000000 in
set_option maxRecDepth 100000 in
theorem dynamoref1_Up.calls (a0 : Int) (a1 : Int) (r : Int) (w : World) (h : dynamoref1_Up.f a0 a1 = some r) :
    Calls Try.prog 34 #[.int .i64 a0, .int .i64 a1] w fun e w' => e = .returned (.int .i64 r) ∧ Drawn0 w w' := by
  have H : (if a1 < 1 then (some 0) else (if a1 = 0 then (none) else (if (Int.tmod a0 a1) > 0 then (some (wrap64 ((wrap64 (Int.tdiv a0 a1)) + 1))) else (some (wrap64 (Int.tdiv a0 a1)))))) = some r := h
  clear h
  by_cases c3 : a1 < 1
  · rw [if_pos c3] at H
    have c3b0 : decide (a1 < 1) = true := decide_eq_true c3
    clear c3
    obtain rfl := Option.some.inj H
    go_enter Try.func34, Try.ntmps34
    go_wp2
    go_ret
    exact ⟨by first | rfl | (rw [HLAST.out]; done) | (simp [HLAST.out]; done) | (have HL_ := HLAST.out; simp_all; done) | (simp; done) | (simp [*]; done), by repeat (first | exact Drawn0.refl _ | apply Drawn0.step)⟩
  · rw [if_neg c3] at H
    have c3b0 : decide (a1 < 1) = false := decide_eq_false c3
    clear c3
    by_cases c4 : a1 = 0
    · rw [if_pos c4] at H
      exact absurd H (by simp)
    · rw [if_neg c4] at H
      have c4b0 : (a1 == 0) = false := beq_eq_false_iff_ne.mpr c4
      have c4b1 : (a1 != 0) = true := bne_iff_ne.mpr c4
      by_cases c5 : (Int.tmod a0 a1) > 0
      · rw [if_pos c5] at H
        have c5b0 : decide (0 < (Int.tmod a0 a1)) = true := decide_eq_true c5
        clear c5
        obtain rfl := Option.some.inj H
        go_enter Try.func34, Try.ntmps34
        go_wp2
        go_ret
        exact ⟨by first | rfl | (rw [HLAST.out]; done) | (simp [HLAST.out]; done) | (have HL_ := HLAST.out; simp_all; done) | (simp; done) | (simp [*]; done), by repeat (first | exact Drawn0.refl _ | apply Drawn0.step)⟩
      · rw [if_neg c5] at H
        have c5b0 : decide (0 < (Int.tmod a0 a1)) = false := decide_eq_false c5
        clear c5
        obtain rfl := Option.some.inj H
        go_enter Try.func34, Try.ntmps34
        go_wp2
        go_ret
        exact ⟨by first | rfl | (rw [HLAST.out]; done) | (simp [HLAST.out]; done) | (have HL_ := HLAST.out; simp_all; done) | (simp; done) | (simp [*]; done), by repeat (first | exact Drawn0.refl _ | apply Drawn0.step)⟩

/-! ### dynamoref1_Clamp: function 35 -/
def dynamoref1_Clamp.f (a0 : Int) (a1 : Int) (a2 : Int) : Option (Int) := if a0 > a2 then (if a2 < a1 then (some a1) else (some a2)) else (if a0 < a1 then (some a1) else (some a0))
set_option maxHeartbeats 8000000 in
set_option maxRecDepth 100000 in
theorem dynamoref1_Clamp.calls (a0 : Int) (a1 : Int) (a2 : Int) (r : Int) (w : World) (h : dynamoref1_Clamp.f a0 a1 a2 = some r) :
    Calls Try.prog 35 #[.int .i64 a0, .int .i64 a1, .int .i64 a2] w fun e w' => e = .returned (.int .i64 r) ∧ Drawn0 w w' := by
  have H : (if a0 > a2 then (if a2 < a1 then (some a1) else (some a2)) else (if a0 < a1 then (some a1) else (some a0))) = some r := h
  clear h
  by_cases c4 : a0 > a2
  · rw [if_pos c4] at H
    have c4b0 : decide (a2 < a0) = true := decide_eq_true c4
    clear c4
    by_cases c5 : a2 < a1
    · rw [if_pos c5] at H
      have c5b0 : decide (a2 < a1) = true := decide_eq_true c5
      clear c5
      obtain rfl := Option.some.inj H
      go_enter Try.func35, Try.ntmps35
      go_wp2
      go_ret
      exact ⟨by first | rfl | (rw [HLAST.out]; done) | (simp [HLAST.out]; done) | (have HL_ := HLAST.out; simp_all; done) | (simp; done) | (simp [*]; done), by repeat (first | exact Drawn0.refl _ | apply Drawn0.step)⟩
    · rw [if_neg c5] at H
      have c5b0 : decide (a2 < a1) = false := decide_eq_false c5
      clear c5
      obtain rfl := Option.some.inj H
      go_enter Try.func35, Try.ntmps35
      go_wp2
      go_ret
      exact ⟨by first | rfl | (rw [HLAST.out]; done) | (simp [HLAST.out]; done) | (have HL_ := HLAST.out; simp_all; done) | (simp; done) | (simp [*]; done), by repeat (first | exact Drawn0.refl _ | apply Drawn0.step)⟩
  · rw [if_neg c4] at H
    have c4b0 : decide (a2 < a0) = false := decide_eq_false c4
    clear c4
    by_cases c6 : a0 < a1
    · rw [if_pos c6] at H
      have c6b0 : decide (a0 < a1) = true := decide_eq_true c6
      clear c6
      obtain rfl := Option.some.inj H
      go_enter Try.func35, Try.ntmps35
      go_wp2
      go_ret
      exact ⟨by first | rfl | (rw [HLAST.out]; done) | (simp [HLAST.out]; done) | (have HL_ := HLAST.out; simp_all; done) | (simp; done) | (simp [*]; done), by repeat (first | exact Drawn0.refl _ | apply Drawn0.step)⟩
    · rw [if_neg c6] at H
      have c6b0 : decide (a0 < a1) = false := decide_eq_false c6
      clear c6
      obtain rfl := Option.some.inj H
      go_enter Try.func35, Try.ntmps35
      go_wp2
      go_ret
      exact ⟨by first | rfl | (rw [HLAST.out]; done) | (simp [HLAST.out]; done) | (have HL_ := HLAST.out; simp_all; done) | (simp; done) | (simp [*]; done), by repeat (first | exact Drawn0.refl _ | apply Drawn0.step)⟩

/-! ### dynamolaw1_FixedSays: function 9 -/
def dynamolaw1_FixedSays.f (k : Nat) (a0 : Int) (a1 : Int) (a2 : Int) (a3 : Int) : Option (Bool) := (dynamolaw1_first.f k).bind fun t109 => (if t109 = true then ((fixed_Add.f k a0 a1).bind fun t110 => ((dynamoref1_Add.f k a0 a1).bind fun t111 => (if t110 = t111 then ((fixed_Sub.f k a0 a1).bind fun t112 => ((dynamoref1_Sub.f k a0 a1).bind fun t113 => (if t112 = t113 then ((fixed_Mul.f k a0 a1).bind fun t114 => ((dynamoref1_Mul.f k a0 a1).bind fun t115 => (if t114 = t115 then ((fixed_Abs.f k a0).bind fun t116 => ((dynamoref1_Abs.f a0).bind fun t117 => (if t116 = t117 then ((fixed_Down.f a0 a1).bind fun t118 => ((dynamoref1_Down.f a0 a1).bind fun t119 => (if t118 = t119 then ((fixed_Up.f a0 a1).bind fun t120 => ((dynamoref1_Up.f a0 a1).bind fun t121 => (if t120 = t121 then ((fixed_Clamp.f a0 a2 a3).bind fun t122 => ((dynamoref1_Clamp.f a0 a2 a3).bind fun t123 => (some (t122 == t123)))) else (some false)))) else (some false)))) else (some false)))) else (some false)))) else (some false)))) else (some false)))) else (some false))
theorem dynamolaw1_FixedSays.mono : ∀ a0 a1 a2 a3 k, LeO (dynamolaw1_FixedSays.f k a0 a1 a2 a3) (dynamolaw1_FixedSays.f (k + 1) a0 a1 a2 a3) := by
  intro a0 a1 a2 a3 k
  unfold dynamolaw1_FixedSays.f
  repeat' first
      | (with_reducible exact dynamolaw1_first.mono _)
      | (with_reducible exact dynamoref1_Add.mono _ _ _)
      | (with_reducible exact dynamoref1_Mul.mono _ _ _)
      | (with_reducible exact dynamoref1_Sub.mono _ _ _)
      | (with_reducible exact fixed_Abs.mono _ _)
      | (with_reducible exact fixed_Add.mono _ _ _)
      | (with_reducible exact fixed_Mul.mono _ _ _)
      | (with_reducible exact fixed_Sub.mono _ _ _)
      | (with_reducible exact LeO.refl _)
      | (with_reducible exact LeO.none _)
      | (with_reducible refine LeO.ite ?_ ?_)
      | (with_reducible refine LeO.bind ?_ (fun _ => ?_))
      | exact dynamolaw1_first.mono _
      | exact dynamoref1_Add.mono _ _ _
      | exact dynamoref1_Mul.mono _ _ _
      | exact dynamoref1_Sub.mono _ _ _
      | exact fixed_Abs.mono _ _
      | exact fixed_Add.mono _ _ _
      | exact fixed_Mul.mono _ _ _
      | exact fixed_Sub.mono _ _ _
      | exact LeO.none _
      | refine LeO.ite ?_ ?_
      | refine LeO.bind ?_ (fun _ => ?_)
set_option maxHeartbeats 8000000 in
set_option maxRecDepth 100000 in
theorem dynamolaw1_FixedSays.calls (k : Nat) (a0 : Int) (a1 : Int) (a2 : Int) (a3 : Int) (w : World) (h : dynamolaw1_FixedSays.f k a0 a1 a2 a3 = some true) :
    Calls Try.prog 9 #[.int .i64 a0, .int .i64 a1, .int .i64 a2, .int .i64 a3] w fun e w' => e = .returned (.bool true) ∧ Below w.heap.size w w' := by
  have HB := Aside0.mk (Below.refl w.heap.size w)
  have H : ((dynamolaw1_first.f k).bind fun t109 => (if t109 = true then ((fixed_Add.f k a0 a1).bind fun t110 => ((dynamoref1_Add.f k a0 a1).bind fun t111 => (if t110 = t111 then ((fixed_Sub.f k a0 a1).bind fun t112 => ((dynamoref1_Sub.f k a0 a1).bind fun t113 => (if t112 = t113 then ((fixed_Mul.f k a0 a1).bind fun t114 => ((dynamoref1_Mul.f k a0 a1).bind fun t115 => (if t114 = t115 then ((fixed_Abs.f k a0).bind fun t116 => ((dynamoref1_Abs.f a0).bind fun t117 => (if t116 = t117 then ((fixed_Down.f a0 a1).bind fun t118 => ((dynamoref1_Down.f a0 a1).bind fun t119 => (if t118 = t119 then ((fixed_Up.f a0 a1).bind fun t120 => ((dynamoref1_Up.f a0 a1).bind fun t121 => (if t120 = t121 then ((fixed_Clamp.f a0 a2 a3).bind fun t122 => ((dynamoref1_Clamp.f a0 a2 a3).bind fun t123 => (some (t122 == t123)))) else (some false)))) else (some false)))) else (some false)))) else (some false)))) else (some false)))) else (some false)))) else (some false))) = some true := h
  clear h
  replace H := Option.bind_eq_some_iff.mp H
  obtain ⟨t109, A50, H⟩ := H
  replace H : (if t109 = true then ((fixed_Add.f k a0 a1).bind fun t110 => ((dynamoref1_Add.f k a0 a1).bind fun t111 => (if t110 = t111 then ((fixed_Sub.f k a0 a1).bind fun t112 => ((dynamoref1_Sub.f k a0 a1).bind fun t113 => (if t112 = t113 then ((fixed_Mul.f k a0 a1).bind fun t114 => ((dynamoref1_Mul.f k a0 a1).bind fun t115 => (if t114 = t115 then ((fixed_Abs.f k a0).bind fun t116 => ((dynamoref1_Abs.f a0).bind fun t117 => (if t116 = t117 then ((fixed_Down.f a0 a1).bind fun t118 => ((dynamoref1_Down.f a0 a1).bind fun t119 => (if t118 = t119 then ((fixed_Up.f a0 a1).bind fun t120 => ((dynamoref1_Up.f a0 a1).bind fun t121 => (if t120 = t121 then ((fixed_Clamp.f a0 a2 a3).bind fun t122 => ((dynamoref1_Clamp.f a0 a2 a3).bind fun t123 => (some (t122 == t123)))) else (some false)))) else (some false)))) else (some false)))) else (some false)))) else (some false)))) else (some false)))) else (some false)) = some true := H
  have A5 := Aside0.mk A50
  clear A50
  by_cases c6 : t109 = true
  · subst c6
    have H1 : ((fixed_Add.f k a0 a1).bind fun t110 => ((dynamoref1_Add.f k a0 a1).bind fun t111 => (if t110 = t111 then ((fixed_Sub.f k a0 a1).bind fun t112 => ((dynamoref1_Sub.f k a0 a1).bind fun t113 => (if t112 = t113 then ((fixed_Mul.f k a0 a1).bind fun t114 => ((dynamoref1_Mul.f k a0 a1).bind fun t115 => (if t114 = t115 then ((fixed_Abs.f k a0).bind fun t116 => ((dynamoref1_Abs.f a0).bind fun t117 => (if t116 = t117 then ((fixed_Down.f a0 a1).bind fun t118 => ((dynamoref1_Down.f a0 a1).bind fun t119 => (if t118 = t119 then ((fixed_Up.f a0 a1).bind fun t120 => ((dynamoref1_Up.f a0 a1).bind fun t121 => (if t120 = t121 then ((fixed_Clamp.f a0 a2 a3).bind fun t122 => ((dynamoref1_Clamp.f a0 a2 a3).bind fun t123 => (some (t122 == t123)))) else (some false)))) else (some false)))) else (some false)))) else (some false)))) else (some false)))) else (some false)))) = some true := by first | (rw [if_pos rfl] at H; exact H) | exact H | rfl
    clear H
    have H := H1
    clear H1
    replace H := Option.bind_eq_some_iff.mp H
    obtain ⟨t110, A70, H⟩ := H
    replace H : ((dynamoref1_Add.f k a0 a1).bind fun t111 => (if t110 = t111 then ((fixed_Sub.f k a0 a1).bind fun t112 => ((dynamoref1_Sub.f k a0 a1).bind fun t113 => (if t112 = t113 then ((fixed_Mul.f k a0 a1).bind fun t114 => ((dynamoref1_Mul.f k a0 a1).bind fun t115 => (if t114 = t115 then ((fixed_Abs.f k a0).bind fun t116 => ((dynamoref1_Abs.f a0).bind fun t117 => (if t116 = t117 then ((fixed_Down.f a0 a1).bind fun t118 => ((dynamoref1_Down.f a0 a1).bind fun t119 => (if t118 = t119 then ((fixed_Up.f a0 a1).bind fun t120 => ((dynamoref1_Up.f a0 a1).bind fun t121 => (if t120 = t121 then ((fixed_Clamp.f a0 a2 a3).bind fun t122 => ((dynamoref1_Clamp.f a0 a2 a3).bind fun t123 => (some (t122 == t123)))) else (some false)))) else (some false)))) else (some false)))) else (some false)))) else (some false)))) else (some false))) = some true := H
    have A7 := Aside0.mk A70
    clear A70
    replace H := Option.bind_eq_some_iff.mp H
    obtain ⟨t111, A80, H⟩ := H
    replace H : (if t110 = t111 then ((fixed_Sub.f k a0 a1).bind fun t112 => ((dynamoref1_Sub.f k a0 a1).bind fun t113 => (if t112 = t113 then ((fixed_Mul.f k a0 a1).bind fun t114 => ((dynamoref1_Mul.f k a0 a1).bind fun t115 => (if t114 = t115 then ((fixed_Abs.f k a0).bind fun t116 => ((dynamoref1_Abs.f a0).bind fun t117 => (if t116 = t117 then ((fixed_Down.f a0 a1).bind fun t118 => ((dynamoref1_Down.f a0 a1).bind fun t119 => (if t118 = t119 then ((fixed_Up.f a0 a1).bind fun t120 => ((dynamoref1_Up.f a0 a1).bind fun t121 => (if t120 = t121 then ((fixed_Clamp.f a0 a2 a3).bind fun t122 => ((dynamoref1_Clamp.f a0 a2 a3).bind fun t123 => (some (t122 == t123)))) else (some false)))) else (some false)))) else (some false)))) else (some false)))) else (some false)))) else (some false)) = some true := H
    have A8 := Aside0.mk A80
    clear A80
    by_cases c9 : t110 = t111
    · rw [if_pos c9] at H
      have c9b0 : (t110 == t111) = true := beq_iff_eq.mpr c9
      have c9b1 : (t110 != t111) = false := bne_eq_false_iff_eq.mpr c9
      clear c9
      replace H := Option.bind_eq_some_iff.mp H
      obtain ⟨t112, A100, H⟩ := H
      replace H : ((dynamoref1_Sub.f k a0 a1).bind fun t113 => (if t112 = t113 then ((fixed_Mul.f k a0 a1).bind fun t114 => ((dynamoref1_Mul.f k a0 a1).bind fun t115 => (if t114 = t115 then ((fixed_Abs.f k a0).bind fun t116 => ((dynamoref1_Abs.f a0).bind fun t117 => (if t116 = t117 then ((fixed_Down.f a0 a1).bind fun t118 => ((dynamoref1_Down.f a0 a1).bind fun t119 => (if t118 = t119 then ((fixed_Up.f a0 a1).bind fun t120 => ((dynamoref1_Up.f a0 a1).bind fun t121 => (if t120 = t121 then ((fixed_Clamp.f a0 a2 a3).bind fun t122 => ((dynamoref1_Clamp.f a0 a2 a3).bind fun t123 => (some (t122 == t123)))) else (some false)))) else (some false)))) else (some false)))) else (some false)))) else (some false))) = some true := H
      have A10 := Aside0.mk A100
      clear A100
      replace H := Option.bind_eq_some_iff.mp H
      obtain ⟨t113, A110, H⟩ := H
      replace H : (if t112 = t113 then ((fixed_Mul.f k a0 a1).bind fun t114 => ((dynamoref1_Mul.f k a0 a1).bind fun t115 => (if t114 = t115 then ((fixed_Abs.f k a0).bind fun t116 => ((dynamoref1_Abs.f a0).bind fun t117 => (if t116 = t117 then ((fixed_Down.f a0 a1).bind fun t118 => ((dynamoref1_Down.f a0 a1).bind fun t119 => (if t118 = t119 then ((fixed_Up.f a0 a1).bind fun t120 => ((dynamoref1_Up.f a0 a1).bind fun t121 => (if t120 = t121 then ((fixed_Clamp.f a0 a2 a3).bind fun t122 => ((dynamoref1_Clamp.f a0 a2 a3).bind fun t123 => (some (t122 == t123)))) else (some false)))) else (some false)))) else (some false)))) else (some false)))) else (some false)) = some true := H
      have A11 := Aside0.mk A110
      clear A110
      by_cases c12 : t112 = t113
      · rw [if_pos c12] at H
        have c12b0 : (t112 == t113) = true := beq_iff_eq.mpr c12
        have c12b1 : (t112 != t113) = false := bne_eq_false_iff_eq.mpr c12
        clear c12
        replace H := Option.bind_eq_some_iff.mp H
        obtain ⟨t114, A130, H⟩ := H
        replace H : ((dynamoref1_Mul.f k a0 a1).bind fun t115 => (if t114 = t115 then ((fixed_Abs.f k a0).bind fun t116 => ((dynamoref1_Abs.f a0).bind fun t117 => (if t116 = t117 then ((fixed_Down.f a0 a1).bind fun t118 => ((dynamoref1_Down.f a0 a1).bind fun t119 => (if t118 = t119 then ((fixed_Up.f a0 a1).bind fun t120 => ((dynamoref1_Up.f a0 a1).bind fun t121 => (if t120 = t121 then ((fixed_Clamp.f a0 a2 a3).bind fun t122 => ((dynamoref1_Clamp.f a0 a2 a3).bind fun t123 => (some (t122 == t123)))) else (some false)))) else (some false)))) else (some false)))) else (some false))) = some true := H
        have A13 := Aside0.mk A130
        clear A130
        replace H := Option.bind_eq_some_iff.mp H
        obtain ⟨t115, A140, H⟩ := H
        replace H : (if t114 = t115 then ((fixed_Abs.f k a0).bind fun t116 => ((dynamoref1_Abs.f a0).bind fun t117 => (if t116 = t117 then ((fixed_Down.f a0 a1).bind fun t118 => ((dynamoref1_Down.f a0 a1).bind fun t119 => (if t118 = t119 then ((fixed_Up.f a0 a1).bind fun t120 => ((dynamoref1_Up.f a0 a1).bind fun t121 => (if t120 = t121 then ((fixed_Clamp.f a0 a2 a3).bind fun t122 => ((dynamoref1_Clamp.f a0 a2 a3).bind fun t123 => (some (t122 == t123)))) else (some false)))) else (some false)))) else (some false)))) else (some false)) = some true := H
        have A14 := Aside0.mk A140
        clear A140
        by_cases c15 : t114 = t115
        · rw [if_pos c15] at H
          have c15b0 : (t114 == t115) = true := beq_iff_eq.mpr c15
          have c15b1 : (t114 != t115) = false := bne_eq_false_iff_eq.mpr c15
          clear c15
          replace H := Option.bind_eq_some_iff.mp H
          obtain ⟨t116, A160, H⟩ := H
          replace H : ((dynamoref1_Abs.f a0).bind fun t117 => (if t116 = t117 then ((fixed_Down.f a0 a1).bind fun t118 => ((dynamoref1_Down.f a0 a1).bind fun t119 => (if t118 = t119 then ((fixed_Up.f a0 a1).bind fun t120 => ((dynamoref1_Up.f a0 a1).bind fun t121 => (if t120 = t121 then ((fixed_Clamp.f a0 a2 a3).bind fun t122 => ((dynamoref1_Clamp.f a0 a2 a3).bind fun t123 => (some (t122 == t123)))) else (some false)))) else (some false)))) else (some false))) = some true := H
          have A16 := Aside0.mk A160
          clear A160
          replace H := Option.bind_eq_some_iff.mp H
          obtain ⟨t117, A170, H⟩ := H
          replace H : (if t116 = t117 then ((fixed_Down.f a0 a1).bind fun t118 => ((dynamoref1_Down.f a0 a1).bind fun t119 => (if t118 = t119 then ((fixed_Up.f a0 a1).bind fun t120 => ((dynamoref1_Up.f a0 a1).bind fun t121 => (if t120 = t121 then ((fixed_Clamp.f a0 a2 a3).bind fun t122 => ((dynamoref1_Clamp.f a0 a2 a3).bind fun t123 => (some (t122 == t123)))) else (some false)))) else (some false)))) else (some false)) = some true := H
          have A17 := Aside0.mk A170
          clear A170
          by_cases c18 : t116 = t117
          · rw [if_pos c18] at H
            have c18b0 : (t116 == t117) = true := beq_iff_eq.mpr c18
            have c18b1 : (t116 != t117) = false := bne_eq_false_iff_eq.mpr c18
            clear c18
            replace H := Option.bind_eq_some_iff.mp H
            obtain ⟨t118, A190, H⟩ := H
            replace H : ((dynamoref1_Down.f a0 a1).bind fun t119 => (if t118 = t119 then ((fixed_Up.f a0 a1).bind fun t120 => ((dynamoref1_Up.f a0 a1).bind fun t121 => (if t120 = t121 then ((fixed_Clamp.f a0 a2 a3).bind fun t122 => ((dynamoref1_Clamp.f a0 a2 a3).bind fun t123 => (some (t122 == t123)))) else (some false)))) else (some false))) = some true := H
            have A19 := Aside0.mk A190
            clear A190
            replace H := Option.bind_eq_some_iff.mp H
            obtain ⟨t119, A200, H⟩ := H
            replace H : (if t118 = t119 then ((fixed_Up.f a0 a1).bind fun t120 => ((dynamoref1_Up.f a0 a1).bind fun t121 => (if t120 = t121 then ((fixed_Clamp.f a0 a2 a3).bind fun t122 => ((dynamoref1_Clamp.f a0 a2 a3).bind fun t123 => (some (t122 == t123)))) else (some false)))) else (some false)) = some true := H
            have A20 := Aside0.mk A200
            clear A200
            by_cases c21 : t118 = t119
            · rw [if_pos c21] at H
              have c21b0 : (t118 == t119) = true := beq_iff_eq.mpr c21
              have c21b1 : (t118 != t119) = false := bne_eq_false_iff_eq.mpr c21
              clear c21
              replace H := Option.bind_eq_some_iff.mp H
              obtain ⟨t120, A220, H⟩ := H
              replace H : ((dynamoref1_Up.f a0 a1).bind fun t121 => (if t120 = t121 then ((fixed_Clamp.f a0 a2 a3).bind fun t122 => ((dynamoref1_Clamp.f a0 a2 a3).bind fun t123 => (some (t122 == t123)))) else (some false))) = some true := H
              have A22 := Aside0.mk A220
              clear A220
              replace H := Option.bind_eq_some_iff.mp H
              obtain ⟨t121, A230, H⟩ := H
              replace H : (if t120 = t121 then ((fixed_Clamp.f a0 a2 a3).bind fun t122 => ((dynamoref1_Clamp.f a0 a2 a3).bind fun t123 => (some (t122 == t123)))) else (some false)) = some true := H
              have A23 := Aside0.mk A230
              clear A230
              by_cases c24 : t120 = t121
              · rw [if_pos c24] at H
                have c24b0 : (t120 == t121) = true := beq_iff_eq.mpr c24
                have c24b1 : (t120 != t121) = false := bne_eq_false_iff_eq.mpr c24
                clear c24
                replace H := Option.bind_eq_some_iff.mp H
                obtain ⟨t122, A250, H⟩ := H
                replace H : ((dynamoref1_Clamp.f a0 a2 a3).bind fun t123 => (some (t122 == t123))) = some true := H
                have A25 := Aside0.mk A250
                clear A250
                replace H := Option.bind_eq_some_iff.mp H
                obtain ⟨t123, A260, H⟩ := H
                replace H : (some (t122 == t123)) = some true := H
                have A26 := Aside0.mk A260
                clear A260
                have HLAST := Aside0.mk (Option.some.inj H)
                clear H
                go_enter Try.func9, Try.ntmps9
                go_wp2_with (first | ((with_reducible refine gate_callee (f := 19) rfl ?_); refine goesL_ (some 10) rfl rfl Try.func19 (by kernel_rfl) rfl #[] rfl (by (try simp only [List.map_toArray, List.map_cons, List.map_nil]); first | done | rfl | (simp only [List.length_drop, List.length_take]; rfl)) ?_; (with_reducible refine (dynamolaw1_first.calls k  true _ A5.out).mono ?_); rintro e w' ⟨rfl, ⟨nd, rfl⟩⟩; refine ⟨_, rfl, ?_⟩) | (go_at_call 25; (with_reducible refine (fixed_Add.calls k a0 a1 t110 _ A7.out).mono ?_); rintro e w' ⟨rfl, ⟨nd, rfl⟩⟩) | (go_at_call 29; (with_reducible refine (dynamoref1_Add.calls k a0 a1 t111 _ A8.out).mono ?_); rintro e w' ⟨rfl, ⟨nd, rfl⟩⟩) | (go_at_call 26; (with_reducible refine (fixed_Sub.calls k a0 a1 t112 _ A10.out).mono ?_); rintro e w' ⟨rfl, ⟨nd, rfl⟩⟩) | (go_at_call 30; (with_reducible refine (dynamoref1_Sub.calls k a0 a1 t113 _ A11.out).mono ?_); rintro e w' ⟨rfl, ⟨nd, rfl⟩⟩) | (go_at_call 27; (with_reducible refine (fixed_Mul.calls k a0 a1 t114 _ A13.out).mono ?_); rintro e w' ⟨rfl, ⟨nd, rfl⟩⟩) | (go_at_call 31; (with_reducible refine (dynamoref1_Mul.calls k a0 a1 t115 _ A14.out).mono ?_); rintro e w' ⟨rfl, ⟨nd, rfl⟩⟩) | (go_at_call 28; (with_reducible refine (fixed_Abs.calls k a0 t116 _ A16.out).mono ?_); rintro e w' ⟨rfl, ⟨nd, rfl⟩⟩) | (go_at_call 32; (with_reducible refine (dynamoref1_Abs.calls a0 t117 _ A17.out).mono ?_); rintro e w' ⟨rfl, ⟨nd, rfl⟩⟩) | (go_at_call 20; (with_reducible refine (fixed_Down.calls a0 a1 t118 _ A19.out).mono ?_); rintro e w' ⟨rfl, ⟨nd, rfl⟩⟩) | (go_at_call 33; (with_reducible refine (dynamoref1_Down.calls a0 a1 t119 _ A20.out).mono ?_); rintro e w' ⟨rfl, ⟨nd, rfl⟩⟩) | (go_at_call 21; (with_reducible refine (fixed_Up.calls a0 a1 t120 _ A22.out).mono ?_); rintro e w' ⟨rfl, ⟨nd, rfl⟩⟩) | (go_at_call 34; (with_reducible refine (dynamoref1_Up.calls a0 a1 t121 _ A23.out).mono ?_); rintro e w' ⟨rfl, ⟨nd, rfl⟩⟩) | (go_at_call 22; (with_reducible refine (fixed_Clamp.calls a0 a2 a3 t122 _ A25.out).mono ?_); rintro e w27 ⟨rfl, hb⟩; have n0_ := Aside0.mk (below_step (by repeat (first | (with_reducible first | exact HB.out | apply below_alloc | apply pw_below_drewN | apply below_drew1) | exact HB.out)) hb); clear HB; have HB := n0_; clear n0_; (try clear hb); (try clear hb2); (try clear hk); (try clear hi)) | (go_at_call 35; (with_reducible refine (dynamoref1_Clamp.calls a0 a2 a3 t123 _ A26.out).mono ?_); rintro e w' ⟨rfl, ⟨nd, rfl⟩⟩))
                all_goals (try go_ret)
                all_goals first | (exfalso; simp_all; done) | exact ⟨by first | rfl | (rw [HLAST.out]; done) | (simp [HLAST.out]; done) | (have HL_ := HLAST.out; simp_all; done) | (simp [errW_none, errW_some] <;> rfl) | (simp [*, errW_none, errW_some] <;> rfl), by repeat (first | (with_reducible first | exact HB.out | apply below_alloc | apply pw_below_drewN | apply below_drew1) | exact HB.out)⟩
              · rw [if_neg c24] at H
                have c24b0 : (t120 == t121) = false := beq_eq_false_iff_ne.mpr c24
                have c24b1 : (t120 != t121) = true := bne_iff_ne.mpr c24
                exact absurd H (by simp)
            · rw [if_neg c21] at H
              have c21b0 : (t118 == t119) = false := beq_eq_false_iff_ne.mpr c21
              have c21b1 : (t118 != t119) = true := bne_iff_ne.mpr c21
              exact absurd H (by simp)
          · rw [if_neg c18] at H
            have c18b0 : (t116 == t117) = false := beq_eq_false_iff_ne.mpr c18
            have c18b1 : (t116 != t117) = true := bne_iff_ne.mpr c18
            exact absurd H (by simp)
        · rw [if_neg c15] at H
          have c15b0 : (t114 == t115) = false := beq_eq_false_iff_ne.mpr c15
          have c15b1 : (t114 != t115) = true := bne_iff_ne.mpr c15
          exact absurd H (by simp)
      · rw [if_neg c12] at H
        have c12b0 : (t112 == t113) = false := beq_eq_false_iff_ne.mpr c12
        have c12b1 : (t112 != t113) = true := bne_iff_ne.mpr c12
        exact absurd H (by simp)
    · rw [if_neg c9] at H
      have c9b0 : (t110 == t111) = false := beq_eq_false_iff_ne.mpr c9
      have c9b1 : (t110 != t111) = true := bne_iff_ne.mpr c9
      exact absurd H (by simp)
  · replace c6 := Bool.eq_false_iff.mpr c6
    subst c6
    have H1 : (some false) = some true := by first | (rw [if_neg (show ¬ (false = true) by decide)] at H; exact H) | exact H | rfl
    clear H
    have H := H1
    clear H1
    exact absurd H (by simp)

/-- THE ONE PURE STATEMENT of dynamolaw1_FixedSays: yours. -/
def dynamolaw1_FixedSays.Pure : Prop := ∀ (a0 : Int) (a1 : Int) (a2 : Int) (a3 : Int), (Lit.int .i64 a0).wf = true → (Lit.int .i64 a1).wf = true → (Lit.int .i64 a2).wf = true → (Lit.int .i64 a3).wf = true → ∃ k, dynamolaw1_FixedSays.f k a0 a1 a2 a3 = some true
theorem dynamolaw1_FixedSays.walk (P : dynamolaw1_FixedSays.Pure) (a0 : Int) (a1 : Int) (a2 : Int) (a3 : Int) (w : World) (w0 : (Lit.int .i64 a0).wf = true) (w1 : (Lit.int .i64 a1).wf = true) (w2 : (Lit.int .i64 a2).wf = true) (w3 : (Lit.int .i64 a3).wf = true) :
    Calls Try.prog 9 #[.int .i64 a0, .int .i64 a1, .int .i64 a2, .int .i64 a3] w fun e w' => e = .returned (.bool true) ∧ Below w.heap.size w w' := by
  obtain ⟨k, h⟩ := P a0 a1 a2 a3 w0 w1 w2 w3
  refine (dynamolaw1_FixedSays.calls k a0 a1 a2 a3 w h).mono ?_
  rintro e w' ⟨rfl, hd⟩
  exact ⟨rfl, hd⟩

end Go.Proofs.Ytjecaenloilkcaa.PFixedSays
