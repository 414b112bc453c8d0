-- written by this work with wip/mkprint2.py
import Derived.Test.YtjecaenloilkcaaPFixedBoundsx0
import Derived.Test.YtjecaenloilkcaaPFixedBoundsx1
namespace Go.Proofs.Ytjecaenloilkcaa.PFixedBounds
open Go.RowKit Go.Proofs.YtjecaenloilkcaaW.PrintWords Go.Proofs.YtjecaenloilkcaaW.PrintLast Go.Proofs.YtjecaenloilkcaaW.PrintMore
attribute [local go_sem] max2_int min2_int max_two min_two max_three min_three max_four min_four   -- for this text's walks alone
set_option linter.unusedVariables false
set_option linter.unusedSimpArgs false

/-! ### dynamolaw1_FixedBounds: function 8 -/
mutual
def dynamolaw1_FixedBounds.j0 : Nat → Int → Int → Bool → Int → Bool → Option (Bool)
  | 0, _, _, _, _, _ => none
  | k + 1, x0, x1, x5, x6, x48 => if x48 = true then (some false) else (if x0 ≥ 0 then (if x1 ≥ 0 then (if x6 < x0 then (dynamolaw1_FixedBounds.j1 k x0 x5 true) else (if x6 < x1 then (dynamolaw1_FixedBounds.j1 k x0 x5 true) else (if x0 ≤ 0 then (if x1 ≤ 0 then (if x6 > x0 then (dynamolaw1_FixedBounds.j1 k x0 x5 true) else (dynamolaw1_FixedBounds.j1 k x0 x5 (decide (x6 > x1)))) else (dynamolaw1_FixedBounds.j1 k x0 x5 false)) else (dynamolaw1_FixedBounds.j1 k x0 x5 false)))) else (if x0 ≤ 0 then (if x1 ≤ 0 then (if x6 > x0 then (dynamolaw1_FixedBounds.j1 k x0 x5 true) else (dynamolaw1_FixedBounds.j1 k x0 x5 (decide (x6 > x1)))) else (dynamolaw1_FixedBounds.j1 k x0 x5 false)) else (dynamolaw1_FixedBounds.j1 k x0 x5 false))) else (if x0 ≤ 0 then (if x1 ≤ 0 then (if x6 > x0 then (dynamolaw1_FixedBounds.j1 k x0 x5 true) else (dynamolaw1_FixedBounds.j1 k x0 x5 (decide (x6 > x1)))) else (dynamolaw1_FixedBounds.j1 k x0 x5 false)) else (dynamolaw1_FixedBounds.j1 k x0 x5 false)))
def dynamolaw1_FixedBounds.j1 : Nat → Int → Bool → Bool → Option (Bool)
  | 0, _, _, _ => none
  | k + 1, x0, x5, x82 => if x82 = true then (some false) else (if x5 = true then ((fixed_Abs.f k x0).bind fun t113 => ((fixed_Add.f k 9223372036854775807 t113).bind fun t114 => (if t114 = 9223372036854775807 then ((fixed_Abs.f k x0).bind fun t115 => ((fixed_Sub.f k (-9223372036854775808) t115).bind fun t116 => (if t116 = (-9223372036854775808) then ((fixed_Abs.f k (-9223372036854775808)).bind fun t117 => (if t117 = 9223372036854775807 then ((fixed_Mul.f k (-9223372036854775808) (-1)).bind fun t118 => (if t118 = 9223372036854775807 then ((fixed_Abs.f k x0).bind fun t119 => (if t119 ≥ 0 then ((fixed_Mul.f k 9223372036854775807 2).bind fun t120 => (if t120 = 9223372036854775807 then ((fixed_Mul.f k 9223372036854775807 (-2)).bind fun t121 => (some (t121 == (-9223372036854775808)))) else (some false))) else (some false))) else (some false))) else (some false))) else (some false)))) else (some false)))) else (some false))
end
def dynamolaw1_FixedBounds.f (k : Nat) (a0 : Int) (a1 : Int) : Option (Bool) := (dynamolaw1_first.f k).bind fun t105 => (if t105 = true then ((fixed_Add.f k a0 a1).bind fun t106 => ((fixed_Mul.f k a0 a1).bind fun t107 => ((fixed_Add.f k a1 a0).bind fun t108 => (if t106 = t108 then ((fixed_Mul.f k a1 a0).bind fun t109 => (if t107 = t109 then ((fixed_Sub.f k a0 a0).bind fun t110 => (if t110 = 0 then ((fixed_Mul.f k a0 1).bind fun t111 => (if t111 = a0 then ((fixed_Add.f k a0 0).bind fun t112 => (dynamolaw1_FixedBounds.j0 k a0 a1 t105 t106 (t112 != a0))) else (dynamolaw1_FixedBounds.j0 k a0 a1 t105 t106 true))) else (dynamolaw1_FixedBounds.j0 k a0 a1 t105 t106 true))) else (dynamolaw1_FixedBounds.j0 k a0 a1 t105 t106 true))) else (dynamolaw1_FixedBounds.j0 k a0 a1 t105 t106 true))))) else (some false))
theorem dynamolaw1_FixedBounds.mono_l : ∀ k, (∀ y0 y1 y2 y3 y4, LeO (dynamolaw1_FixedBounds.j0 k y0 y1 y2 y3 y4) (dynamolaw1_FixedBounds.j0 (k + 1) y0 y1 y2 y3 y4)) ∧ (∀ y0 y1 y2, LeO (dynamolaw1_FixedBounds.j1 k y0 y1 y2) (dynamolaw1_FixedBounds.j1 (k + 1) y0 y1 y2))
  | 0 => ⟨fun _ _ _ _ _ r h => by simp [dynamolaw1_FixedBounds.j0] at h, fun _ _ _ r h => by simp [dynamolaw1_FixedBounds.j1] at h⟩
  | k + 1 => by
    obtain ⟨ih0, ih1⟩ := dynamolaw1_FixedBounds.mono_l k
    refine ⟨?_, ?_⟩
    · intro y0 y1 y2 y3 y4
      unfold dynamolaw1_FixedBounds.j0
      repeat' first
      | (with_reducible exact ih0 _ _ _ _ _)
      | (with_reducible exact ih1 _ _ _)
      | (with_reducible exact dynamolaw1_first.mono _)
      | (with_reducible exact fixed_Abs.mono _ _)
      | (with_reducible exact fixed_Add.mono _ _ _)
      | (with_reducible exact fixed_Mul.mono _ _ _)
      | (with_reducible exact fixed_Sub.mono _ _ _)
      | (with_reducible exact LeO.refl _)
      | (with_reducible exact LeO.none _)
      | (with_reducible refine LeO.ite ?_ ?_)
      | (with_reducible refine LeO.bind ?_ (fun _ => ?_))
      | exact ih0 _ _ _ _ _
      | exact ih1 _ _ _
      | exact dynamolaw1_first.mono _
      | exact fixed_Abs.mono _ _
      | exact fixed_Add.mono _ _ _
      | exact fixed_Mul.mono _ _ _
      | exact fixed_Sub.mono _ _ _
      | exact LeO.none _
      | refine LeO.ite ?_ ?_
      | refine LeO.bind ?_ (fun _ => ?_)
    · intro y0 y1 y2
      unfold dynamolaw1_FixedBounds.j1
      repeat' first
      | (with_reducible exact ih0 _ _ _ _ _)
      | (with_reducible exact ih1 _ _ _)
      | (with_reducible exact dynamolaw1_first.mono _)
      | (with_reducible exact fixed_Abs.mono _ _)
      | (with_reducible exact fixed_Add.mono _ _ _)
      | (with_reducible exact fixed_Mul.mono _ _ _)
      | (with_reducible exact fixed_Sub.mono _ _ _)
      | (with_reducible exact LeO.refl _)
      | (with_reducible exact LeO.none _)
      | (with_reducible refine LeO.ite ?_ ?_)
      | (with_reducible refine LeO.bind ?_ (fun _ => ?_))
      | exact ih0 _ _ _ _ _
      | exact ih1 _ _ _
      | exact dynamolaw1_first.mono _
      | exact fixed_Abs.mono _ _
      | exact fixed_Add.mono _ _ _
      | exact fixed_Mul.mono _ _ _
      | exact fixed_Sub.mono _ _ _
      | exact LeO.none _
      | refine LeO.ite ?_ ?_
      | refine LeO.bind ?_ (fun _ => ?_)
theorem dynamolaw1_FixedBounds.mono : ∀ a0 a1 k, LeO (dynamolaw1_FixedBounds.f k a0 a1) (dynamolaw1_FixedBounds.f (k + 1) a0 a1) := by
  intro a0 a1 k
  obtain ⟨ih0, ih1⟩ := dynamolaw1_FixedBounds.mono_l k
  unfold dynamolaw1_FixedBounds.f
  repeat' first
      | (with_reducible exact ih0 _ _ _ _ _)
      | (with_reducible exact ih1 _ _ _)
      | (with_reducible exact dynamolaw1_first.mono _)
      | (with_reducible exact fixed_Abs.mono _ _)
      | (with_reducible exact fixed_Add.mono _ _ _)
      | (with_reducible exact fixed_Mul.mono _ _ _)
      | (with_reducible exact fixed_Sub.mono _ _ _)
      | (with_reducible exact LeO.refl _)
      | (with_reducible exact LeO.none _)
      | (with_reducible refine LeO.ite ?_ ?_)
      | (with_reducible refine LeO.bind ?_ (fun _ => ?_))
      | exact ih0 _ _ _ _ _
      | exact ih1 _ _ _
      | exact dynamolaw1_first.mono _
      | exact fixed_Abs.mono _ _
      | exact fixed_Add.mono _ _ _
      | exact fixed_Mul.mono _ _ _
      | exact fixed_Sub.mono _ _ _
      | exact LeO.none _
      | refine LeO.ite ?_ ?_
      | refine LeO.bind ?_ (fun _ => ?_)
set_option maxHeartbeats 8000000 in
set_option maxRecDepth 100000 in
theorem dynamolaw1_FixedBounds.calls (k : Nat) (a0 : Int) (a1 : Int) (w : World) (h : dynamolaw1_FixedBounds.f k a0 a1 = some true) :
    Calls Try.prog 8 #[.int .i64 a0, .int .i64 a1] w fun e w' => e = .returned (.bool true) ∧ Drawn0 w w' := by
  have H : ((dynamolaw1_first.f k).bind fun t105 => (if t105 = true then ((fixed_Add.f k a0 a1).bind fun t106 => ((fixed_Mul.f k a0 a1).bind fun t107 => ((fixed_Add.f k a1 a0).bind fun t108 => (if t106 = t108 then ((fixed_Mul.f k a1 a0).bind fun t109 => (if t107 = t109 then ((fixed_Sub.f k a0 a0).bind fun t110 => (if t110 = 0 then ((fixed_Mul.f k a0 1).bind fun t111 => (if t111 = a0 then ((fixed_Add.f k a0 0).bind fun t112 => (dynamolaw1_FixedBounds.j0 k a0 a1 t105 t106 (t112 != a0))) else (dynamolaw1_FixedBounds.j0 k a0 a1 t105 t106 true))) else (dynamolaw1_FixedBounds.j0 k a0 a1 t105 t106 true))) else (dynamolaw1_FixedBounds.j0 k a0 a1 t105 t106 true))) else (dynamolaw1_FixedBounds.j0 k a0 a1 t105 t106 true))))) else (some false))) = some true := h
  clear h
  replace H := Option.bind_eq_some_iff.mp H
  obtain ⟨t105, A30, H⟩ := H
  replace H : (if t105 = true then ((fixed_Add.f k a0 a1).bind fun t106 => ((fixed_Mul.f k a0 a1).bind fun t107 => ((fixed_Add.f k a1 a0).bind fun t108 => (if t106 = t108 then ((fixed_Mul.f k a1 a0).bind fun t109 => (if t107 = t109 then ((fixed_Sub.f k a0 a0).bind fun t110 => (if t110 = 0 then ((fixed_Mul.f k a0 1).bind fun t111 => (if t111 = a0 then ((fixed_Add.f k a0 0).bind fun t112 => (dynamolaw1_FixedBounds.j0 k a0 a1 t105 t106 (t112 != a0))) else (dynamolaw1_FixedBounds.j0 k a0 a1 t105 t106 true))) else (dynamolaw1_FixedBounds.j0 k a0 a1 t105 t106 true))) else (dynamolaw1_FixedBounds.j0 k a0 a1 t105 t106 true))) else (dynamolaw1_FixedBounds.j0 k a0 a1 t105 t106 true))))) else (some false)) = some true := H
  have A3 := Aside0.mk A30
  clear A30
  by_cases c4 : t105 = true
  · subst c4
    have H1 : ((fixed_Add.f k a0 a1).bind fun t106 => ((fixed_Mul.f k a0 a1).bind fun t107 => ((fixed_Add.f k a1 a0).bind fun t108 => (if t106 = t108 then ((fixed_Mul.f k a1 a0).bind fun t109 => (if t107 = t109 then ((fixed_Sub.f k a0 a0).bind fun t110 => (if t110 = 0 then ((fixed_Mul.f k a0 1).bind fun t111 => (if t111 = a0 then ((fixed_Add.f k a0 0).bind fun t112 => (dynamolaw1_FixedBounds.j0 k a0 a1 true t106 (t112 != a0))) else (dynamolaw1_FixedBounds.j0 k a0 a1 true t106 true))) else (dynamolaw1_FixedBounds.j0 k a0 a1 true t106 true))) else (dynamolaw1_FixedBounds.j0 k a0 a1 true t106 true))) else (dynamolaw1_FixedBounds.j0 k a0 a1 true t106 true))))) = some true := by first | (rw [if_pos rfl] at H; exact H) | exact H | rfl
    clear H
    have H := H1
    clear H1
    replace H := Option.bind_eq_some_iff.mp H
    obtain ⟨t106, A50, H⟩ := H
    replace H : ((fixed_Mul.f k a0 a1).bind fun t107 => ((fixed_Add.f k a1 a0).bind fun t108 => (if t106 = t108 then ((fixed_Mul.f k a1 a0).bind fun t109 => (if t107 = t109 then ((fixed_Sub.f k a0 a0).bind fun t110 => (if t110 = 0 then ((fixed_Mul.f k a0 1).bind fun t111 => (if t111 = a0 then ((fixed_Add.f k a0 0).bind fun t112 => (dynamolaw1_FixedBounds.j0 k a0 a1 true t106 (t112 != a0))) else (dynamolaw1_FixedBounds.j0 k a0 a1 true t106 true))) else (dynamolaw1_FixedBounds.j0 k a0 a1 true t106 true))) else (dynamolaw1_FixedBounds.j0 k a0 a1 true t106 true))) else (dynamolaw1_FixedBounds.j0 k a0 a1 true t106 true)))) = some true := H
    have A5 := Aside0.mk A50
    clear A50
    replace H := Option.bind_eq_some_iff.mp H
    obtain ⟨t107, A60, H⟩ := H
    replace H : ((fixed_Add.f k a1 a0).bind fun t108 => (if t106 = t108 then ((fixed_Mul.f k a1 a0).bind fun t109 => (if t107 = t109 then ((fixed_Sub.f k a0 a0).bind fun t110 => (if t110 = 0 then ((fixed_Mul.f k a0 1).bind fun t111 => (if t111 = a0 then ((fixed_Add.f k a0 0).bind fun t112 => (dynamolaw1_FixedBounds.j0 k a0 a1 true t106 (t112 != a0))) else (dynamolaw1_FixedBounds.j0 k a0 a1 true t106 true))) else (dynamolaw1_FixedBounds.j0 k a0 a1 true t106 true))) else (dynamolaw1_FixedBounds.j0 k a0 a1 true t106 true))) else (dynamolaw1_FixedBounds.j0 k a0 a1 true t106 true))) = some true := H
    have A6 := Aside0.mk A60
    clear A60
    have HC7 := Aside0.mk H
    clear H
    go_enter Try.func8, Try.ntmps8
    go_upto_region 6 with (first | ((with_reducible refine gate_callee (f := 19) rfl ?_); refine goesL_ (some 10) rfl rfl Try.func19 (by kernel_rfl) rfl #[] rfl (by (try simp only [List.map_toArray, List.map_cons, List.map_nil]); first | done | rfl | (simp only [List.length_drop, List.length_take]; rfl)) ?_; (with_reducible refine (dynamolaw1_first.calls k  true _ A3.out).mono ?_); rintro e w' ⟨rfl, ⟨nd, rfl⟩⟩; refine ⟨_, rfl, ?_⟩) | ((with_reducible refine gate_callee (f := 25) rfl ?_); refine goesL_ (some 15) rfl rfl Try.func25 (by kernel_rfl) rfl #[.int .i64 a0, .int .i64 a1] rfl (by (try simp only [List.map_toArray, List.map_cons, List.map_nil]); first | done | rfl | (simp only [List.length_drop, List.length_take]; rfl)) ?_; (with_reducible refine (fixed_Add.calls k a0 a1 t106 _ A5.out).mono ?_); rintro e w' ⟨rfl, ⟨nd, rfl⟩⟩; refine ⟨_, rfl, ?_⟩) | ((with_reducible refine gate_callee (f := 27) rfl ?_); refine goesL_ (some 18) rfl rfl Try.func27 (by kernel_rfl) rfl #[.int .i64 a0, .int .i64 a1] rfl (by (try simp only [List.map_toArray, List.map_cons, List.map_nil]); first | done | rfl | (simp only [List.length_drop, List.length_take]; rfl)) ?_; (with_reducible refine (fixed_Mul.calls k a0 a1 t107 _ A6.out).mono ?_); rintro e w' ⟨rfl, ⟨nd, rfl⟩⟩; refine ⟨_, rfl, ?_⟩))
    (try simp only [Act.put, List.setIfInBounds_toArray, List.set_cons_zero, List.set_cons_succ])
    go_cut [48] (fun v48 wc => ∃ (kq : Nat) (x48_6 : Bool), v48 = .bool x48_6 ∧ Aside0 (dynamolaw1_FixedBounds.j0 kq a0 a1 true t106 x48_6 = some true) ∧ Aside0 (kq ≤ k) ∧ Drawn0 w wc)
    case first =>
      have H := HC7.out
      clear HC7
      replace H := Option.bind_eq_some_iff.mp H
      obtain ⟨t108, A80, H⟩ := H
      replace H : (if t106 = t108 then ((fixed_Mul.f k a1 a0).bind fun t109 => (if t107 = t109 then ((fixed_Sub.f k a0 a0).bind fun t110 => (if t110 = 0 then ((fixed_Mul.f k a0 1).bind fun t111 => (if t111 = a0 then ((fixed_Add.f k a0 0).bind fun t112 => (dynamolaw1_FixedBounds.j0 k a0 a1 true t106 (t112 != a0))) else (dynamolaw1_FixedBounds.j0 k a0 a1 true t106 true))) else (dynamolaw1_FixedBounds.j0 k a0 a1 true t106 true))) else (dynamolaw1_FixedBounds.j0 k a0 a1 true t106 true))) else (dynamolaw1_FixedBounds.j0 k a0 a1 true t106 true)) = some true := H
      have A8 := Aside0.mk A80
      clear A80
      by_cases c9 : t106 = t108
      · rw [if_pos c9] at H
        have c9b0 : (t106 == t108) = true := beq_iff_eq.mpr c9
        have c9b1 : (t106 != t108) = false := bne_eq_false_iff_eq.mpr c9
        clear c9
        (first | rw [c9b0] | (simp only [i64_w, i32_w]; rw [c9b0]) | skip)
        replace H := Option.bind_eq_some_iff.mp H
        obtain ⟨t109, A100, H⟩ := H
        replace H : (if t107 = t109 then ((fixed_Sub.f k a0 a0).bind fun t110 => (if t110 = 0 then ((fixed_Mul.f k a0 1).bind fun t111 => (if t111 = a0 then ((fixed_Add.f k a0 0).bind fun t112 => (dynamolaw1_FixedBounds.j0 k a0 a1 true t106 (t112 != a0))) else (dynamolaw1_FixedBounds.j0 k a0 a1 true t106 true))) else (dynamolaw1_FixedBounds.j0 k a0 a1 true t106 true))) else (dynamolaw1_FixedBounds.j0 k a0 a1 true t106 true)) = some true := H
        have A10 := Aside0.mk A100
        clear A100
        by_cases c11 : t107 = t109
        · rw [if_pos c11] at H
          have c11b0 : (t107 == t109) = true := beq_iff_eq.mpr c11
          have c11b1 : (t107 != t109) = false := bne_eq_false_iff_eq.mpr c11
          clear c11
          replace H := Option.bind_eq_some_iff.mp H
          obtain ⟨t110, A120, H⟩ := H
          replace H : (if t110 = 0 then ((fixed_Mul.f k a0 1).bind fun t111 => (if t111 = a0 then ((fixed_Add.f k a0 0).bind fun t112 => (dynamolaw1_FixedBounds.j0 k a0 a1 true t106 (t112 != a0))) else (dynamolaw1_FixedBounds.j0 k a0 a1 true t106 true))) else (dynamolaw1_FixedBounds.j0 k a0 a1 true t106 true)) = some true := H
          have A12 := Aside0.mk A120
          clear A120
          by_cases c13 : t110 = 0
          · rw [if_pos c13] at H
            have c13b0 : (t110 == 0) = true := beq_iff_eq.mpr c13
            have c13b1 : (t110 != 0) = false := bne_eq_false_iff_eq.mpr c13
            clear c13
            replace H := Option.bind_eq_some_iff.mp H
            obtain ⟨t111, A140, H⟩ := H
            replace H : (if t111 = a0 then ((fixed_Add.f k a0 0).bind fun t112 => (dynamolaw1_FixedBounds.j0 k a0 a1 true t106 (t112 != a0))) else (dynamolaw1_FixedBounds.j0 k a0 a1 true t106 true)) = some true := H
            have A14 := Aside0.mk A140
            clear A140
            by_cases c15 : t111 = a0
            · rw [if_pos c15] at H
              have c15b0 : (t111 == a0) = true := beq_iff_eq.mpr c15
              have c15b1 : (t111 != a0) = false := bne_eq_false_iff_eq.mpr c15
              clear c15
              replace H := Option.bind_eq_some_iff.mp H
              obtain ⟨t112, A160, H⟩ := H
              replace H : (dynamolaw1_FixedBounds.j0 k a0 a1 true t106 (t112 != a0)) = some true := H
              have A16 := Aside0.mk A160
              clear A160
              have H' := Aside0.mk H
              clear H
              go_wp2_with (first | ((with_reducible refine gate_callee (f := 25) rfl ?_); refine goesL_ (some 22) rfl rfl Try.func25 (by kernel_rfl) rfl #[.int .i64 a1, .int .i64 a0] rfl (by (try simp only [List.map_toArray, List.map_cons, List.map_nil]); first | done | rfl | (simp only [List.length_drop, List.length_take]; rfl)) ?_; (with_reducible refine (fixed_Add.calls k a1 a0 t108 _ A8.out).mono ?_); rintro e w' ⟨rfl, ⟨nd, rfl⟩⟩; refine ⟨_, rfl, ?_⟩) | (go_at_call 27; (with_reducible refine (fixed_Mul.calls k a1 a0 t109 _ A10.out).mono ?_); rintro e w' ⟨rfl, ⟨nd, rfl⟩⟩) | (go_at_call 26; (with_reducible refine (fixed_Sub.calls k a0 a0 t110 _ A12.out).mono ?_); rintro e w' ⟨rfl, ⟨nd, rfl⟩⟩) | (go_at_call 27; (with_reducible refine (fixed_Mul.calls k a0 1 t111 _ A14.out).mono ?_); rintro e w' ⟨rfl, ⟨nd, rfl⟩⟩) | (go_at_call 25; (with_reducible refine (fixed_Add.calls k a0 0 t112 _ A16.out).mono ?_); rintro e w' ⟨rfl, ⟨nd, rfl⟩⟩))
              go_meet
              case rel => exact ⟨_, ((t112 != a0)), (by first | rfl | (simp; done) | (simp [*]; done)), H', ⟨by first | omega | exact Nat.le_refl _⟩, by repeat (first | exact Drawn0.refl _ | apply Drawn0.step)⟩
            · rw [if_neg c15] at H
              have c15b0 : (t111 == a0) = false := beq_eq_false_iff_ne.mpr c15
              have c15b1 : (t111 != a0) = true := bne_iff_ne.mpr c15
              have H' := Aside0.mk H
              clear H
              go_wp2_with (first | ((with_reducible refine gate_callee (f := 25) rfl ?_); refine goesL_ (some 22) rfl rfl Try.func25 (by kernel_rfl) rfl #[.int .i64 a1, .int .i64 a0] rfl (by (try simp only [List.map_toArray, List.map_cons, List.map_nil]); first | done | rfl | (simp only [List.length_drop, List.length_take]; rfl)) ?_; (with_reducible refine (fixed_Add.calls k a1 a0 t108 _ A8.out).mono ?_); rintro e w' ⟨rfl, ⟨nd, rfl⟩⟩; refine ⟨_, rfl, ?_⟩) | (go_at_call 27; (with_reducible refine (fixed_Mul.calls k a1 a0 t109 _ A10.out).mono ?_); rintro e w' ⟨rfl, ⟨nd, rfl⟩⟩) | (go_at_call 26; (with_reducible refine (fixed_Sub.calls k a0 a0 t110 _ A12.out).mono ?_); rintro e w' ⟨rfl, ⟨nd, rfl⟩⟩) | (go_at_call 27; (with_reducible refine (fixed_Mul.calls k a0 1 t111 _ A14.out).mono ?_); rintro e w' ⟨rfl, ⟨nd, rfl⟩⟩))
              go_meet
              case rel => exact ⟨_, (true), (by first | rfl | (simp; done) | (simp [*]; done)), H', ⟨by first | omega | exact Nat.le_refl _⟩, by repeat (first | exact Drawn0.refl _ | apply Drawn0.step)⟩
          · rw [if_neg c13] at H
            have c13b0 : (t110 == 0) = false := beq_eq_false_iff_ne.mpr c13
            have c13b1 : (t110 != 0) = true := bne_iff_ne.mpr c13
            have H' := Aside0.mk H
            clear H
            go_wp2_with (first | ((with_reducible refine gate_callee (f := 25) rfl ?_); refine goesL_ (some 22) rfl rfl Try.func25 (by kernel_rfl) rfl #[.int .i64 a1, .int .i64 a0] rfl (by (try simp only [List.map_toArray, List.map_cons, List.map_nil]); first | done | rfl | (simp only [List.length_drop, List.length_take]; rfl)) ?_; (with_reducible refine (fixed_Add.calls k a1 a0 t108 _ A8.out).mono ?_); rintro e w' ⟨rfl, ⟨nd, rfl⟩⟩; refine ⟨_, rfl, ?_⟩) | (go_at_call 27; (with_reducible refine (fixed_Mul.calls k a1 a0 t109 _ A10.out).mono ?_); rintro e w' ⟨rfl, ⟨nd, rfl⟩⟩) | (go_at_call 26; (with_reducible refine (fixed_Sub.calls k a0 a0 t110 _ A12.out).mono ?_); rintro e w' ⟨rfl, ⟨nd, rfl⟩⟩))
            go_meet
            case rel => exact ⟨_, (true), (by first | rfl | (simp; done) | (simp [*]; done)), H', ⟨by first | omega | exact Nat.le_refl _⟩, by repeat (first | exact Drawn0.refl _ | apply Drawn0.step)⟩
        · rw [if_neg c11] at H
          have c11b0 : (t107 == t109) = false := beq_eq_false_iff_ne.mpr c11
          have c11b1 : (t107 != t109) = true := bne_iff_ne.mpr c11
          have H' := Aside0.mk H
          clear H
          go_wp2_with (first | ((with_reducible refine gate_callee (f := 25) rfl ?_); refine goesL_ (some 22) rfl rfl Try.func25 (by kernel_rfl) rfl #[.int .i64 a1, .int .i64 a0] rfl (by (try simp only [List.map_toArray, List.map_cons, List.map_nil]); first | done | rfl | (simp only [List.length_drop, List.length_take]; rfl)) ?_; (with_reducible refine (fixed_Add.calls k a1 a0 t108 _ A8.out).mono ?_); rintro e w' ⟨rfl, ⟨nd, rfl⟩⟩; refine ⟨_, rfl, ?_⟩) | (go_at_call 27; (with_reducible refine (fixed_Mul.calls k a1 a0 t109 _ A10.out).mono ?_); rintro e w' ⟨rfl, ⟨nd, rfl⟩⟩))
          go_meet
          case rel => exact ⟨_, (true), (by first | rfl | (simp; done) | (simp [*]; done)), H', ⟨by first | omega | exact Nat.le_refl _⟩, by repeat (first | exact Drawn0.refl _ | apply Drawn0.step)⟩
      · rw [if_neg c9] at H
        have c9b0 : (t106 == t108) = false := beq_eq_false_iff_ne.mpr c9
        have c9b1 : (t106 != t108) = true := bne_iff_ne.mpr c9
        (first | rw [c9b0] | (simp only [i64_w, i32_w]; rw [c9b0]) | skip)
        have H' := Aside0.mk H
        clear H
        go_wp2_with (first | ((with_reducible refine gate_callee (f := 25) rfl ?_); refine goesL_ (some 22) rfl rfl Try.func25 (by kernel_rfl) rfl #[.int .i64 a1, .int .i64 a0] rfl (by (try simp only [List.map_toArray, List.map_cons, List.map_nil]); first | done | rfl | (simp only [List.length_drop, List.length_take]; rfl)) ?_; (with_reducible refine (fixed_Add.calls k a1 a0 t108 _ A8.out).mono ?_); rintro e w' ⟨rfl, ⟨nd, rfl⟩⟩; refine ⟨_, rfl, ?_⟩))
        go_meet
        case rel => exact ⟨_, (true), (by first | rfl | (simp; done) | (simp [*]; done)), H', ⟨by first | omega | exact Nat.le_refl _⟩, by repeat (first | exact Drawn0.refl _ | apply Drawn0.step)⟩
    case rest =>
      clear HC7
      try clear c1
      try clear c2
      try clear p2
      try clear c4
      try clear c8
      try clear c9
      try clear c9b0
      try clear c9b1
      try clear c11
      try clear c11b0
      try clear c11b1
      try clear c13
      try clear c13b0
      try clear c13b1
      try clear c15
      try clear c15b0
      try clear c15b1
      obtain ⟨kq, x48_6, rfl, HA, HJ6, ⟨mc6, rfl⟩⟩ := hcut
      cases kq with
      | zero => exact absurd HA.out (by simp [dynamolaw1_FixedBounds.j0])
      | succ kj6 =>
        have H := HA.out
        clear HA
        simp only [dynamolaw1_FixedBounds.j0] at H
        by_cases c17 : x48_6 = true
        · subst c17
          have H1 : (some false) = some true := by first | (rw [if_pos rfl] at H; exact H) | exact H | rfl
          clear H
          have H := H1
          clear H1
          exact absurd H (by simp)
        · replace c17 := Bool.eq_false_iff.mpr c17
          subst c17
          have H1 : (if a0 ≥ 0 then (if a1 ≥ 0 then (if t106 < a0 then (dynamolaw1_FixedBounds.j1 kj6 a0 true true) else (if t106 < a1 then (dynamolaw1_FixedBounds.j1 kj6 a0 true true) else (if a0 ≤ 0 then (if a1 ≤ 0 then (if t106 > a0 then (dynamolaw1_FixedBounds.j1 kj6 a0 true true) else (dynamolaw1_FixedBounds.j1 kj6 a0 true (decide (t106 > a1)))) else (dynamolaw1_FixedBounds.j1 kj6 a0 true false)) else (dynamolaw1_FixedBounds.j1 kj6 a0 true false)))) else (if a0 ≤ 0 then (if a1 ≤ 0 then (if t106 > a0 then (dynamolaw1_FixedBounds.j1 kj6 a0 true true) else (dynamolaw1_FixedBounds.j1 kj6 a0 true (decide (t106 > a1)))) else (dynamolaw1_FixedBounds.j1 kj6 a0 true false)) else (dynamolaw1_FixedBounds.j1 kj6 a0 true false))) else (if a0 ≤ 0 then (if a1 ≤ 0 then (if t106 > a0 then (dynamolaw1_FixedBounds.j1 kj6 a0 true true) else (dynamolaw1_FixedBounds.j1 kj6 a0 true (decide (t106 > a1)))) else (dynamolaw1_FixedBounds.j1 kj6 a0 true false)) else (dynamolaw1_FixedBounds.j1 kj6 a0 true false))) = some true := by first | (rw [if_neg (show ¬ (false = true) by decide)] at H; exact H) | exact H | rfl
          clear H
          have H := H1
          clear H1
          have HC18 := Aside0.mk H
          clear H
          go_upto_region 8 with (fail)
          go_cut [82] (fun v82 wc => ∃ (kq : Nat) (x82_17 : Bool), v82 = .bool x82_17 ∧ Aside0 (dynamolaw1_FixedBounds.j1 kq a0 true x82_17 = some true) ∧ Aside0 (kq ≤ kj6) ∧ Drawn0 w wc)
          case first =>
            have H := HC18.out
            clear HC18
            by_cases c19 : a0 ≥ 0
            · rw [if_pos c19] at H
              have c19b0 : decide (0 ≤ a0) = true := decide_eq_true c19
              clear c19
              (first | rw [c19b0] | (simp only [i64_w, i32_w]; rw [c19b0]) | skip)
              by_cases c20 : a1 ≥ 0
              · rw [if_pos c20] at H
                have c20b0 : decide (0 ≤ a1) = true := decide_eq_true c20
                clear c20
                by_cases c21 : t106 < a0
                · rw [if_pos c21] at H
                  have c21b0 : decide (t106 < a0) = true := decide_eq_true c21
                  clear c21
                  have H' := Aside0.mk H
                  clear H
                  go_wp2
                  go_meet
                  case rel => exact ⟨_, (true), (by first | rfl | (simp; done) | (simp [*]; done)), H', ⟨by have := HJ6.out; first | omega | exact Nat.le_refl _⟩, by repeat (first | exact Drawn0.refl _ | apply Drawn0.step)⟩
                · rw [if_neg c21] at H
                  have c21b0 : decide (t106 < a0) = false := decide_eq_false c21
                  clear c21
                  by_cases c22 : t106 < a1
                  · rw [if_pos c22] at H
                    have c22b0 : decide (t106 < a1) = true := decide_eq_true c22
                    clear c22
                    have H' := Aside0.mk H
                    clear H
                    go_wp2
                    go_meet
                    case rel => exact ⟨_, (true), (by first | rfl | (simp; done) | (simp [*]; done)), H', ⟨by have := HJ6.out; first | omega | exact Nat.le_refl _⟩, by repeat (first | exact Drawn0.refl _ | apply Drawn0.step)⟩
                  · rw [if_neg c22] at H
                    have c22b0 : decide (t106 < a1) = false := decide_eq_false c22
                    clear c22
                    by_cases c23 : a0 ≤ 0
                    · rw [if_pos c23] at H
                      have c23b0 : decide (a0 ≤ 0) = true := decide_eq_true c23
                      clear c23
                      by_cases c24 : a1 ≤ 0
                      · rw [if_pos c24] at H
                        have c24b0 : decide (a1 ≤ 0) = true := decide_eq_true c24
                        clear c24
                        by_cases c25 : t106 > a0
                        · rw [if_pos c25] at H
                          have c25b0 : decide (a0 < t106) = true := decide_eq_true c25
                          clear c25
                          have H' := Aside0.mk H
                          clear H
                          go_wp2
                          go_meet
                          case rel => exact ⟨_, (true), (by first | rfl | (simp; done) | (simp [*]; done)), H', ⟨by have := HJ6.out; first | omega | exact Nat.le_refl _⟩, by repeat (first | exact Drawn0.refl _ | apply Drawn0.step)⟩
                        · rw [if_neg c25] at H
                          have c25b0 : decide (a0 < t106) = false := decide_eq_false c25
                          clear c25
                          have H' := Aside0.mk H
                          clear H
                          go_wp2
                          go_meet
                          case rel => exact ⟨_, (decide (t106 > a1)), (by first | rfl | (simp; done) | (simp [*]; done)), H', ⟨by have := HJ6.out; first | omega | exact Nat.le_refl _⟩, by repeat (first | exact Drawn0.refl _ | apply Drawn0.step)⟩
                      · rw [if_neg c24] at H
                        have c24b0 : decide (a1 ≤ 0) = false := decide_eq_false c24
                        clear c24
                        have H' := Aside0.mk H
                        clear H
                        go_wp2
                        go_meet
                        case rel => exact ⟨_, (false), (by first | rfl | (simp; done) | (simp [*]; done)), H', ⟨by have := HJ6.out; first | omega | exact Nat.le_refl _⟩, by repeat (first | exact Drawn0.refl _ | apply Drawn0.step)⟩
                    · rw [if_neg c23] at H
                      have c23b0 : decide (a0 ≤ 0) = false := decide_eq_false c23
                      clear c23
                      have H' := Aside0.mk H
                      clear H
                      go_wp2
                      go_meet
                      case rel => exact ⟨_, (false), (by first | rfl | (simp; done) | (simp [*]; done)), H', ⟨by have := HJ6.out; first | omega | exact Nat.le_refl _⟩, by repeat (first | exact Drawn0.refl _ | apply Drawn0.step)⟩
              · rw [if_neg c20] at H
                have c20b0 : decide (0 ≤ a1) = false := decide_eq_false c20
                clear c20
                by_cases c26 : a0 ≤ 0
                · rw [if_pos c26] at H
                  have c26b0 : decide (a0 ≤ 0) = true := decide_eq_true c26
                  clear c26
                  by_cases c27 : a1 ≤ 0
                  · rw [if_pos c27] at H
                    have c27b0 : decide (a1 ≤ 0) = true := decide_eq_true c27
                    clear c27
                    by_cases c28 : t106 > a0
                    · rw [if_pos c28] at H
                      have c28b0 : decide (a0 < t106) = true := decide_eq_true c28
                      clear c28
                      have H' := Aside0.mk H
                      clear H
                      go_wp2
                      go_meet
                      case rel => exact ⟨_, (true), (by first | rfl | (simp; done) | (simp [*]; done)), H', ⟨by have := HJ6.out; first | omega | exact Nat.le_refl _⟩, by repeat (first | exact Drawn0.refl _ | apply Drawn0.step)⟩
                    · rw [if_neg c28] at H
                      have c28b0 : decide (a0 < t106) = false := decide_eq_false c28
                      clear c28
                      have H' := Aside0.mk H
                      clear H
                      go_wp2
                      go_meet
                      case rel => exact ⟨_, (decide (t106 > a1)), (by first | rfl | (simp; done) | (simp [*]; done)), H', ⟨by have := HJ6.out; first | omega | exact Nat.le_refl _⟩, by repeat (first | exact Drawn0.refl _ | apply Drawn0.step)⟩
                  · rw [if_neg c27] at H
                    have c27b0 : decide (a1 ≤ 0) = false := decide_eq_false c27
                    clear c27
                    have H' := Aside0.mk H
                    clear H
                    go_wp2
                    go_meet
                    case rel => exact ⟨_, (false), (by first | rfl | (simp; done) | (simp [*]; done)), H', ⟨by have := HJ6.out; first | omega | exact Nat.le_refl _⟩, by repeat (first | exact Drawn0.refl _ | apply Drawn0.step)⟩
                · rw [if_neg c26] at H
                  have c26b0 : decide (a0 ≤ 0) = false := decide_eq_false c26
                  clear c26
                  have H' := Aside0.mk H
                  clear H
                  go_wp2
                  go_meet
                  case rel => exact ⟨_, (false), (by first | rfl | (simp; done) | (simp [*]; done)), H', ⟨by have := HJ6.out; first | omega | exact Nat.le_refl _⟩, by repeat (first | exact Drawn0.refl _ | apply Drawn0.step)⟩
            · rw [if_neg c19] at H
              have c19b0 : decide (0 ≤ a0) = false := decide_eq_false c19
              clear c19
              (first | rw [c19b0] | (simp only [i64_w, i32_w]; rw [c19b0]) | skip)
              by_cases c29 : a0 ≤ 0
              · rw [if_pos c29] at H
                have c29b0 : decide (a0 ≤ 0) = true := decide_eq_true c29
                clear c29
                by_cases c30 : a1 ≤ 0
                · rw [if_pos c30] at H
                  have c30b0 : decide (a1 ≤ 0) = true := decide_eq_true c30
                  clear c30
                  by_cases c31 : t106 > a0
                  · rw [if_pos c31] at H
                    have c31b0 : decide (a0 < t106) = true := decide_eq_true c31
                    clear c31
                    have H' := Aside0.mk H
                    clear H
                    go_wp2
                    go_meet
                    case rel => exact ⟨_, (true), (by first | rfl | (simp; done) | (simp [*]; done)), H', ⟨by have := HJ6.out; first | omega | exact Nat.le_refl _⟩, by repeat (first | exact Drawn0.refl _ | apply Drawn0.step)⟩
                  · rw [if_neg c31] at H
                    have c31b0 : decide (a0 < t106) = false := decide_eq_false c31
                    clear c31
                    have H' := Aside0.mk H
                    clear H
                    go_wp2
                    go_meet
                    case rel => exact ⟨_, (decide (t106 > a1)), (by first | rfl | (simp; done) | (simp [*]; done)), H', ⟨by have := HJ6.out; first | omega | exact Nat.le_refl _⟩, by repeat (first | exact Drawn0.refl _ | apply Drawn0.step)⟩
                · rw [if_neg c30] at H
                  have c30b0 : decide (a1 ≤ 0) = false := decide_eq_false c30
                  clear c30
                  have H' := Aside0.mk H
                  clear H
                  go_wp2
                  go_meet
                  case rel => exact ⟨_, (false), (by first | rfl | (simp; done) | (simp [*]; done)), H', ⟨by have := HJ6.out; first | omega | exact Nat.le_refl _⟩, by repeat (first | exact Drawn0.refl _ | apply Drawn0.step)⟩
              · rw [if_neg c29] at H
                have c29b0 : decide (a0 ≤ 0) = false := decide_eq_false c29
                clear c29
                have H' := Aside0.mk H
                clear H
                go_wp2
                go_meet
                case rel => exact ⟨_, (false), (by first | rfl | (simp; done) | (simp [*]; done)), H', ⟨by have := HJ6.out; first | omega | exact Nat.le_refl _⟩, by repeat (first | exact Drawn0.refl _ | apply Drawn0.step)⟩
          case rest =>
            clear HC18
            try clear c1
            try clear c2
            try clear p2
            try clear c3
            try clear c4
            try clear c6
            try clear c8
            try clear c9
            try clear c9b0
            try clear c9b1
            try clear c11
            try clear c11b0
            try clear c11b1
            try clear c13
            try clear c13b0
            try clear c13b1
            try clear c15
            try clear c15b0
            try clear c15b1
            try clear c17
            try clear c19
            try clear c19b0
            try clear c20
            try clear c20b0
            try clear c21
            try clear c21b0
            try clear c22
            try clear c22b0
            try clear c23
            try clear c23b0
            try clear c24
            try clear c24b0
            try clear c25
            try clear c25b0
            try clear c26
            try clear c26b0
            try clear c27
            try clear c27b0
            try clear c28
            try clear c28b0
            try clear c29
            try clear c29b0
            try clear c30
            try clear c30b0
            try clear c31
            try clear c31b0
            try clear p2
            obtain ⟨kq, x82_17, rfl, HA, HJ17, ⟨mc17, rfl⟩⟩ := hcut
            cases kq with
            | zero => exact absurd HA.out (by simp [dynamolaw1_FixedBounds.j1])
            | succ kj17 =>
              have H := HA.out
              clear HA
              simp only [dynamolaw1_FixedBounds.j1] at H
              by_cases c32 : x82_17 = true
              · subst c32
                have H1 : (some false) = some true := by first | (rw [if_pos rfl] at H; exact H) | exact H | rfl
                clear H
                have H := H1
                clear H1
                exact absurd H (by simp)
              · replace c32 := Bool.eq_false_iff.mpr c32
                subst c32
                have H1 : (if true = true then ((fixed_Abs.f kj17 a0).bind fun t113 => ((fixed_Add.f kj17 9223372036854775807 t113).bind fun t114 => (if t114 = 9223372036854775807 then ((fixed_Abs.f kj17 a0).bind fun t115 => ((fixed_Sub.f kj17 (-9223372036854775808) t115).bind fun t116 => (if t116 = (-9223372036854775808) then ((fixed_Abs.f kj17 (-9223372036854775808)).bind fun t117 => (if t117 = 9223372036854775807 then ((fixed_Mul.f kj17 (-9223372036854775808) (-1)).bind fun t118 => (if t118 = 9223372036854775807 then ((fixed_Abs.f kj17 a0).bind fun t119 => (if t119 ≥ 0 then ((fixed_Mul.f kj17 9223372036854775807 2).bind fun t120 => (if t120 = 9223372036854775807 then ((fixed_Mul.f kj17 9223372036854775807 (-2)).bind fun t121 => (some (t121 == (-9223372036854775808)))) else (some false))) else (some false))) else (some false))) else (some false))) else (some false)))) else (some false)))) else (some false)) = some true := by first | (rw [if_neg (show ¬ (false = true) by decide)] at H; exact H) | exact H | rfl
                clear H
                have H := H1
                clear H1
                have H1 : ((fixed_Abs.f kj17 a0).bind fun t113 => ((fixed_Add.f kj17 9223372036854775807 t113).bind fun t114 => (if t114 = 9223372036854775807 then ((fixed_Abs.f kj17 a0).bind fun t115 => ((fixed_Sub.f kj17 (-9223372036854775808) t115).bind fun t116 => (if t116 = (-9223372036854775808) then ((fixed_Abs.f kj17 (-9223372036854775808)).bind fun t117 => (if t117 = 9223372036854775807 then ((fixed_Mul.f kj17 (-9223372036854775808) (-1)).bind fun t118 => (if t118 = 9223372036854775807 then ((fixed_Abs.f kj17 a0).bind fun t119 => (if t119 ≥ 0 then ((fixed_Mul.f kj17 9223372036854775807 2).bind fun t120 => (if t120 = 9223372036854775807 then ((fixed_Mul.f kj17 9223372036854775807 (-2)).bind fun t121 => (some (t121 == (-9223372036854775808)))) else (some false))) else (some false))) else (some false))) else (some false))) else (some false)))) else (some false)))) = some true := by first | (with_reducible exact H) | (rw [if_pos rfl] at H; exact H) | exact H | rfl
                clear H
                have H := H1
                clear H1
                replace H := Option.bind_eq_some_iff.mp H
                obtain ⟨t113, A330, H⟩ := H
                replace H : ((fixed_Add.f kj17 9223372036854775807 t113).bind fun t114 => (if t114 = 9223372036854775807 then ((fixed_Abs.f kj17 a0).bind fun t115 => ((fixed_Sub.f kj17 (-9223372036854775808) t115).bind fun t116 => (if t116 = (-9223372036854775808) then ((fixed_Abs.f kj17 (-9223372036854775808)).bind fun t117 => (if t117 = 9223372036854775807 then ((fixed_Mul.f kj17 (-9223372036854775808) (-1)).bind fun t118 => (if t118 = 9223372036854775807 then ((fixed_Abs.f kj17 a0).bind fun t119 => (if t119 ≥ 0 then ((fixed_Mul.f kj17 9223372036854775807 2).bind fun t120 => (if t120 = 9223372036854775807 then ((fixed_Mul.f kj17 9223372036854775807 (-2)).bind fun t121 => (some (t121 == (-9223372036854775808)))) else (some false))) else (some false))) else (some false))) else (some false))) else (some false)))) else (some false))) = some true := H
                have A33 := Aside0.mk A330
                clear A330
                replace H := Option.bind_eq_some_iff.mp H
                obtain ⟨t114, A340, H⟩ := H
                replace H : (if t114 = 9223372036854775807 then ((fixed_Abs.f kj17 a0).bind fun t115 => ((fixed_Sub.f kj17 (-9223372036854775808) t115).bind fun t116 => (if t116 = (-9223372036854775808) then ((fixed_Abs.f kj17 (-9223372036854775808)).bind fun t117 => (if t117 = 9223372036854775807 then ((fixed_Mul.f kj17 (-9223372036854775808) (-1)).bind fun t118 => (if t118 = 9223372036854775807 then ((fixed_Abs.f kj17 a0).bind fun t119 => (if t119 ≥ 0 then ((fixed_Mul.f kj17 9223372036854775807 2).bind fun t120 => (if t120 = 9223372036854775807 then ((fixed_Mul.f kj17 9223372036854775807 (-2)).bind fun t121 => (some (t121 == (-9223372036854775808)))) else (some false))) else (some false))) else (some false))) else (some false))) else (some false)))) else (some false)) = some true := H
                have A34 := Aside0.mk A340
                clear A340
                by_cases c35 : t114 = 9223372036854775807
                · rw [if_pos c35] at H
                  have c35b0 : (t114 == 9223372036854775807) = true := beq_iff_eq.mpr c35
                  have c35b1 : (t114 != 9223372036854775807) = false := bne_eq_false_iff_eq.mpr c35
                  clear c35
                  replace H := Option.bind_eq_some_iff.mp H
                  obtain ⟨t115, A360, H⟩ := H
                  have A361 := Option.some.inj (A33.out.symm.trans A360)
                  clear A360
                  obtain rfl : t113 = t115 := A361
                  replace H : ((fixed_Sub.f kj17 (-9223372036854775808) t113).bind fun t116 => (if t116 = (-9223372036854775808) then ((fixed_Abs.f kj17 (-9223372036854775808)).bind fun t117 => (if t117 = 9223372036854775807 then ((fixed_Mul.f kj17 (-9223372036854775808) (-1)).bind fun t118 => (if t118 = 9223372036854775807 then ((fixed_Abs.f kj17 a0).bind fun t119 => (if t119 ≥ 0 then ((fixed_Mul.f kj17 9223372036854775807 2).bind fun t120 => (if t120 = 9223372036854775807 then ((fixed_Mul.f kj17 9223372036854775807 (-2)).bind fun t121 => (some (t121 == (-9223372036854775808)))) else (some false))) else (some false))) else (some false))) else (some false))) else (some false))) = some true := H
                  replace H := Option.bind_eq_some_iff.mp H
                  obtain ⟨t116, A370, H⟩ := H
                  replace H : (if t116 = (-9223372036854775808) then ((fixed_Abs.f kj17 (-9223372036854775808)).bind fun t117 => (if t117 = 9223372036854775807 then ((fixed_Mul.f kj17 (-9223372036854775808) (-1)).bind fun t118 => (if t118 = 9223372036854775807 then ((fixed_Abs.f kj17 a0).bind fun t119 => (if t119 ≥ 0 then ((fixed_Mul.f kj17 9223372036854775807 2).bind fun t120 => (if t120 = 9223372036854775807 then ((fixed_Mul.f kj17 9223372036854775807 (-2)).bind fun t121 => (some (t121 == (-9223372036854775808)))) else (some false))) else (some false))) else (some false))) else (some false))) else (some false)) = some true := H
                  have A37 := Aside0.mk A370
                  clear A370
                  by_cases c38 : t116 = (-9223372036854775808)
                  · rw [if_pos c38] at H
                    have c38b0 : (t116 == (-9223372036854775808)) = true := beq_iff_eq.mpr c38
                    have c38b1 : (t116 != (-9223372036854775808)) = false := bne_eq_false_iff_eq.mpr c38
                    clear c38
                    replace H := Option.bind_eq_some_iff.mp H
                    obtain ⟨t117, A390, H⟩ := H
                    replace H : (if t117 = 9223372036854775807 then ((fixed_Mul.f kj17 (-9223372036854775808) (-1)).bind fun t118 => (if t118 = 9223372036854775807 then ((fixed_Abs.f kj17 a0).bind fun t119 => (if t119 ≥ 0 then ((fixed_Mul.f kj17 9223372036854775807 2).bind fun t120 => (if t120 = 9223372036854775807 then ((fixed_Mul.f kj17 9223372036854775807 (-2)).bind fun t121 => (some (t121 == (-9223372036854775808)))) else (some false))) else (some false))) else (some false))) else (some false)) = some true := H
                    have A39 := Aside0.mk A390
                    clear A390
                    by_cases c40 : t117 = 9223372036854775807
                    · rw [if_pos c40] at H
                      have c40b0 : (t117 == 9223372036854775807) = true := beq_iff_eq.mpr c40
                      have c40b1 : (t117 != 9223372036854775807) = false := bne_eq_false_iff_eq.mpr c40
                      clear c40
                      replace H := Option.bind_eq_some_iff.mp H
                      obtain ⟨t118, A410, H⟩ := H
                      replace H : (if t118 = 9223372036854775807 then ((fixed_Abs.f kj17 a0).bind fun t119 => (if t119 ≥ 0 then ((fixed_Mul.f kj17 9223372036854775807 2).bind fun t120 => (if t120 = 9223372036854775807 then ((fixed_Mul.f kj17 9223372036854775807 (-2)).bind fun t121 => (some (t121 == (-9223372036854775808)))) else (some false))) else (some false))) else (some false)) = some true := H
                      have A41 := Aside0.mk A410
                      clear A410
                      by_cases c42 : t118 = 9223372036854775807
                      · rw [if_pos c42] at H
                        have c42b0 : (t118 == 9223372036854775807) = true := beq_iff_eq.mpr c42
                        have c42b1 : (t118 != 9223372036854775807) = false := bne_eq_false_iff_eq.mpr c42
                        clear c42
                        replace H := Option.bind_eq_some_iff.mp H
                        obtain ⟨t119, A430, H⟩ := H
                        have A431 := Option.some.inj (A33.out.symm.trans A430)
                        clear A430
                        obtain rfl : t113 = t119 := A431
                        replace H : (if t113 ≥ 0 then ((fixed_Mul.f kj17 9223372036854775807 2).bind fun t120 => (if t120 = 9223372036854775807 then ((fixed_Mul.f kj17 9223372036854775807 (-2)).bind fun t121 => (some (t121 == (-9223372036854775808)))) else (some false))) else (some false)) = some true := H
                        by_cases c44 : t113 ≥ 0
                        · rw [if_pos c44] at H
                          have c44b0 : decide (0 ≤ t113) = true := decide_eq_true c44
                          clear c44
                          replace H := Option.bind_eq_some_iff.mp H
                          obtain ⟨t120, A450, H⟩ := H
                          replace H : (if t120 = 9223372036854775807 then ((fixed_Mul.f kj17 9223372036854775807 (-2)).bind fun t121 => (some (t121 == (-9223372036854775808)))) else (some false)) = some true := H
                          have A45 := Aside0.mk A450
                          clear A450
                          by_cases c46 : t120 = 9223372036854775807
                          · rw [if_pos c46] at H
                            have c46b0 : (t120 == 9223372036854775807) = true := beq_iff_eq.mpr c46
                            have c46b1 : (t120 != 9223372036854775807) = false := bne_eq_false_iff_eq.mpr c46
                            clear c46
                            replace H := Option.bind_eq_some_iff.mp H
                            obtain ⟨t121, A470, H⟩ := H
                            replace H : (some (t121 == (-9223372036854775808))) = some true := H
                            have A47 := Aside0.mk A470
                            clear A470
                            have HLAST := Aside0.mk (Option.some.inj H)
                            clear H
                            go_wp2_with (first | (go_at_call 28; (with_reducible refine (fixed_Abs.calls kj17 a0 t113 _ A33.out).mono ?_); rintro e w' ⟨rfl, ⟨nd, rfl⟩⟩) | (go_at_call 25; (with_reducible refine (fixed_Add.calls kj17 9223372036854775807 t113 t114 _ A34.out).mono ?_); rintro e w' ⟨rfl, ⟨nd, rfl⟩⟩) | (go_at_call 26; (with_reducible refine (fixed_Sub.calls kj17 (-9223372036854775808) t113 t116 _ A37.out).mono ?_); rintro e w' ⟨rfl, ⟨nd, rfl⟩⟩) | (go_at_call 28; (with_reducible refine (fixed_Abs.calls kj17 (-9223372036854775808) t117 _ A39.out).mono ?_); rintro e w' ⟨rfl, ⟨nd, rfl⟩⟩) | (go_at_call 27; (with_reducible refine (fixed_Mul.calls kj17 (-9223372036854775808) (-1) t118 _ A41.out).mono ?_); rintro e w' ⟨rfl, ⟨nd, rfl⟩⟩) | (go_at_call 27; (with_reducible refine (fixed_Mul.calls kj17 9223372036854775807 2 t120 _ A45.out).mono ?_); rintro e w' ⟨rfl, ⟨nd, rfl⟩⟩) | (go_at_call 27; (with_reducible refine (fixed_Mul.calls kj17 9223372036854775807 (-2) t121 _ A47.out).mono ?_); rintro e w' ⟨rfl, ⟨nd, rfl⟩⟩))
                            all_goals (try go_ret)
                            all_goals first | (exfalso; simp_all; done) | exact ⟨by first | rfl | (rw [HLAST.out]; done) | (simp [HLAST.out]; done) | (have HL_ := HLAST.out; simp_all; done) | (simp; done) | (simp [*]; done), by repeat (first | exact Drawn0.refl _ | apply Drawn0.step)⟩
                          · rw [if_neg c46] at H
                            have c46b0 : (t120 == 9223372036854775807) = false := beq_eq_false_iff_ne.mpr c46
                            have c46b1 : (t120 != 9223372036854775807) = true := bne_iff_ne.mpr c46
                            exact absurd H (by simp)
                        · rw [if_neg c44] at H
                          have c44b0 : decide (0 ≤ t113) = false := decide_eq_false c44
                          clear c44
                          exact absurd H (by simp)
                      · rw [if_neg c42] at H
                        have c42b0 : (t118 == 9223372036854775807) = false := beq_eq_false_iff_ne.mpr c42
                        have c42b1 : (t118 != 9223372036854775807) = true := bne_iff_ne.mpr c42
                        exact absurd H (by simp)
                    · rw [if_neg c40] at H
                      have c40b0 : (t117 == 9223372036854775807) = false := beq_eq_false_iff_ne.mpr c40
                      have c40b1 : (t117 != 9223372036854775807) = true := bne_iff_ne.mpr c40
                      exact absurd H (by simp)
                  · rw [if_neg c38] at H
                    have c38b0 : (t116 == (-9223372036854775808)) = false := beq_eq_false_iff_ne.mpr c38
                    have c38b1 : (t116 != (-9223372036854775808)) = true := bne_iff_ne.mpr c38
                    exact absurd H (by simp)
                · rw [if_neg c35] at H
                  have c35b0 : (t114 == 9223372036854775807) = false := beq_eq_false_iff_ne.mpr c35
                  have c35b1 : (t114 != 9223372036854775807) = true := bne_iff_ne.mpr c35
                  exact absurd H (by simp)
  · replace c4 := Bool.eq_false_iff.mpr c4
    subst c4
    have H1 : (some false) = some true := by first | (rw [if_neg (show ¬ (false = true) by decide)] at H; exact H) | exact H | rfl
    clear H
    have H := H1
    clear H1
    exact absurd H (by simp)

/-- THE ONE PURE STATEMENT of dynamolaw1_FixedBounds: yours. -/
def dynamolaw1_FixedBounds.Pure : Prop := ∀ (a0 : Int) (a1 : Int), (Lit.int .i64 a0).wf = true → (Lit.int .i64 a1).wf = true → ∃ k, dynamolaw1_FixedBounds.f k a0 a1 = some true
theorem dynamolaw1_FixedBounds.walk (P : dynamolaw1_FixedBounds.Pure) (a0 : Int) (a1 : Int) (w : World) (w0 : (Lit.int .i64 a0).wf = true) (w1 : (Lit.int .i64 a1).wf = true) :
    Calls Try.prog 8 #[.int .i64 a0, .int .i64 a1] w fun e w' => e = .returned (.bool true) ∧ Below w.heap.size w w' := by
  obtain ⟨k, h⟩ := P a0 a1 w0 w1
  refine (dynamolaw1_FixedBounds.calls k a0 a1 w h).mono ?_
  rintro e w' ⟨rfl, hd⟩
  exact ⟨rfl, hd.below⟩

end Go.Proofs.Ytjecaenloilkcaa.PFixedBounds
