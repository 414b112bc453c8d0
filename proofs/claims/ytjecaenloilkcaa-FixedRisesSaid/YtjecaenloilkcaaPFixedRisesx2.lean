-- written by this work with wip/mkprint2.py
import Derived.Test.YtjecaenloilkcaaPFixedRisesx0
import Derived.Test.YtjecaenloilkcaaPFixedRisesx1
namespace Go.Proofs.Ytjecaenloilkcaa.PFixedRises
open Go.RowKit Go.Proofs.YtjecaenloilkcaaW.PrintWords Go.Proofs.YtjecaenloilkcaaW.PrintLast Go.Proofs.YtjecaenloilkcaaW.PrintMore
attribute [local go_sem] max2_int min2_int max_two min_two max_three min_three max_four min_four   -- for this text's walks alone
set_option linter.unusedVariables false
set_option linter.unusedSimpArgs false

/-! ### dynamolaw1_FixedRises: function 7 -/
def dynamolaw1_FixedRises.j0 : Nat → Int → Int → Int → Bool → Option (Bool)
  | 0, _, _, _, _ => none
  | k + 1, x0, x1, x2, x7 => if x7 = true then ((fixed_Add.f k x0 x2).bind fun t105 => ((fixed_Add.f k x1 x2).bind fun t106 => (if t105 ≤ t106 then ((fixed_Sub.f k x0 x2).bind fun t107 => ((fixed_Sub.f k x1 x2).bind fun t108 => (if t107 ≤ t108 then ((fixed_Down.f x0 x2).bind fun t109 => ((fixed_Down.f x1 x2).bind fun t110 => (if t109 ≤ t110 then ((fixed_Up.f x0 x2).bind fun t111 => ((fixed_Up.f x1 x2).bind fun t112 => (if t111 ≤ t112 then (if x2 < 0 then (if x2 > 0 then (some true) else ((fixed_Mul.f k x0 x2).bind fun t113 => ((fixed_Mul.f k x1 x2).bind fun t114 => (some (decide (t113 ≥ t114)))))) else ((fixed_Mul.f k x0 x2).bind fun t115 => ((fixed_Mul.f k x1 x2).bind fun t116 => (if t115 ≤ t116 then (if x2 > 0 then (some true) else ((fixed_Mul.f k x0 x2).bind fun t117 => ((fixed_Mul.f k x1 x2).bind fun t118 => (some (decide (t117 ≥ t118)))))) else (some false))))) else (some false)))) else (some false)))) else (some false)))) else (some false)))) else (some false)
def dynamolaw1_FixedRises.f (k : Nat) (a0 : Int) (a1 : Int) (a2 : Int) : Option (Bool) := (dynamolaw1_first.f k).bind fun t104 => (if t104 = true then (if a0 > a1 then (dynamolaw1_FixedRises.j0 k a1 a0 a2 t104) else (dynamolaw1_FixedRises.j0 k a0 a1 a2 t104)) else (some false))
theorem dynamolaw1_FixedRises.mono_l : ∀ k, (∀ y0 y1 y2 y3, LeO (dynamolaw1_FixedRises.j0 k y0 y1 y2 y3) (dynamolaw1_FixedRises.j0 (k + 1) y0 y1 y2 y3))
  | 0 => fun _ _ _ _ r h => by simp [dynamolaw1_FixedRises.j0] at h
  | k + 1 => by
    have ih0 := dynamolaw1_FixedRises.mono_l k
    · intro y0 y1 y2 y3
      unfold dynamolaw1_FixedRises.j0
      repeat' first
      | (with_reducible exact ih0 _ _ _ _)
      | (with_reducible exact dynamolaw1_first.mono _)
      | (with_reducible exact fixed_Add.mono _ _ _)
      | (with_reducible exact fixed_Mul.mono _ _ _)
      | (with_reducible exact fixed_Sub.mono _ _ _)
      | (with_reducible exact LeO.refl _)
      | (with_reducible exact LeO.none _)
      | (with_reducible refine LeO.ite ?_ ?_)
      | (with_reducible refine LeO.bind ?_ (fun _ => ?_))
      | exact ih0 _ _ _ _
      | exact dynamolaw1_first.mono _
      | exact fixed_Add.mono _ _ _
      | exact fixed_Mul.mono _ _ _
      | exact fixed_Sub.mono _ _ _
      | exact LeO.none _
      | refine LeO.ite ?_ ?_
      | refine LeO.bind ?_ (fun _ => ?_)
theorem dynamolaw1_FixedRises.mono : ∀ a0 a1 a2 k, LeO (dynamolaw1_FixedRises.f k a0 a1 a2) (dynamolaw1_FixedRises.f (k + 1) a0 a1 a2) := by
  intro a0 a1 a2 k
  have ih0 := dynamolaw1_FixedRises.mono_l k
  unfold dynamolaw1_FixedRises.f
  repeat' first
      | (with_reducible exact ih0 _ _ _ _)
      | (with_reducible exact dynamolaw1_first.mono _)
      | (with_reducible exact fixed_Add.mono _ _ _)
      | (with_reducible exact fixed_Mul.mono _ _ _)
      | (with_reducible exact fixed_Sub.mono _ _ _)
      | (with_reducible exact LeO.refl _)
      | (with_reducible exact LeO.none _)
      | (with_reducible refine LeO.ite ?_ ?_)
      | (with_reducible refine LeO.bind ?_ (fun _ => ?_))
      | exact ih0 _ _ _ _
      | exact dynamolaw1_first.mono _
      | exact fixed_Add.mono _ _ _
      | exact fixed_Mul.mono _ _ _
      | exact fixed_Sub.mono _ _ _
      | exact LeO.none _
      | refine LeO.ite ?_ ?_
      | refine LeO.bind ?_ (fun _ => ?_)
set_option maxHeartbeats 8000000 in
set_option maxRecDepth 100000 in
theorem dynamolaw1_FixedRises.calls (k : Nat) (a0 : Int) (a1 : Int) (a2 : Int) (w : World) (h : dynamolaw1_FixedRises.f k a0 a1 a2 = some true) :
    Calls Try.prog 7 #[.int .i64 a0, .int .i64 a1, .int .i64 a2] w fun e w' => e = .returned (.bool true) ∧ Drawn0 w w' := by
  have H : ((dynamolaw1_first.f k).bind fun t104 => (if t104 = true then (if a0 > a1 then (dynamolaw1_FixedRises.j0 k a1 a0 a2 t104) else (dynamolaw1_FixedRises.j0 k a0 a1 a2 t104)) else (some false))) = some true := h
  clear h
  replace H := Option.bind_eq_some_iff.mp H
  obtain ⟨t104, A40, H⟩ := H
  replace H : (if t104 = true then (if a0 > a1 then (dynamolaw1_FixedRises.j0 k a1 a0 a2 t104) else (dynamolaw1_FixedRises.j0 k a0 a1 a2 t104)) else (some false)) = some true := H
  have A4 := Aside0.mk A40
  clear A40
  by_cases c5 : t104 = true
  · subst c5
    have H1 : (if a0 > a1 then (dynamolaw1_FixedRises.j0 k a1 a0 a2 true) else (dynamolaw1_FixedRises.j0 k a0 a1 a2 true)) = some true := by first | (rw [if_pos rfl] at H; exact H) | exact H | rfl
    clear H
    have H := H1
    clear H1
    have HC6 := Aside0.mk H
    clear H
    go_enter Try.func7, Try.ntmps7
    go_upto_if 13 with (first | ((with_reducible refine gate_callee (f := 19) rfl ?_); refine goesL_ (some 8) rfl rfl Try.func19 (by kernel_rfl) rfl #[] rfl (by (try simp only [List.map_toArray, List.map_cons, List.map_nil]); first | done | rfl | (simp only [List.length_drop, List.length_take]; rfl)) ?_; (with_reducible refine (dynamolaw1_first.calls k  true _ A4.out).mono ?_); rintro e w' ⟨rfl, ⟨nd, rfl⟩⟩; refine ⟨_, rfl, ?_⟩))
    (try simp only [Act.put, List.setIfInBounds_toArray, List.set_cons_zero, List.set_cons_succ])
    go_cut [0, 1] (fun v0 v1 wc => ∃ (kq : Nat) (x0_5 : Int) (x1_5 : Int), v0 = .int .i64 x0_5 ∧ v1 = .int .i64 x1_5 ∧ Aside0 (dynamolaw1_FixedRises.j0 kq x0_5 x1_5 a2 true = some true) ∧ Aside0 (kq ≤ k) ∧ Drawn0 w wc)
    case first =>
      have H := HC6.out
      clear HC6
      by_cases c7 : a0 > a1
      · rw [if_pos c7] at H
        have c7b0 : decide (a1 < a0) = true := decide_eq_true c7
        clear c7
        (first | rw [c7b0] | (simp only [i64_w, i32_w]; rw [c7b0]) | skip)
        have H' := Aside0.mk H
        clear H
        go_wp2
        go_meet
        case rel => exact ⟨_, (a1), (a0), (by first | rfl | (simp; done) | (simp [*]; done)), (by first | rfl | (simp; done) | (simp [*]; done)), H', ⟨by first | omega | exact Nat.le_refl _⟩, by repeat (first | exact Drawn0.refl _ | apply Drawn0.step)⟩
      · rw [if_neg c7] at H
        have c7b0 : decide (a1 < a0) = false := decide_eq_false c7
        clear c7
        (first | rw [c7b0] | (simp only [i64_w, i32_w]; rw [c7b0]) | skip)
        have H' := Aside0.mk H
        clear H
        go_wp2
        go_meet
        case rel => exact ⟨_, (a0), (a1), (by first | rfl | (simp; done) | (simp [*]; done)), (by first | rfl | (simp; done) | (simp [*]; done)), H', ⟨by first | omega | exact Nat.le_refl _⟩, by repeat (first | exact Drawn0.refl _ | apply Drawn0.step)⟩
    case rest =>
      clear HC6
      try clear c1
      try clear p2
      try clear c5
      try clear c7
      try clear c7b0
      obtain ⟨kq, x0_5, x1_5, rfl, rfl, HA, HJ5, ⟨mc5, rfl⟩⟩ := hcut
      cases kq with
      | zero => exact absurd HA.out (by simp [dynamolaw1_FixedRises.j0])
      | succ kj5 =>
        have H := HA.out
        clear HA
        simp only [dynamolaw1_FixedRises.j0] at H
        have H1 : ((fixed_Add.f kj5 x0_5 a2).bind fun t105 => ((fixed_Add.f kj5 x1_5 a2).bind fun t106 => (if t105 ≤ t106 then ((fixed_Sub.f kj5 x0_5 a2).bind fun t107 => ((fixed_Sub.f kj5 x1_5 a2).bind fun t108 => (if t107 ≤ t108 then ((fixed_Down.f x0_5 a2).bind fun t109 => ((fixed_Down.f x1_5 a2).bind fun t110 => (if t109 ≤ t110 then ((fixed_Up.f x0_5 a2).bind fun t111 => ((fixed_Up.f x1_5 a2).bind fun t112 => (if t111 ≤ t112 then (if a2 < 0 then (if a2 > 0 then (some true) else ((fixed_Mul.f kj5 x0_5 a2).bind fun t113 => ((fixed_Mul.f kj5 x1_5 a2).bind fun t114 => (some (decide (t113 ≥ t114)))))) else ((fixed_Mul.f kj5 x0_5 a2).bind fun t115 => ((fixed_Mul.f kj5 x1_5 a2).bind fun t116 => (if t115 ≤ t116 then (if a2 > 0 then (some true) else ((fixed_Mul.f kj5 x0_5 a2).bind fun t117 => ((fixed_Mul.f kj5 x1_5 a2).bind fun t118 => (some (decide (t117 ≥ t118)))))) else (some false))))) else (some false)))) else (some false)))) else (some false)))) else (some false)))) = some true := by first | (with_reducible exact H) | (rw [if_pos rfl] at H; exact H) | exact H | rfl
        clear H
        have H := H1
        clear H1
        replace H := Option.bind_eq_some_iff.mp H
        obtain ⟨t105, A80, H⟩ := H
        replace H : ((fixed_Add.f kj5 x1_5 a2).bind fun t106 => (if t105 ≤ t106 then ((fixed_Sub.f kj5 x0_5 a2).bind fun t107 => ((fixed_Sub.f kj5 x1_5 a2).bind fun t108 => (if t107 ≤ t108 then ((fixed_Down.f x0_5 a2).bind fun t109 => ((fixed_Down.f x1_5 a2).bind fun t110 => (if t109 ≤ t110 then ((fixed_Up.f x0_5 a2).bind fun t111 => ((fixed_Up.f x1_5 a2).bind fun t112 => (if t111 ≤ t112 then (if a2 < 0 then (if a2 > 0 then (some true) else ((fixed_Mul.f kj5 x0_5 a2).bind fun t113 => ((fixed_Mul.f kj5 x1_5 a2).bind fun t114 => (some (decide (t113 ≥ t114)))))) else ((fixed_Mul.f kj5 x0_5 a2).bind fun t115 => ((fixed_Mul.f kj5 x1_5 a2).bind fun t116 => (if t115 ≤ t116 then (if a2 > 0 then (some true) else ((fixed_Mul.f kj5 x0_5 a2).bind fun t117 => ((fixed_Mul.f kj5 x1_5 a2).bind fun t118 => (some (decide (t117 ≥ t118)))))) else (some false))))) else (some false)))) else (some false)))) else (some false)))) else (some false))) = some true := H
        have A8 := Aside0.mk A80
        clear A80
        replace H := Option.bind_eq_some_iff.mp H
        obtain ⟨t106, A90, H⟩ := H
        replace H : (if t105 ≤ t106 then ((fixed_Sub.f kj5 x0_5 a2).bind fun t107 => ((fixed_Sub.f kj5 x1_5 a2).bind fun t108 => (if t107 ≤ t108 then ((fixed_Down.f x0_5 a2).bind fun t109 => ((fixed_Down.f x1_5 a2).bind fun t110 => (if t109 ≤ t110 then ((fixed_Up.f x0_5 a2).bind fun t111 => ((fixed_Up.f x1_5 a2).bind fun t112 => (if t111 ≤ t112 then (if a2 < 0 then (if a2 > 0 then (some true) else ((fixed_Mul.f kj5 x0_5 a2).bind fun t113 => ((fixed_Mul.f kj5 x1_5 a2).bind fun t114 => (some (decide (t113 ≥ t114)))))) else ((fixed_Mul.f kj5 x0_5 a2).bind fun t115 => ((fixed_Mul.f kj5 x1_5 a2).bind fun t116 => (if t115 ≤ t116 then (if a2 > 0 then (some true) else ((fixed_Mul.f kj5 x0_5 a2).bind fun t117 => ((fixed_Mul.f kj5 x1_5 a2).bind fun t118 => (some (decide (t117 ≥ t118)))))) else (some false))))) else (some false)))) else (some false)))) else (some false)))) else (some false)) = some true := H
        have A9 := Aside0.mk A90
        clear A90
        by_cases c10 : t105 ≤ t106
        · rw [if_pos c10] at H
          have c10b0 : decide (t105 ≤ t106) = true := decide_eq_true c10
          clear c10
          replace H := Option.bind_eq_some_iff.mp H
          obtain ⟨t107, A110, H⟩ := H
          replace H : ((fixed_Sub.f kj5 x1_5 a2).bind fun t108 => (if t107 ≤ t108 then ((fixed_Down.f x0_5 a2).bind fun t109 => ((fixed_Down.f x1_5 a2).bind fun t110 => (if t109 ≤ t110 then ((fixed_Up.f x0_5 a2).bind fun t111 => ((fixed_Up.f x1_5 a2).bind fun t112 => (if t111 ≤ t112 then (if a2 < 0 then (if a2 > 0 then (some true) else ((fixed_Mul.f kj5 x0_5 a2).bind fun t113 => ((fixed_Mul.f kj5 x1_5 a2).bind fun t114 => (some (decide (t113 ≥ t114)))))) else ((fixed_Mul.f kj5 x0_5 a2).bind fun t115 => ((fixed_Mul.f kj5 x1_5 a2).bind fun t116 => (if t115 ≤ t116 then (if a2 > 0 then (some true) else ((fixed_Mul.f kj5 x0_5 a2).bind fun t117 => ((fixed_Mul.f kj5 x1_5 a2).bind fun t118 => (some (decide (t117 ≥ t118)))))) else (some false))))) else (some false)))) else (some false)))) else (some false))) = some true := H
          have A11 := Aside0.mk A110
          clear A110
          replace H := Option.bind_eq_some_iff.mp H
          obtain ⟨t108, A120, H⟩ := H
          replace H : (if t107 ≤ t108 then ((fixed_Down.f x0_5 a2).bind fun t109 => ((fixed_Down.f x1_5 a2).bind fun t110 => (if t109 ≤ t110 then ((fixed_Up.f x0_5 a2).bind fun t111 => ((fixed_Up.f x1_5 a2).bind fun t112 => (if t111 ≤ t112 then (if a2 < 0 then (if a2 > 0 then (some true) else ((fixed_Mul.f kj5 x0_5 a2).bind fun t113 => ((fixed_Mul.f kj5 x1_5 a2).bind fun t114 => (some (decide (t113 ≥ t114)))))) else ((fixed_Mul.f kj5 x0_5 a2).bind fun t115 => ((fixed_Mul.f kj5 x1_5 a2).bind fun t116 => (if t115 ≤ t116 then (if a2 > 0 then (some true) else ((fixed_Mul.f kj5 x0_5 a2).bind fun t117 => ((fixed_Mul.f kj5 x1_5 a2).bind fun t118 => (some (decide (t117 ≥ t118)))))) else (some false))))) else (some false)))) else (some false)))) else (some false)) = some true := H
          have A12 := Aside0.mk A120
          clear A120
          by_cases c13 : t107 ≤ t108
          · rw [if_pos c13] at H
            have c13b0 : decide (t107 ≤ t108) = true := decide_eq_true c13
            clear c13
            replace H := Option.bind_eq_some_iff.mp H
            obtain ⟨t109, A140, H⟩ := H
            replace H : ((fixed_Down.f x1_5 a2).bind fun t110 => (if t109 ≤ t110 then ((fixed_Up.f x0_5 a2).bind fun t111 => ((fixed_Up.f x1_5 a2).bind fun t112 => (if t111 ≤ t112 then (if a2 < 0 then (if a2 > 0 then (some true) else ((fixed_Mul.f kj5 x0_5 a2).bind fun t113 => ((fixed_Mul.f kj5 x1_5 a2).bind fun t114 => (some (decide (t113 ≥ t114)))))) else ((fixed_Mul.f kj5 x0_5 a2).bind fun t115 => ((fixed_Mul.f kj5 x1_5 a2).bind fun t116 => (if t115 ≤ t116 then (if a2 > 0 then (some true) else ((fixed_Mul.f kj5 x0_5 a2).bind fun t117 => ((fixed_Mul.f kj5 x1_5 a2).bind fun t118 => (some (decide (t117 ≥ t118)))))) else (some false))))) else (some false)))) else (some false))) = some true := H
            have A14 := Aside0.mk A140
            clear A140
            replace H := Option.bind_eq_some_iff.mp H
            obtain ⟨t110, A150, H⟩ := H
            replace H : (if t109 ≤ t110 then ((fixed_Up.f x0_5 a2).bind fun t111 => ((fixed_Up.f x1_5 a2).bind fun t112 => (if t111 ≤ t112 then (if a2 < 0 then (if a2 > 0 then (some true) else ((fixed_Mul.f kj5 x0_5 a2).bind fun t113 => ((fixed_Mul.f kj5 x1_5 a2).bind fun t114 => (some (decide (t113 ≥ t114)))))) else ((fixed_Mul.f kj5 x0_5 a2).bind fun t115 => ((fixed_Mul.f kj5 x1_5 a2).bind fun t116 => (if t115 ≤ t116 then (if a2 > 0 then (some true) else ((fixed_Mul.f kj5 x0_5 a2).bind fun t117 => ((fixed_Mul.f kj5 x1_5 a2).bind fun t118 => (some (decide (t117 ≥ t118)))))) else (some false))))) else (some false)))) else (some false)) = some true := H
            have A15 := Aside0.mk A150
            clear A150
            by_cases c16 : t109 ≤ t110
            · rw [if_pos c16] at H
              have c16b0 : decide (t109 ≤ t110) = true := decide_eq_true c16
              clear c16
              replace H := Option.bind_eq_some_iff.mp H
              obtain ⟨t111, A170, H⟩ := H
              replace H : ((fixed_Up.f x1_5 a2).bind fun t112 => (if t111 ≤ t112 then (if a2 < 0 then (if a2 > 0 then (some true) else ((fixed_Mul.f kj5 x0_5 a2).bind fun t113 => ((fixed_Mul.f kj5 x1_5 a2).bind fun t114 => (some (decide (t113 ≥ t114)))))) else ((fixed_Mul.f kj5 x0_5 a2).bind fun t115 => ((fixed_Mul.f kj5 x1_5 a2).bind fun t116 => (if t115 ≤ t116 then (if a2 > 0 then (some true) else ((fixed_Mul.f kj5 x0_5 a2).bind fun t117 => ((fixed_Mul.f kj5 x1_5 a2).bind fun t118 => (some (decide (t117 ≥ t118)))))) else (some false))))) else (some false))) = some true := H
              have A17 := Aside0.mk A170
              clear A170
              replace H := Option.bind_eq_some_iff.mp H
              obtain ⟨t112, A180, H⟩ := H
              replace H : (if t111 ≤ t112 then (if a2 < 0 then (if a2 > 0 then (some true) else ((fixed_Mul.f kj5 x0_5 a2).bind fun t113 => ((fixed_Mul.f kj5 x1_5 a2).bind fun t114 => (some (decide (t113 ≥ t114)))))) else ((fixed_Mul.f kj5 x0_5 a2).bind fun t115 => ((fixed_Mul.f kj5 x1_5 a2).bind fun t116 => (if t115 ≤ t116 then (if a2 > 0 then (some true) else ((fixed_Mul.f kj5 x0_5 a2).bind fun t117 => ((fixed_Mul.f kj5 x1_5 a2).bind fun t118 => (some (decide (t117 ≥ t118)))))) else (some false))))) else (some false)) = some true := H
              have A18 := Aside0.mk A180
              clear A180
              by_cases c19 : t111 ≤ t112
              · rw [if_pos c19] at H
                have c19b0 : decide (t111 ≤ t112) = true := decide_eq_true c19
                clear c19
                by_cases c20 : a2 < 0
                · rw [if_pos c20] at H
                  have c20b0 : decide (a2 < 0) = true := decide_eq_true c20
                  clear c20
                  by_cases c21 : a2 > 0
                  · rw [if_pos c21] at H
                    have c21b0 : decide (0 < a2) = true := decide_eq_true c21
                    clear c21
                    have HLAST := Aside0.mk (Option.some.inj H)
                    clear H
                    go_wp2_with (first | (go_at_call 25; (with_reducible refine (fixed_Add.calls kj5 x0_5 a2 t105 _ A8.out).mono ?_); rintro e w' ⟨rfl, ⟨nd, rfl⟩⟩) | (go_at_call 25; (with_reducible refine (fixed_Add.calls kj5 x1_5 a2 t106 _ A9.out).mono ?_); rintro e w' ⟨rfl, ⟨nd, rfl⟩⟩) | (go_at_call 26; (with_reducible refine (fixed_Sub.calls kj5 x0_5 a2 t107 _ A11.out).mono ?_); rintro e w' ⟨rfl, ⟨nd, rfl⟩⟩) | (go_at_call 26; (with_reducible refine (fixed_Sub.calls kj5 x1_5 a2 t108 _ A12.out).mono ?_); rintro e w' ⟨rfl, ⟨nd, rfl⟩⟩) | (go_at_call 20; (with_reducible refine (fixed_Down.calls x0_5 a2 t109 _ A14.out).mono ?_); rintro e w' ⟨rfl, ⟨nd, rfl⟩⟩) | (go_at_call 20; (with_reducible refine (fixed_Down.calls x1_5 a2 t110 _ A15.out).mono ?_); rintro e w' ⟨rfl, ⟨nd, rfl⟩⟩) | (go_at_call 21; (with_reducible refine (fixed_Up.calls x0_5 a2 t111 _ A17.out).mono ?_); rintro e w' ⟨rfl, ⟨nd, rfl⟩⟩) | (go_at_call 21; (with_reducible refine (fixed_Up.calls x1_5 a2 t112 _ A18.out).mono ?_); rintro e w' ⟨rfl, ⟨nd, rfl⟩⟩))
                    all_goals (try go_ret)
                    all_goals first | (exfalso; simp_all; done) | exact ⟨by first | rfl | (rw [HLAST.out]; done) | (simp [HLAST.out]; done) | (have HL_ := HLAST.out; simp_all; done) | (simp; done) | (simp [*]; done), by repeat (first | exact Drawn0.refl _ | apply Drawn0.step)⟩
                  · rw [if_neg c21] at H
                    have c21b0 : decide (0 < a2) = false := decide_eq_false c21
                    clear c21
                    replace H := Option.bind_eq_some_iff.mp H
                    obtain ⟨t113, A220, H⟩ := H
                    replace H : ((fixed_Mul.f kj5 x1_5 a2).bind fun t114 => (some (decide (t113 ≥ t114)))) = some true := H
                    have A22 := Aside0.mk A220
                    clear A220
                    replace H := Option.bind_eq_some_iff.mp H
                    obtain ⟨t114, A230, H⟩ := H
                    replace H : (some (decide (t113 ≥ t114))) = some true := H
                    have A23 := Aside0.mk A230
                    clear A230
                    have HLAST := Aside0.mk (Option.some.inj H)
                    clear H
                    go_wp2_with (first | (go_at_call 25; (with_reducible refine (fixed_Add.calls kj5 x0_5 a2 t105 _ A8.out).mono ?_); rintro e w' ⟨rfl, ⟨nd, rfl⟩⟩) | (go_at_call 25; (with_reducible refine (fixed_Add.calls kj5 x1_5 a2 t106 _ A9.out).mono ?_); rintro e w' ⟨rfl, ⟨nd, rfl⟩⟩) | (go_at_call 26; (with_reducible refine (fixed_Sub.calls kj5 x0_5 a2 t107 _ A11.out).mono ?_); rintro e w' ⟨rfl, ⟨nd, rfl⟩⟩) | (go_at_call 26; (with_reducible refine (fixed_Sub.calls kj5 x1_5 a2 t108 _ A12.out).mono ?_); rintro e w' ⟨rfl, ⟨nd, rfl⟩⟩) | (go_at_call 20; (with_reducible refine (fixed_Down.calls x0_5 a2 t109 _ A14.out).mono ?_); rintro e w' ⟨rfl, ⟨nd, rfl⟩⟩) | (go_at_call 20; (with_reducible refine (fixed_Down.calls x1_5 a2 t110 _ A15.out).mono ?_); rintro e w' ⟨rfl, ⟨nd, rfl⟩⟩) | (go_at_call 21; (with_reducible refine (fixed_Up.calls x0_5 a2 t111 _ A17.out).mono ?_); rintro e w' ⟨rfl, ⟨nd, rfl⟩⟩) | (go_at_call 21; (with_reducible refine (fixed_Up.calls x1_5 a2 t112 _ A18.out).mono ?_); rintro e w' ⟨rfl, ⟨nd, rfl⟩⟩) | (go_at_call 27; (with_reducible refine (fixed_Mul.calls kj5 x0_5 a2 t113 _ A22.out).mono ?_); rintro e w' ⟨rfl, ⟨nd, rfl⟩⟩) | (go_at_call 27; (with_reducible refine (fixed_Mul.calls kj5 x1_5 a2 t114 _ A23.out).mono ?_); rintro e w' ⟨rfl, ⟨nd, rfl⟩⟩))
                    all_goals (try go_ret)
                    all_goals first | (exfalso; simp_all; done) | exact ⟨by first | rfl | (rw [HLAST.out]; done) | (simp [HLAST.out]; done) | (have HL_ := HLAST.out; simp_all; done) | (simp; done) | (simp [*]; done), by repeat (first | exact Drawn0.refl _ | apply Drawn0.step)⟩
                · rw [if_neg c20] at H
                  have c20b0 : decide (a2 < 0) = false := decide_eq_false c20
                  clear c20
                  replace H := Option.bind_eq_some_iff.mp H
                  obtain ⟨t115, A240, H⟩ := H
                  replace H : ((fixed_Mul.f kj5 x1_5 a2).bind fun t116 => (if t115 ≤ t116 then (if a2 > 0 then (some true) else ((fixed_Mul.f kj5 x0_5 a2).bind fun t117 => ((fixed_Mul.f kj5 x1_5 a2).bind fun t118 => (some (decide (t117 ≥ t118)))))) else (some false))) = some true := H
                  have A24 := Aside0.mk A240
                  clear A240
                  replace H := Option.bind_eq_some_iff.mp H
                  obtain ⟨t116, A250, H⟩ := H
                  replace H : (if t115 ≤ t116 then (if a2 > 0 then (some true) else ((fixed_Mul.f kj5 x0_5 a2).bind fun t117 => ((fixed_Mul.f kj5 x1_5 a2).bind fun t118 => (some (decide (t117 ≥ t118)))))) else (some false)) = some true := H
                  have A25 := Aside0.mk A250
                  clear A250
                  by_cases c26 : t115 ≤ t116
                  · rw [if_pos c26] at H
                    have c26b0 : decide (t115 ≤ t116) = true := decide_eq_true c26
                    clear c26
                    by_cases c27 : a2 > 0
                    · rw [if_pos c27] at H
                      have c27b0 : decide (0 < a2) = true := decide_eq_true c27
                      clear c27
                      have HLAST := Aside0.mk (Option.some.inj H)
                      clear H
                      go_wp2_with (first | (go_at_call 25; (with_reducible refine (fixed_Add.calls kj5 x0_5 a2 t105 _ A8.out).mono ?_); rintro e w' ⟨rfl, ⟨nd, rfl⟩⟩) | (go_at_call 25; (with_reducible refine (fixed_Add.calls kj5 x1_5 a2 t106 _ A9.out).mono ?_); rintro e w' ⟨rfl, ⟨nd, rfl⟩⟩) | (go_at_call 26; (with_reducible refine (fixed_Sub.calls kj5 x0_5 a2 t107 _ A11.out).mono ?_); rintro e w' ⟨rfl, ⟨nd, rfl⟩⟩) | (go_at_call 26; (with_reducible refine (fixed_Sub.calls kj5 x1_5 a2 t108 _ A12.out).mono ?_); rintro e w' ⟨rfl, ⟨nd, rfl⟩⟩) | (go_at_call 20; (with_reducible refine (fixed_Down.calls x0_5 a2 t109 _ A14.out).mono ?_); rintro e w' ⟨rfl, ⟨nd, rfl⟩⟩) | (go_at_call 20; (with_reducible refine (fixed_Down.calls x1_5 a2 t110 _ A15.out).mono ?_); rintro e w' ⟨rfl, ⟨nd, rfl⟩⟩) | (go_at_call 21; (with_reducible refine (fixed_Up.calls x0_5 a2 t111 _ A17.out).mono ?_); rintro e w' ⟨rfl, ⟨nd, rfl⟩⟩) | (go_at_call 21; (with_reducible refine (fixed_Up.calls x1_5 a2 t112 _ A18.out).mono ?_); rintro e w' ⟨rfl, ⟨nd, rfl⟩⟩) | (go_at_call 27; (with_reducible refine (fixed_Mul.calls kj5 x0_5 a2 t115 _ A24.out).mono ?_); rintro e w' ⟨rfl, ⟨nd, rfl⟩⟩) | (go_at_call 27; (with_reducible refine (fixed_Mul.calls kj5 x1_5 a2 t116 _ A25.out).mono ?_); rintro e w' ⟨rfl, ⟨nd, rfl⟩⟩))
                      all_goals (try go_ret)
                      all_goals first | (exfalso; simp_all; done) | exact ⟨by first | rfl | (rw [HLAST.out]; done) | (simp [HLAST.out]; done) | (have HL_ := HLAST.out; simp_all; done) | (simp; done) | (simp [*]; done), by repeat (first | exact Drawn0.refl _ | apply Drawn0.step)⟩
                    · rw [if_neg c27] at H
                      have c27b0 : decide (0 < a2) = false := decide_eq_false c27
                      clear c27
                      replace H := Option.bind_eq_some_iff.mp H
                      obtain ⟨t117, A280, H⟩ := H
                      have A281 := Option.some.inj (A24.out.symm.trans A280)
                      clear A280
                      obtain rfl : t115 = t117 := A281
                      replace H : ((fixed_Mul.f kj5 x1_5 a2).bind fun t118 => (some (decide (t115 ≥ t118)))) = some true := H
                      replace H := Option.bind_eq_some_iff.mp H
                      obtain ⟨t118, A290, H⟩ := H
                      have A291 := Option.some.inj (A25.out.symm.trans A290)
                      clear A290
                      obtain rfl : t116 = t118 := A291
                      replace H : (some (decide (t115 ≥ t116))) = some true := H
                      have HLAST := Aside0.mk (Option.some.inj H)
                      clear H
                      go_wp2_with (first | (go_at_call 25; (with_reducible refine (fixed_Add.calls kj5 x0_5 a2 t105 _ A8.out).mono ?_); rintro e w' ⟨rfl, ⟨nd, rfl⟩⟩) | (go_at_call 25; (with_reducible refine (fixed_Add.calls kj5 x1_5 a2 t106 _ A9.out).mono ?_); rintro e w' ⟨rfl, ⟨nd, rfl⟩⟩) | (go_at_call 26; (with_reducible refine (fixed_Sub.calls kj5 x0_5 a2 t107 _ A11.out).mono ?_); rintro e w' ⟨rfl, ⟨nd, rfl⟩⟩) | (go_at_call 26; (with_reducible refine (fixed_Sub.calls kj5 x1_5 a2 t108 _ A12.out).mono ?_); rintro e w' ⟨rfl, ⟨nd, rfl⟩⟩) | (go_at_call 20; (with_reducible refine (fixed_Down.calls x0_5 a2 t109 _ A14.out).mono ?_); rintro e w' ⟨rfl, ⟨nd, rfl⟩⟩) | (go_at_call 20; (with_reducible refine (fixed_Down.calls x1_5 a2 t110 _ A15.out).mono ?_); rintro e w' ⟨rfl, ⟨nd, rfl⟩⟩) | (go_at_call 21; (with_reducible refine (fixed_Up.calls x0_5 a2 t111 _ A17.out).mono ?_); rintro e w' ⟨rfl, ⟨nd, rfl⟩⟩) | (go_at_call 21; (with_reducible refine (fixed_Up.calls x1_5 a2 t112 _ A18.out).mono ?_); rintro e w' ⟨rfl, ⟨nd, rfl⟩⟩) | (go_at_call 27; (with_reducible refine (fixed_Mul.calls kj5 x0_5 a2 t115 _ A24.out).mono ?_); rintro e w' ⟨rfl, ⟨nd, rfl⟩⟩) | (go_at_call 27; (with_reducible refine (fixed_Mul.calls kj5 x1_5 a2 t116 _ A25.out).mono ?_); rintro e w' ⟨rfl, ⟨nd, rfl⟩⟩))
                      all_goals (try go_ret)
                      all_goals first | (exfalso; simp_all; done) | exact ⟨by first | rfl | (rw [HLAST.out]; done) | (simp [HLAST.out]; done) | (have HL_ := HLAST.out; simp_all; done) | (simp; done) | (simp [*]; done), by repeat (first | exact Drawn0.refl _ | apply Drawn0.step)⟩
                  · rw [if_neg c26] at H
                    have c26b0 : decide (t115 ≤ t116) = false := decide_eq_false c26
                    clear c26
                    exact absurd H (by simp)
              · rw [if_neg c19] at H
                have c19b0 : decide (t111 ≤ t112) = false := decide_eq_false c19
                clear c19
                exact absurd H (by simp)
            · rw [if_neg c16] at H
              have c16b0 : decide (t109 ≤ t110) = false := decide_eq_false c16
              clear c16
              exact absurd H (by simp)
          · rw [if_neg c13] at H
            have c13b0 : decide (t107 ≤ t108) = false := decide_eq_false c13
            clear c13
            exact absurd H (by simp)
        · rw [if_neg c10] at H
          have c10b0 : decide (t105 ≤ t106) = false := decide_eq_false c10
          clear c10
          exact absurd H (by simp)
  · replace c5 := Bool.eq_false_iff.mpr c5
    subst c5
    have H1 : (some false) = some true := by first | (rw [if_neg (show ¬ (false = true) by decide)] at H; exact H) | exact H | rfl
    clear H
    have H := H1
    clear H1
    exact absurd H (by simp)

/-- THE ONE PURE STATEMENT of dynamolaw1_FixedRises: yours. -/
def dynamolaw1_FixedRises.Pure : Prop := ∀ (a0 : Int) (a1 : Int) (a2 : Int), (Lit.int .i64 a0).wf = true → (Lit.int .i64 a1).wf = true → (Lit.int .i64 a2).wf = true → ∃ k, dynamolaw1_FixedRises.f k a0 a1 a2 = some true
theorem dynamolaw1_FixedRises.walk (P : dynamolaw1_FixedRises.Pure) (a0 : Int) (a1 : Int) (a2 : Int) (w : World) (w0 : (Lit.int .i64 a0).wf = true) (w1 : (Lit.int .i64 a1).wf = true) (w2 : (Lit.int .i64 a2).wf = true) :
    Calls Try.prog 7 #[.int .i64 a0, .int .i64 a1, .int .i64 a2] w fun e w' => e = .returned (.bool true) ∧ Below w.heap.size w w' := by
  obtain ⟨k, h⟩ := P a0 a1 a2 w0 w1 w2
  refine (dynamolaw1_FixedRises.calls k a0 a1 a2 w h).mono ?_
  rintro e w' ⟨rfl, hd⟩
  exact ⟨rfl, hd.below⟩

end Go.Proofs.Ytjecaenloilkcaa.PFixedRises
