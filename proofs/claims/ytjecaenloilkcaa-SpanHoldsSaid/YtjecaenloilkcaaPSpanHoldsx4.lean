-- written by this work with wip/mkprint2.py
import Derived.Test.YtjecaenloilkcaaPSpanHoldsx0
import Derived.Test.YtjecaenloilkcaaPSpanHoldsx1
import Derived.Test.YtjecaenloilkcaaPSpanHoldsx2
import Derived.Test.YtjecaenloilkcaaPSpanHoldsx3
namespace Go.Proofs.Ytjecaenloilkcaa.PSpanHolds
open Go.RowKit Go.Proofs.YtjecaenloilkcaaW.PrintWords Go.Proofs.YtjecaenloilkcaaW.PrintLast Go.Proofs.YtjecaenloilkcaaW.PrintMore
attribute [local go_sem] max2_int min2_int max_two min_two max_three min_three max_four min_four   -- for this text's walks alone
set_option linter.unusedVariables false
set_option linter.unusedSimpArgs false

/-! ### dynamolaw2_SpanHolds: function 10 -/
mutual
def dynamolaw2_SpanHolds.j0 : Nat → Int → Int → Int → Bool → Bool → Int → Int → Int → Int → Option (Bool)
  | 0, _, _, _, _, _, _, _, _, _ => none
  | k + 1, x4, x5, x6, x15, x101, x147000, x147001, x150000, x150001 => if x101 = true then (some false) else ((span_Meet.f x147000 x147001 x150000 x150001).bind fun bt169 => (if x147000 ≤ x150001 then (if (bt169.2.2 != (decide (x150000 ≤ x147001))) = true then (dynamolaw2_SpanHolds.j1 k x4 x5 x6 x15 true x147000 x147001) else (if bt169.2.2 = true then ((span_In.f bt169.1 bt169.2.1 x147000 x147001).bind fun t173 => (if t173 = true then ((span_In.f bt169.1 bt169.2.1 x150000 x150001).bind fun t174 => (dynamolaw2_SpanHolds.j1 k x4 x5 x6 x15 (!t174) x147000 x147001)) else (dynamolaw2_SpanHolds.j1 k x4 x5 x6 x15 true x147000 x147001))) else (dynamolaw2_SpanHolds.j1 k x4 x5 x6 x15 false x147000 x147001))) else (if (bt169.2.2 != false) = true then (dynamolaw2_SpanHolds.j1 k x4 x5 x6 x15 true x147000 x147001) else (if bt169.2.2 = true then ((span_In.f bt169.1 bt169.2.1 x147000 x147001).bind fun t175 => (if t175 = true then ((span_In.f bt169.1 bt169.2.1 x150000 x150001).bind fun t176 => (dynamolaw2_SpanHolds.j1 k x4 x5 x6 x15 (!t176) x147000 x147001)) else (dynamolaw2_SpanHolds.j1 k x4 x5 x6 x15 true x147000 x147001))) else (dynamolaw2_SpanHolds.j1 k x4 x5 x6 x15 false x147000 x147001)))))
def dynamolaw2_SpanHolds.j1 : Nat → Int → Int → Int → Bool → Bool → Int → Int → Option (Bool)
  | 0, _, _, _, _, _, _, _ => none
  | k + 1, x4, x5, x6, x15, x136, x147000, x147001 => if x136 = true then (some false) else ((span_Shrink.f x147000 x147001 (mx x6 1)).bind fun bt177 => (if x15 = true then (if (mx x6 1) = 0 then (none) else ((span_Has.f bt177.1 bt177.2 (wrap64 (Int.tdiv x4 (mx x6 1)))).bind fun t180 => (if t180 = true then ((span_Widen.f k x147000 x147001 x6).bind fun bt181 => ((span_In.f x147000 x147001 bt181.1 bt181.2).bind fun t183 => (if t183 = true then ((dynamolaw2_at.f x5).bind fun bt184 => ((span_Add.f k x147000 x147001 bt184.1 bt184.2).bind fun bt186 => ((dynamolaw2_at.f x5).bind fun bt188 => ((span_Sub.f k bt186.1 bt186.2 bt188.1 bt188.2).bind fun bt190 => ((dynamoref_SameSpan.f bt190.1 bt190.2 x147000 x147001).bind fun t192 => (some t192)))))) else (some false)))) else (some false)))) else (some false)))
end
def dynamolaw2_SpanHolds.f (k : Nat) (a0 : Int) (a1 : Int) (a2 : Int) (a3 : Int) (a4 : Int) (a5 : Int) (a6 : Int) : Option (Bool) := (dynamolaw2_first.f).bind fun t143 => (if t143 = true then ((span_Of.f (Int.tmod a0 1073741824) (Int.tmod a1 1073741824)).bind fun bt144 => ((span_Of.f (Int.tmod a2 1073741824) (Int.tmod a3 1073741824)).bind fun bt147 => ((dynamolaw2_inside.f bt144.1 bt144.2 a4).bind fun t150 => ((dynamolaw2_inside.f bt147.1 bt147.2 a5).bind fun t151 => ((span_Has.f bt144.1 bt144.2 t150).bind fun t152 => (if t152 = true then ((span_Has.f bt147.1 bt147.2 t151).bind fun t153 => (if t153 = true then ((span_Add.f k bt144.1 bt144.2 bt147.1 bt147.2).bind fun bt154 => ((span_Has.f bt154.1 bt154.2 (wrap64 (t150 + t151))).bind fun t156 => (if t156 = true then ((span_Sub.f k bt144.1 bt144.2 bt147.1 bt147.2).bind fun bt157 => ((span_Has.f bt157.1 bt157.2 (wrap64 (t150 - t151))).bind fun t159 => (if t159 = true then ((span_Scale.f k bt144.1 bt144.2 (Int.tmod a6 1073741824)).bind fun bt160 => ((span_Has.f bt160.1 bt160.2 (wrap64 (t150 * (Int.tmod a6 1073741824)))).bind fun t162 => (if t162 = true then ((span_Hull.f bt144.1 bt144.2 bt147.1 bt147.2).bind fun bt163 => ((span_Has.f bt163.1 bt163.2 t150).bind fun t165 => (if t165 = true then ((span_Hull.f bt144.1 bt144.2 bt147.1 bt147.2).bind fun bt166 => ((span_Has.f bt166.1 bt166.2 t151).bind fun t168 => (dynamolaw2_SpanHolds.j0 k t150 t151 (Int.tmod a6 1073741824) t143 (!t168) bt144.1 bt144.2 bt147.1 bt147.2))) else (dynamolaw2_SpanHolds.j0 k t150 t151 (Int.tmod a6 1073741824) t143 true bt144.1 bt144.2 bt147.1 bt147.2)))) else (dynamolaw2_SpanHolds.j0 k t150 t151 (Int.tmod a6 1073741824) t143 true bt144.1 bt144.2 bt147.1 bt147.2)))) else (dynamolaw2_SpanHolds.j0 k t150 t151 (Int.tmod a6 1073741824) t143 true bt144.1 bt144.2 bt147.1 bt147.2)))) else (dynamolaw2_SpanHolds.j0 k t150 t151 (Int.tmod a6 1073741824) t143 true bt144.1 bt144.2 bt147.1 bt147.2)))) else (dynamolaw2_SpanHolds.j0 k t150 t151 (Int.tmod a6 1073741824) t143 true bt144.1 bt144.2 bt147.1 bt147.2))) else (dynamolaw2_SpanHolds.j0 k t150 t151 (Int.tmod a6 1073741824) t143 true bt144.1 bt144.2 bt147.1 bt147.2))))))) else (some false))
theorem dynamolaw2_SpanHolds.mono_l : ∀ k, (∀ y0 y1 y2 y3 y4 y5 y6 y7 y8, LeO (dynamolaw2_SpanHolds.j0 k y0 y1 y2 y3 y4 y5 y6 y7 y8) (dynamolaw2_SpanHolds.j0 (k + 1) y0 y1 y2 y3 y4 y5 y6 y7 y8)) ∧ (∀ y0 y1 y2 y3 y4 y5 y6, LeO (dynamolaw2_SpanHolds.j1 k y0 y1 y2 y3 y4 y5 y6) (dynamolaw2_SpanHolds.j1 (k + 1) y0 y1 y2 y3 y4 y5 y6))
  | 0 => ⟨fun _ _ _ _ _ _ _ _ _ r h => by simp [dynamolaw2_SpanHolds.j0] at h, fun _ _ _ _ _ _ _ r h => by simp [dynamolaw2_SpanHolds.j1] at h⟩
  | k + 1 => by
    obtain ⟨ih0, ih1⟩ := dynamolaw2_SpanHolds.mono_l k
    refine ⟨?_, ?_⟩
    · intro y0 y1 y2 y3 y4 y5 y6 y7 y8
      unfold dynamolaw2_SpanHolds.j0
      repeat' first
      | (with_reducible exact ih0 _ _ _ _ _ _ _ _ _)
      | (with_reducible exact ih1 _ _ _ _ _ _ _)
      | (with_reducible exact span_Add.mono _ _ _ _ _)
      | (with_reducible exact span_Scale.mono _ _ _ _)
      | (with_reducible exact span_Sub.mono _ _ _ _ _)
      | (with_reducible exact span_Widen.mono _ _ _ _)
      | (with_reducible exact LeO.refl _)
      | (with_reducible exact LeO.none _)
      | (with_reducible refine LeO.ite ?_ ?_)
      | (with_reducible refine LeO.bind ?_ (fun _ => ?_))
      | exact ih0 _ _ _ _ _ _ _ _ _
      | exact ih1 _ _ _ _ _ _ _
      | exact span_Add.mono _ _ _ _ _
      | exact span_Scale.mono _ _ _ _
      | exact span_Sub.mono _ _ _ _ _
      | exact span_Widen.mono _ _ _ _
      | exact LeO.none _
      | refine LeO.ite ?_ ?_
      | refine LeO.bind ?_ (fun _ => ?_)
    · intro y0 y1 y2 y3 y4 y5 y6
      unfold dynamolaw2_SpanHolds.j1
      repeat' first
      | (with_reducible exact ih0 _ _ _ _ _ _ _ _ _)
      | (with_reducible exact ih1 _ _ _ _ _ _ _)
      | (with_reducible exact span_Add.mono _ _ _ _ _)
      | (with_reducible exact span_Scale.mono _ _ _ _)
      | (with_reducible exact span_Sub.mono _ _ _ _ _)
      | (with_reducible exact span_Widen.mono _ _ _ _)
      | (with_reducible exact LeO.refl _)
      | (with_reducible exact LeO.none _)
      | (with_reducible refine LeO.ite ?_ ?_)
      | (with_reducible refine LeO.bind ?_ (fun _ => ?_))
      | exact ih0 _ _ _ _ _ _ _ _ _
      | exact ih1 _ _ _ _ _ _ _
      | exact span_Add.mono _ _ _ _ _
      | exact span_Scale.mono _ _ _ _
      | exact span_Sub.mono _ _ _ _ _
      | exact span_Widen.mono _ _ _ _
      | exact LeO.none _
      | refine LeO.ite ?_ ?_
      | refine LeO.bind ?_ (fun _ => ?_)
theorem dynamolaw2_SpanHolds.mono : ∀ a0 a1 a2 a3 a4 a5 a6 k, LeO (dynamolaw2_SpanHolds.f k a0 a1 a2 a3 a4 a5 a6) (dynamolaw2_SpanHolds.f (k + 1) a0 a1 a2 a3 a4 a5 a6) := by
  intro a0 a1 a2 a3 a4 a5 a6 k
  obtain ⟨ih0, ih1⟩ := dynamolaw2_SpanHolds.mono_l k
  unfold dynamolaw2_SpanHolds.f
  repeat' first
      | (with_reducible exact ih0 _ _ _ _ _ _ _ _ _)
      | (with_reducible exact ih1 _ _ _ _ _ _ _)
      | (with_reducible exact span_Add.mono _ _ _ _ _)
      | (with_reducible exact span_Scale.mono _ _ _ _)
      | (with_reducible exact span_Sub.mono _ _ _ _ _)
      | (with_reducible exact span_Widen.mono _ _ _ _)
      | (with_reducible exact LeO.refl _)
      | (with_reducible exact LeO.none _)
      | (with_reducible refine LeO.ite ?_ ?_)
      | (with_reducible refine LeO.bind ?_ (fun _ => ?_))
      | exact ih0 _ _ _ _ _ _ _ _ _
      | exact ih1 _ _ _ _ _ _ _
      | exact span_Add.mono _ _ _ _ _
      | exact span_Scale.mono _ _ _ _
      | exact span_Sub.mono _ _ _ _ _
      | exact span_Widen.mono _ _ _ _
      | exact LeO.none _
      | refine LeO.ite ?_ ?_
      | refine LeO.bind ?_ (fun _ => ?_)
def dynamolaw2_SpanHolds.T19 : Bool × List (List Nat × List Nat) := (true, [([], []), ([0], [0]), ([1], [1]), ([1], [1]), ([1], [1]), ([4, 1], [1, 4]), ([3, 5, 1], [1, 3, 5]), ([2, 6, 1, 1], [1, 2, 6]), ([1, 7], [1, 7]), ([8, 7], [8]), ([9], [9]), ([9], [9]), ([9], [9]), ([11, 12, 9, 9], [9, 11, 12]), ([10, 13, 13, 9], [9, 10, 13]), ([9, 14], [9, 14]), ([15, 14], [15]), ([16], [16]), ([16], [16]), ([18, 16, 16], [16, 18]), ([17, 19, 19, 16], [16, 17, 19]), ([16], [16]), ([21, 20, 16], [16, 21]), ([20, 22, 22, 16], [16, 20, 22]), ([16], [16]), ([23, 24, 23, 16], [16, 23, 24]), ([16, 25], [16, 25]), ([26, 25, 0, 1, 2, 3, 4, 5, 6, 7, 8, 9, 10, 11, 12, 13, 14, 15, 16, 17, 18, 19, 20, 21, 22, 23, 24, 25, 26], [26])])
def dynamolaw2_SpanHolds.B19 : List Nat := [0, 1, 3, 3, 3, 19, 59, 127, 255, 511, 1023, 1023, 1023, 7167, 16383, 32767, 65535, 131071, 131071, 393215, 1048575, 131071, 4194303, 8388607, 131071, 33554431, 67108863, 134217727]
theorem dynamolaw2_SpanHolds.tab19 : rtab .any (opsOf Try.f10 19) = dynamolaw2_SpanHolds.T19 := by kernel_rfl
theorem dynamolaw2_SpanHolds.bits19 : waitsOk dynamolaw2_SpanHolds.T19.2 dynamolaw2_SpanHolds.B19 = true := by kernel_rfl
set_option maxHeartbeats 8000000 in
set_option maxRecDepth 100000 in
theorem dynamolaw2_SpanHolds.calls (k : Nat) (a0 : Int) (a1 : Int) (a2 : Int) (a3 : Int) (a4 : Int) (a5 : Int) (a6 : Int) (w : World) (h : dynamolaw2_SpanHolds.f k a0 a1 a2 a3 a4 a5 a6 = some true) :
    Calls Try.prog 10 #[.int .i64 a0, .int .i64 a1, .int .i64 a2, .int .i64 a3, .int .i64 a4, .int .i64 a5, .int .i64 a6] w fun e w' => e = .returned (.bool true) ∧ Below w.heap.size w w' := by
  have hu24 := Try.underlying24
  have HB := Aside0.mk (Below.refl w.heap.size w)
  have H : ((dynamolaw2_first.f).bind fun t143 => (if t143 = true then ((span_Of.f (Int.tmod a0 1073741824) (Int.tmod a1 1073741824)).bind fun bt144 => ((span_Of.f (Int.tmod a2 1073741824) (Int.tmod a3 1073741824)).bind fun bt147 => ((dynamolaw2_inside.f bt144.1 bt144.2 a4).bind fun t150 => ((dynamolaw2_inside.f bt147.1 bt147.2 a5).bind fun t151 => ((span_Has.f bt144.1 bt144.2 t150).bind fun t152 => (if t152 = true then ((span_Has.f bt147.1 bt147.2 t151).bind fun t153 => (if t153 = true then ((span_Add.f k bt144.1 bt144.2 bt147.1 bt147.2).bind fun bt154 => ((span_Has.f bt154.1 bt154.2 (wrap64 (t150 + t151))).bind fun t156 => (if t156 = true then ((span_Sub.f k bt144.1 bt144.2 bt147.1 bt147.2).bind fun bt157 => ((span_Has.f bt157.1 bt157.2 (wrap64 (t150 - t151))).bind fun t159 => (if t159 = true then ((span_Scale.f k bt144.1 bt144.2 (Int.tmod a6 1073741824)).bind fun bt160 => ((span_Has.f bt160.1 bt160.2 (wrap64 (t150 * (Int.tmod a6 1073741824)))).bind fun t162 => (if t162 = true then ((span_Hull.f bt144.1 bt144.2 bt147.1 bt147.2).bind fun bt163 => ((span_Has.f bt163.1 bt163.2 t150).bind fun t165 => (if t165 = true then ((span_Hull.f bt144.1 bt144.2 bt147.1 bt147.2).bind fun bt166 => ((span_Has.f bt166.1 bt166.2 t151).bind fun t168 => (dynamolaw2_SpanHolds.j0 k t150 t151 (Int.tmod a6 1073741824) t143 (!t168) bt144.1 bt144.2 bt147.1 bt147.2))) else (dynamolaw2_SpanHolds.j0 k t150 t151 (Int.tmod a6 1073741824) t143 true bt144.1 bt144.2 bt147.1 bt147.2)))) else (dynamolaw2_SpanHolds.j0 k t150 t151 (Int.tmod a6 1073741824) t143 true bt144.1 bt144.2 bt147.1 bt147.2)))) else (dynamolaw2_SpanHolds.j0 k t150 t151 (Int.tmod a6 1073741824) t143 true bt144.1 bt144.2 bt147.1 bt147.2)))) else (dynamolaw2_SpanHolds.j0 k t150 t151 (Int.tmod a6 1073741824) t143 true bt144.1 bt144.2 bt147.1 bt147.2)))) else (dynamolaw2_SpanHolds.j0 k t150 t151 (Int.tmod a6 1073741824) t143 true bt144.1 bt144.2 bt147.1 bt147.2))) else (dynamolaw2_SpanHolds.j0 k t150 t151 (Int.tmod a6 1073741824) t143 true bt144.1 bt144.2 bt147.1 bt147.2))))))) else (some false))) = some true := h
  clear h
  replace H := Option.bind_eq_some_iff.mp H
  obtain ⟨t143, A80, H⟩ := H
  replace H : (if t143 = true then ((span_Of.f (Int.tmod a0 1073741824) (Int.tmod a1 1073741824)).bind fun bt144 => ((span_Of.f (Int.tmod a2 1073741824) (Int.tmod a3 1073741824)).bind fun bt147 => ((dynamolaw2_inside.f bt144.1 bt144.2 a4).bind fun t150 => ((dynamolaw2_inside.f bt147.1 bt147.2 a5).bind fun t151 => ((span_Has.f bt144.1 bt144.2 t150).bind fun t152 => (if t152 = true then ((span_Has.f bt147.1 bt147.2 t151).bind fun t153 => (if t153 = true then ((span_Add.f k bt144.1 bt144.2 bt147.1 bt147.2).bind fun bt154 => ((span_Has.f bt154.1 bt154.2 (wrap64 (t150 + t151))).bind fun t156 => (if t156 = true then ((span_Sub.f k bt144.1 bt144.2 bt147.1 bt147.2).bind fun bt157 => ((span_Has.f bt157.1 bt157.2 (wrap64 (t150 - t151))).bind fun t159 => (if t159 = true then ((span_Scale.f k bt144.1 bt144.2 (Int.tmod a6 1073741824)).bind fun bt160 => ((span_Has.f bt160.1 bt160.2 (wrap64 (t150 * (Int.tmod a6 1073741824)))).bind fun t162 => (if t162 = true then ((span_Hull.f bt144.1 bt144.2 bt147.1 bt147.2).bind fun bt163 => ((span_Has.f bt163.1 bt163.2 t150).bind fun t165 => (if t165 = true then ((span_Hull.f bt144.1 bt144.2 bt147.1 bt147.2).bind fun bt166 => ((span_Has.f bt166.1 bt166.2 t151).bind fun t168 => (dynamolaw2_SpanHolds.j0 k t150 t151 (Int.tmod a6 1073741824) t143 (!t168) bt144.1 bt144.2 bt147.1 bt147.2))) else (dynamolaw2_SpanHolds.j0 k t150 t151 (Int.tmod a6 1073741824) t143 true bt144.1 bt144.2 bt147.1 bt147.2)))) else (dynamolaw2_SpanHolds.j0 k t150 t151 (Int.tmod a6 1073741824) t143 true bt144.1 bt144.2 bt147.1 bt147.2)))) else (dynamolaw2_SpanHolds.j0 k t150 t151 (Int.tmod a6 1073741824) t143 true bt144.1 bt144.2 bt147.1 bt147.2)))) else (dynamolaw2_SpanHolds.j0 k t150 t151 (Int.tmod a6 1073741824) t143 true bt144.1 bt144.2 bt147.1 bt147.2)))) else (dynamolaw2_SpanHolds.j0 k t150 t151 (Int.tmod a6 1073741824) t143 true bt144.1 bt144.2 bt147.1 bt147.2))) else (dynamolaw2_SpanHolds.j0 k t150 t151 (Int.tmod a6 1073741824) t143 true bt144.1 bt144.2 bt147.1 bt147.2))))))) else (some false)) = some true := H
  have A8 := Aside0.mk A80
  clear A80
  by_cases c9 : t143 = true
  · subst c9
    have H1 : ((span_Of.f (Int.tmod a0 1073741824) (Int.tmod a1 1073741824)).bind fun bt144 => ((span_Of.f (Int.tmod a2 1073741824) (Int.tmod a3 1073741824)).bind fun bt147 => ((dynamolaw2_inside.f bt144.1 bt144.2 a4).bind fun t150 => ((dynamolaw2_inside.f bt147.1 bt147.2 a5).bind fun t151 => ((span_Has.f bt144.1 bt144.2 t150).bind fun t152 => (if t152 = true then ((span_Has.f bt147.1 bt147.2 t151).bind fun t153 => (if t153 = true then ((span_Add.f k bt144.1 bt144.2 bt147.1 bt147.2).bind fun bt154 => ((span_Has.f bt154.1 bt154.2 (wrap64 (t150 + t151))).bind fun t156 => (if t156 = true then ((span_Sub.f k bt144.1 bt144.2 bt147.1 bt147.2).bind fun bt157 => ((span_Has.f bt157.1 bt157.2 (wrap64 (t150 - t151))).bind fun t159 => (if t159 = true then ((span_Scale.f k bt144.1 bt144.2 (Int.tmod a6 1073741824)).bind fun bt160 => ((span_Has.f bt160.1 bt160.2 (wrap64 (t150 * (Int.tmod a6 1073741824)))).bind fun t162 => (if t162 = true then ((span_Hull.f bt144.1 bt144.2 bt147.1 bt147.2).bind fun bt163 => ((span_Has.f bt163.1 bt163.2 t150).bind fun t165 => (if t165 = true then ((span_Hull.f bt144.1 bt144.2 bt147.1 bt147.2).bind fun bt166 => ((span_Has.f bt166.1 bt166.2 t151).bind fun t168 => (dynamolaw2_SpanHolds.j0 k t150 t151 (Int.tmod a6 1073741824) true (!t168) bt144.1 bt144.2 bt147.1 bt147.2))) else (dynamolaw2_SpanHolds.j0 k t150 t151 (Int.tmod a6 1073741824) true true bt144.1 bt144.2 bt147.1 bt147.2)))) else (dynamolaw2_SpanHolds.j0 k t150 t151 (Int.tmod a6 1073741824) true true bt144.1 bt144.2 bt147.1 bt147.2)))) else (dynamolaw2_SpanHolds.j0 k t150 t151 (Int.tmod a6 1073741824) true true bt144.1 bt144.2 bt147.1 bt147.2)))) else (dynamolaw2_SpanHolds.j0 k t150 t151 (Int.tmod a6 1073741824) true true bt144.1 bt144.2 bt147.1 bt147.2)))) else (dynamolaw2_SpanHolds.j0 k t150 t151 (Int.tmod a6 1073741824) true true bt144.1 bt144.2 bt147.1 bt147.2))) else (dynamolaw2_SpanHolds.j0 k t150 t151 (Int.tmod a6 1073741824) true true bt144.1 bt144.2 bt147.1 bt147.2))))))) = some true := by first | (rw [if_pos rfl] at H; exact H) | exact H | rfl
    clear H
    have H := H1
    clear H1
    replace H := Option.bind_eq_some_iff.mp H
    obtain ⟨⟨t144, t145⟩, A100, H⟩ := H
    replace H : ((span_Of.f (Int.tmod a2 1073741824) (Int.tmod a3 1073741824)).bind fun bt147 => ((dynamolaw2_inside.f t144 t145 a4).bind fun t150 => ((dynamolaw2_inside.f bt147.1 bt147.2 a5).bind fun t151 => ((span_Has.f t144 t145 t150).bind fun t152 => (if t152 = true then ((span_Has.f bt147.1 bt147.2 t151).bind fun t153 => (if t153 = true then ((span_Add.f k t144 t145 bt147.1 bt147.2).bind fun bt154 => ((span_Has.f bt154.1 bt154.2 (wrap64 (t150 + t151))).bind fun t156 => (if t156 = true then ((span_Sub.f k t144 t145 bt147.1 bt147.2).bind fun bt157 => ((span_Has.f bt157.1 bt157.2 (wrap64 (t150 - t151))).bind fun t159 => (if t159 = true then ((span_Scale.f k t144 t145 (Int.tmod a6 1073741824)).bind fun bt160 => ((span_Has.f bt160.1 bt160.2 (wrap64 (t150 * (Int.tmod a6 1073741824)))).bind fun t162 => (if t162 = true then ((span_Hull.f t144 t145 bt147.1 bt147.2).bind fun bt163 => ((span_Has.f bt163.1 bt163.2 t150).bind fun t165 => (if t165 = true then ((span_Hull.f t144 t145 bt147.1 bt147.2).bind fun bt166 => ((span_Has.f bt166.1 bt166.2 t151).bind fun t168 => (dynamolaw2_SpanHolds.j0 k t150 t151 (Int.tmod a6 1073741824) true (!t168) t144 t145 bt147.1 bt147.2))) else (dynamolaw2_SpanHolds.j0 k t150 t151 (Int.tmod a6 1073741824) true true t144 t145 bt147.1 bt147.2)))) else (dynamolaw2_SpanHolds.j0 k t150 t151 (Int.tmod a6 1073741824) true true t144 t145 bt147.1 bt147.2)))) else (dynamolaw2_SpanHolds.j0 k t150 t151 (Int.tmod a6 1073741824) true true t144 t145 bt147.1 bt147.2)))) else (dynamolaw2_SpanHolds.j0 k t150 t151 (Int.tmod a6 1073741824) true true t144 t145 bt147.1 bt147.2)))) else (dynamolaw2_SpanHolds.j0 k t150 t151 (Int.tmod a6 1073741824) true true t144 t145 bt147.1 bt147.2))) else (dynamolaw2_SpanHolds.j0 k t150 t151 (Int.tmod a6 1073741824) true true t144 t145 bt147.1 bt147.2)))))) = some true := H
    have A10 := Aside0.mk A100
    clear A100
    replace H := Option.bind_eq_some_iff.mp H
    obtain ⟨⟨t147, t148⟩, A110, H⟩ := H
    replace H : ((dynamolaw2_inside.f t144 t145 a4).bind fun t150 => ((dynamolaw2_inside.f t147 t148 a5).bind fun t151 => ((span_Has.f t144 t145 t150).bind fun t152 => (if t152 = true then ((span_Has.f t147 t148 t151).bind fun t153 => (if t153 = true then ((span_Add.f k t144 t145 t147 t148).bind fun bt154 => ((span_Has.f bt154.1 bt154.2 (wrap64 (t150 + t151))).bind fun t156 => (if t156 = true then ((span_Sub.f k t144 t145 t147 t148).bind fun bt157 => ((span_Has.f bt157.1 bt157.2 (wrap64 (t150 - t151))).bind fun t159 => (if t159 = true then ((span_Scale.f k t144 t145 (Int.tmod a6 1073741824)).bind fun bt160 => ((span_Has.f bt160.1 bt160.2 (wrap64 (t150 * (Int.tmod a6 1073741824)))).bind fun t162 => (if t162 = true then ((span_Hull.f t144 t145 t147 t148).bind fun bt163 => ((span_Has.f bt163.1 bt163.2 t150).bind fun t165 => (if t165 = true then ((span_Hull.f t144 t145 t147 t148).bind fun bt166 => ((span_Has.f bt166.1 bt166.2 t151).bind fun t168 => (dynamolaw2_SpanHolds.j0 k t150 t151 (Int.tmod a6 1073741824) true (!t168) t144 t145 t147 t148))) else (dynamolaw2_SpanHolds.j0 k t150 t151 (Int.tmod a6 1073741824) true true t144 t145 t147 t148)))) else (dynamolaw2_SpanHolds.j0 k t150 t151 (Int.tmod a6 1073741824) true true t144 t145 t147 t148)))) else (dynamolaw2_SpanHolds.j0 k t150 t151 (Int.tmod a6 1073741824) true true t144 t145 t147 t148)))) else (dynamolaw2_SpanHolds.j0 k t150 t151 (Int.tmod a6 1073741824) true true t144 t145 t147 t148)))) else (dynamolaw2_SpanHolds.j0 k t150 t151 (Int.tmod a6 1073741824) true true t144 t145 t147 t148))) else (dynamolaw2_SpanHolds.j0 k t150 t151 (Int.tmod a6 1073741824) true true t144 t145 t147 t148))))) = some true := H
    have A11 := Aside0.mk A110
    clear A110
    replace H := Option.bind_eq_some_iff.mp H
    obtain ⟨t150, A120, H⟩ := H
    replace H : ((dynamolaw2_inside.f t147 t148 a5).bind fun t151 => ((span_Has.f t144 t145 t150).bind fun t152 => (if t152 = true then ((span_Has.f t147 t148 t151).bind fun t153 => (if t153 = true then ((span_Add.f k t144 t145 t147 t148).bind fun bt154 => ((span_Has.f bt154.1 bt154.2 (wrap64 (t150 + t151))).bind fun t156 => (if t156 = true then ((span_Sub.f k t144 t145 t147 t148).bind fun bt157 => ((span_Has.f bt157.1 bt157.2 (wrap64 (t150 - t151))).bind fun t159 => (if t159 = true then ((span_Scale.f k t144 t145 (Int.tmod a6 1073741824)).bind fun bt160 => ((span_Has.f bt160.1 bt160.2 (wrap64 (t150 * (Int.tmod a6 1073741824)))).bind fun t162 => (if t162 = true then ((span_Hull.f t144 t145 t147 t148).bind fun bt163 => ((span_Has.f bt163.1 bt163.2 t150).bind fun t165 => (if t165 = true then ((span_Hull.f t144 t145 t147 t148).bind fun bt166 => ((span_Has.f bt166.1 bt166.2 t151).bind fun t168 => (dynamolaw2_SpanHolds.j0 k t150 t151 (Int.tmod a6 1073741824) true (!t168) t144 t145 t147 t148))) else (dynamolaw2_SpanHolds.j0 k t150 t151 (Int.tmod a6 1073741824) true true t144 t145 t147 t148)))) else (dynamolaw2_SpanHolds.j0 k t150 t151 (Int.tmod a6 1073741824) true true t144 t145 t147 t148)))) else (dynamolaw2_SpanHolds.j0 k t150 t151 (Int.tmod a6 1073741824) true true t144 t145 t147 t148)))) else (dynamolaw2_SpanHolds.j0 k t150 t151 (Int.tmod a6 1073741824) true true t144 t145 t147 t148)))) else (dynamolaw2_SpanHolds.j0 k t150 t151 (Int.tmod a6 1073741824) true true t144 t145 t147 t148))) else (dynamolaw2_SpanHolds.j0 k t150 t151 (Int.tmod a6 1073741824) true true t144 t145 t147 t148)))) = some true := H
    have A12 := Aside0.mk A120
    clear A120
    replace H := Option.bind_eq_some_iff.mp H
    obtain ⟨t151, A130, H⟩ := H
    replace H : ((span_Has.f t144 t145 t150).bind fun t152 => (if t152 = true then ((span_Has.f t147 t148 t151).bind fun t153 => (if t153 = true then ((span_Add.f k t144 t145 t147 t148).bind fun bt154 => ((span_Has.f bt154.1 bt154.2 (wrap64 (t150 + t151))).bind fun t156 => (if t156 = true then ((span_Sub.f k t144 t145 t147 t148).bind fun bt157 => ((span_Has.f bt157.1 bt157.2 (wrap64 (t150 - t151))).bind fun t159 => (if t159 = true then ((span_Scale.f k t144 t145 (Int.tmod a6 1073741824)).bind fun bt160 => ((span_Has.f bt160.1 bt160.2 (wrap64 (t150 * (Int.tmod a6 1073741824)))).bind fun t162 => (if t162 = true then ((span_Hull.f t144 t145 t147 t148).bind fun bt163 => ((span_Has.f bt163.1 bt163.2 t150).bind fun t165 => (if t165 = true then ((span_Hull.f t144 t145 t147 t148).bind fun bt166 => ((span_Has.f bt166.1 bt166.2 t151).bind fun t168 => (dynamolaw2_SpanHolds.j0 k t150 t151 (Int.tmod a6 1073741824) true (!t168) t144 t145 t147 t148))) else (dynamolaw2_SpanHolds.j0 k t150 t151 (Int.tmod a6 1073741824) true true t144 t145 t147 t148)))) else (dynamolaw2_SpanHolds.j0 k t150 t151 (Int.tmod a6 1073741824) true true t144 t145 t147 t148)))) else (dynamolaw2_SpanHolds.j0 k t150 t151 (Int.tmod a6 1073741824) true true t144 t145 t147 t148)))) else (dynamolaw2_SpanHolds.j0 k t150 t151 (Int.tmod a6 1073741824) true true t144 t145 t147 t148)))) else (dynamolaw2_SpanHolds.j0 k t150 t151 (Int.tmod a6 1073741824) true true t144 t145 t147 t148))) else (dynamolaw2_SpanHolds.j0 k t150 t151 (Int.tmod a6 1073741824) true true t144 t145 t147 t148))) = some true := H
    have A13 := Aside0.mk A130
    clear A130
    have HC14 := Aside0.mk H
    clear H
    go_enter Try.func10, Try.ntmps10
    go_upto_region 13 with (first | ((with_reducible refine gate_callee (f := 12) rfl ?_); refine goesL_ (some 21) rfl rfl Try.func12 (by kernel_rfl) rfl #[] rfl (by (try simp only [List.map_toArray, List.map_cons, List.map_nil]); first | done | rfl | (simp only [List.length_drop, List.length_take]; rfl)) ?_; (with_reducible refine (dynamolaw2_first.calls  true _ A8.out).mono ?_); rintro e w15 ⟨rfl, hb⟩; refine ⟨_, rfl, ?_⟩; have n0_ := Aside0.mk (below_step (by repeat (first | (with_reducible first | exact HB.out | apply below_alloc | apply pw_below_drewN | apply below_drew1) | exact HB.out)) hb); clear HB; have HB := n0_; clear n0_; (try clear hb); (try clear hb2); (try clear hk); (try clear hi)) | ((with_reducible refine gate_callee (f := 13) rfl ?_); refine goesL_ (some 36) rfl rfl Try.func13 (by kernel_rfl) rfl #[.int .i64 (Int.tmod a0 1073741824), .int .i64 (Int.tmod a1 1073741824)] rfl (by (try simp only [List.map_toArray, List.map_cons, List.map_nil]); first | done | rfl | (simp only [List.length_drop, List.length_take]; rfl)) ?_; (with_reducible refine (span_Of.calls (Int.tmod a0 1073741824) (Int.tmod a1 1073741824) t144 t145 _ A10.out).mono ?_); rintro e w16 ⟨rfl, hb⟩; refine ⟨_, rfl, ?_⟩; have n0_ := Aside0.mk (below_step (by repeat (first | (with_reducible first | exact HB.out | apply below_alloc | apply pw_below_drewN | apply below_drew1) | exact HB.out)) hb); clear HB; have HB := n0_; clear n0_; (try clear hb); (try clear hb2); (try clear hk); (try clear hi)) | ((with_reducible refine gate_dst (N := 16) rfl ?_); (try (refine gate_guard (by rfl) ?_; dsimp only)); refine box_event ?hg (N := 16) ?hd (cs := #[.int .i64 0, .int .i64 0]) (t := 24) ?hr ?_; (case hd => rfl); (case hg => rfl); (case hr => first | (go_simp; done) | (go_simp; rfl)); intro gb146 hg w17 hbox hb; have n0_ := Aside0.mk (below_step (by repeat (first | (with_reducible first | exact HB.out | apply below_alloc | apply pw_below_drewN | apply below_drew1) | exact HB.out)) hb); have n1_ := Aside0.mk (hbox); have n2_ := Aside0.mk ((by rw [hg]; exact (below_size (by repeat (first | (with_reducible first | exact HB.out | apply below_alloc | apply pw_below_drewN | apply below_drew1) | exact HB.out))) : w.heap.size ≤ gb146)); have n3_ := Aside0.mk ((by rw [hg]; exact (below_size (by repeat (first | (with_reducible first | exact HB.out | apply below_alloc | apply pw_below_drewN | apply below_drew1) | exact HB.out))) : w.heap.size ≤ gb146)); clear HB; have HB := n0_; have BK146 := n1_; have GW146 := n2_; have GE146 := n3_; clear n0_ n1_ n2_ n3_; clear hb hbox hg; have hcz18_0 : w17.cell? ⟨gb146, 0, none⟩ = some (.int .i64 0) := (blk_cell BK146.out 0).trans rfl; have hcz18_1 : w17.cell? ⟨gb146, 1, none⟩ = some (.int .i64 0) := (blk_cell BK146.out 1).trans rfl; have hfz18_0 := blk_frozen BK146.out 0; have hfz18_1 := blk_frozen BK146.out 1) | ((with_reducible refine gate_callee (f := 13) rfl ?_); refine goesL_ (some 39) rfl rfl Try.func13 (by kernel_rfl) rfl #[.int .i64 (Int.tmod a2 1073741824), .int .i64 (Int.tmod a3 1073741824)] rfl (by (try simp only [List.map_toArray, List.map_cons, List.map_nil]); first | done | rfl | (simp only [List.length_drop, List.length_take]; rfl)) ?_; (with_reducible refine (span_Of.calls (Int.tmod a2 1073741824) (Int.tmod a3 1073741824) t147 t148 _ A11.out).mono ?_); rintro e w19 ⟨rfl, hb⟩; refine ⟨_, rfl, ?_⟩; have n0_ := Aside0.mk (blk_below (g := gb146) (o := .cells #[.int .i64 t144, .int .i64 t145] 24 (0, 0)) (by (with_reducible repeat (first | refine blk_drewN ?_ _ | refine blk_drew ?_ | refine blk_alloc ?_ _)); refine blk_put (cs := #[.int .i64 t144, .int .i64 0]) ?_ 1 _ rfl; (with_reducible repeat (first | refine blk_drewN ?_ _ | refine blk_drew ?_ | refine blk_alloc ?_ _)); refine blk_put (cs := #[.int .i64 0, .int .i64 0]) ?_ 0 _ rfl; (with_reducible repeat (first | refine blk_drewN ?_ _ | refine blk_drew ?_ | refine blk_alloc ?_ _)); exact BK146.out) hb); have n1_ := Aside0.mk (below_step (by repeat (first | (with_reducible first | exact HB.out | apply below_alloc | apply pw_below_drewN | apply below_drew1 | refine below_set ?_ GE146.out) | exact HB.out)) hb); clear BK146; clear HB; have BK146 := n0_; have HB := n1_; clear n0_ n1_; (try clear hb); (try clear hb2); (try clear hk); (try clear hi)) | ((with_reducible refine gate_dst (N := 17) rfl ?_); (try (refine gate_guard (by rfl) ?_; dsimp only)); refine box_event ?hg (N := 17) ?hd (cs := #[.int .i64 0, .int .i64 0]) (t := 24) ?hr ?_; (case hd => rfl); (case hg => rfl); (case hr => first | (go_simp; done) | (go_simp; rfl)); intro gb149 hg w20 hbox hb; have n0_ := Aside0.mk (blk_below (g := gb146) (o := .cells #[.int .i64 t144, .int .i64 t145] 24 (0, 0)) (by (with_reducible repeat (first | refine blk_drewN ?_ _ | refine blk_drew ?_ | refine blk_alloc ?_ _)); exact BK146.out) hb); have n1_ := Aside0.mk (below_step (by repeat (first | (with_reducible first | exact HB.out | apply below_alloc | apply pw_below_drewN | apply below_drew1 | refine below_set ?_ GE146.out) | exact HB.out)) hb); have n2_ := Aside0.mk (hbox); have n3_ := Aside0.mk ((by rw [hg]; exact (below_size (by repeat (first | (with_reducible first | exact HB.out | apply below_alloc | apply pw_below_drewN | apply below_drew1 | refine below_set ?_ GE146.out) | exact HB.out))) : w.heap.size ≤ gb149)); have n4_ := Aside0.mk ((by rw [hg]; exact (below_size (by repeat (first | (with_reducible first | exact HB.out | apply below_alloc | apply pw_below_drewN | apply below_drew1 | refine below_set ?_ GE146.out) | exact HB.out))) : w.heap.size ≤ gb149)); have n5_ := Aside0.mk ((by rw [hg]; exact Nat.ne_of_lt (blk_lt (g := gb146) (o := .cells #[.int .i64 t144, .int .i64 t145] 24 (0, 0)) (by (with_reducible repeat (first | refine blk_drewN ?_ _ | refine blk_drew ?_ | refine blk_alloc ?_ _)); exact BK146.out)) : gb146 ≠ gb149)); have n6_ := Aside0.mk ((by rw [hg]; exact Nat.ne_of_gt (blk_lt (g := gb146) (o := .cells #[.int .i64 t144, .int .i64 t145] 24 (0, 0)) (by (with_reducible repeat (first | refine blk_drewN ?_ _ | refine blk_drew ?_ | refine blk_alloc ?_ _)); exact BK146.out)) : gb149 ≠ gb146)); clear BK146; clear HB; have BK146 := n0_; have HB := n1_; have BK149 := n2_; have GW149 := n3_; have GE149 := n4_; have NB146_149 := n5_; have NB149_146 := n6_; clear n0_ n1_ n2_ n3_ n4_ n5_ n6_; clear hb hbox hg; have hnb21 := NB149_146.out; have hnc21 := NB146_149.out; have hcz22_0 : w20.cell? ⟨gb149, 0, none⟩ = some (.int .i64 0) := (blk_cell BK149.out 0).trans rfl; have hcz22_1 : w20.cell? ⟨gb149, 1, none⟩ = some (.int .i64 0) := (blk_cell BK149.out 1).trans rfl; have hfz22_0 := blk_frozen BK149.out 0; have hfz22_1 := blk_frozen BK149.out 1; have hcz23_0 : w20.cell? ⟨gb146, 0, none⟩ = some (.int .i64 t144) := (blk_cell BK146.out 0).trans rfl; have hcz23_1 : w20.cell? ⟨gb146, 1, none⟩ = some (.int .i64 t145) := (blk_cell BK146.out 1).trans rfl; have hfz23_0 := blk_frozen BK146.out 0; have hfz23_1 := blk_frozen BK146.out 1) | ((with_reducible refine gate_callee (f := 36) rfl ?_); refine goesL_ (some 42) rfl rfl Try.func36 (by kernel_rfl) rfl #[.agg #[.int .i64 t144, .int .i64 t145], .int .i64 a4] rfl (by (try simp only [List.map_toArray, List.map_cons, List.map_nil]); first | done | rfl | (simp only [List.length_drop, List.length_take]; rfl)) ?_; (with_reducible refine (dynamolaw2_inside.calls t144 t145 a4 t150 _ A12.out).mono ?_); rintro e w24 ⟨rfl, hb⟩; refine ⟨_, rfl, ?_⟩; have n0_ := Aside0.mk (blk_below (g := gb146) (o := .cells #[.int .i64 t144, .int .i64 t145] 24 (0, 0)) (by (with_reducible repeat (first | refine blk_drewN ?_ _ | refine blk_drew ?_ | refine blk_alloc ?_ _)); refine blk_far ?_ NB146_149.out _; (with_reducible repeat (first | refine blk_drewN ?_ _ | refine blk_drew ?_ | refine blk_alloc ?_ _)); refine blk_far ?_ NB146_149.out _; (with_reducible repeat (first | refine blk_drewN ?_ _ | refine blk_drew ?_ | refine blk_alloc ?_ _)); exact BK146.out) hb); have n1_ := Aside0.mk (blk_below (g := gb149) (o := .cells #[.int .i64 t147, .int .i64 t148] 24 (0, 0)) (by (with_reducible repeat (first | refine blk_drewN ?_ _ | refine blk_drew ?_ | refine blk_alloc ?_ _)); refine blk_put (cs := #[.int .i64 t147, .int .i64 0]) ?_ 1 _ rfl; (with_reducible repeat (first | refine blk_drewN ?_ _ | refine blk_drew ?_ | refine blk_alloc ?_ _)); refine blk_put (cs := #[.int .i64 0, .int .i64 0]) ?_ 0 _ rfl; (with_reducible repeat (first | refine blk_drewN ?_ _ | refine blk_drew ?_ | refine blk_alloc ?_ _)); exact BK149.out) hb); have n2_ := Aside0.mk (below_step (by repeat (first | (with_reducible first | exact HB.out | apply below_alloc | apply pw_below_drewN | apply below_drew1 | refine below_set ?_ GE146.out | refine below_set ?_ GE149.out) | exact HB.out)) hb); clear BK146; clear BK149; clear HB; have BK146 := n0_; have BK149 := n1_; have HB := n2_; clear n0_ n1_ n2_; (try clear hb); (try clear hb2); (try clear hk); (try clear hi); have hcz25_0 : w24.cell? ⟨gb149, 0, none⟩ = some (.int .i64 t147) := (blk_cell BK149.out 0).trans rfl; have hcz25_1 : w24.cell? ⟨gb149, 1, none⟩ = some (.int .i64 t148) := (blk_cell BK149.out 1).trans rfl; have hfz25_0 := blk_frozen BK149.out 0; have hfz25_1 := blk_frozen BK149.out 1) | ((with_reducible refine gate_callee (f := 36) rfl ?_); refine goesL_ (some 45) rfl rfl Try.func36 (by kernel_rfl) rfl #[.agg #[.int .i64 t147, .int .i64 t148], .int .i64 a5] rfl (by (try simp only [List.map_toArray, List.map_cons, List.map_nil]); first | done | rfl | (simp only [List.length_drop, List.length_take]; rfl)) ?_; (with_reducible refine (dynamolaw2_inside.calls t147 t148 a5 t151 _ A13.out).mono ?_); rintro e w26 ⟨rfl, hb⟩; refine ⟨_, rfl, ?_⟩; have n0_ := Aside0.mk (blk_below (g := gb146) (o := .cells #[.int .i64 t144, .int .i64 t145] 24 (0, 0)) (by (with_reducible repeat (first | refine blk_drewN ?_ _ | refine blk_drew ?_ | refine blk_alloc ?_ _)); exact BK146.out) hb); have n1_ := Aside0.mk (blk_below (g := gb149) (o := .cells #[.int .i64 t147, .int .i64 t148] 24 (0, 0)) (by (with_reducible repeat (first | refine blk_drewN ?_ _ | refine blk_drew ?_ | refine blk_alloc ?_ _)); exact BK149.out) hb); have n2_ := Aside0.mk (below_step (by repeat (first | (with_reducible first | exact HB.out | apply below_alloc | apply pw_below_drewN | apply below_drew1 | refine below_set ?_ GE146.out | refine below_set ?_ GE149.out) | exact HB.out)) hb); clear BK146; clear BK149; clear HB; have BK146 := n0_; have BK149 := n1_; have HB := n2_; clear n0_ n1_ n2_; (try clear hb); (try clear hb2); (try clear hk); (try clear hi)))
    (try simp only [Act.put, List.setIfInBounds_toArray, List.set_cons_zero, List.set_cons_succ])
    go_cut [101] (fun v101 wc => ∃ (kq : Nat) (x101_13 : Bool), v101 = .bool x101_13 ∧ Aside0 (dynamolaw2_SpanHolds.j0 kq t150 t151 (Int.tmod a6 1073741824) true x101_13 t144 t145 t147 t148 = some true) ∧ Aside0 (kq ≤ k) ∧ Aside0 (wc.heap[gb146]? = some (.cells #[.int .i64 t144, .int .i64 t145] 24 (0, 0))) ∧ Aside0 (wc.heap[gb149]? = some (.cells #[.int .i64 t147, .int .i64 t148] 24 (0, 0))) ∧ Aside0 (Below w.heap.size w wc))
    case first =>
      have H := HC14.out
      clear HC14
      replace H := Option.bind_eq_some_iff.mp H
      obtain ⟨t152, A270, H⟩ := H
      replace H : (if t152 = true then ((span_Has.f t147 t148 t151).bind fun t153 => (if t153 = true then ((span_Add.f k t144 t145 t147 t148).bind fun bt154 => ((span_Has.f bt154.1 bt154.2 (wrap64 (t150 + t151))).bind fun t156 => (if t156 = true then ((span_Sub.f k t144 t145 t147 t148).bind fun bt157 => ((span_Has.f bt157.1 bt157.2 (wrap64 (t150 - t151))).bind fun t159 => (if t159 = true then ((span_Scale.f k t144 t145 (Int.tmod a6 1073741824)).bind fun bt160 => ((span_Has.f bt160.1 bt160.2 (wrap64 (t150 * (Int.tmod a6 1073741824)))).bind fun t162 => (if t162 = true then ((span_Hull.f t144 t145 t147 t148).bind fun bt163 => ((span_Has.f bt163.1 bt163.2 t150).bind fun t165 => (if t165 = true then ((span_Hull.f t144 t145 t147 t148).bind fun bt166 => ((span_Has.f bt166.1 bt166.2 t151).bind fun t168 => (dynamolaw2_SpanHolds.j0 k t150 t151 (Int.tmod a6 1073741824) true (!t168) t144 t145 t147 t148))) else (dynamolaw2_SpanHolds.j0 k t150 t151 (Int.tmod a6 1073741824) true true t144 t145 t147 t148)))) else (dynamolaw2_SpanHolds.j0 k t150 t151 (Int.tmod a6 1073741824) true true t144 t145 t147 t148)))) else (dynamolaw2_SpanHolds.j0 k t150 t151 (Int.tmod a6 1073741824) true true t144 t145 t147 t148)))) else (dynamolaw2_SpanHolds.j0 k t150 t151 (Int.tmod a6 1073741824) true true t144 t145 t147 t148)))) else (dynamolaw2_SpanHolds.j0 k t150 t151 (Int.tmod a6 1073741824) true true t144 t145 t147 t148))) else (dynamolaw2_SpanHolds.j0 k t150 t151 (Int.tmod a6 1073741824) true true t144 t145 t147 t148)) = some true := H
      have A27 := Aside0.mk A270
      clear A270
      by_cases c28 : t152 = true
      · subst c28
        have H1 : ((span_Has.f t147 t148 t151).bind fun t153 => (if t153 = true then ((span_Add.f k t144 t145 t147 t148).bind fun bt154 => ((span_Has.f bt154.1 bt154.2 (wrap64 (t150 + t151))).bind fun t156 => (if t156 = true then ((span_Sub.f k t144 t145 t147 t148).bind fun bt157 => ((span_Has.f bt157.1 bt157.2 (wrap64 (t150 - t151))).bind fun t159 => (if t159 = true then ((span_Scale.f k t144 t145 (Int.tmod a6 1073741824)).bind fun bt160 => ((span_Has.f bt160.1 bt160.2 (wrap64 (t150 * (Int.tmod a6 1073741824)))).bind fun t162 => (if t162 = true then ((span_Hull.f t144 t145 t147 t148).bind fun bt163 => ((span_Has.f bt163.1 bt163.2 t150).bind fun t165 => (if t165 = true then ((span_Hull.f t144 t145 t147 t148).bind fun bt166 => ((span_Has.f bt166.1 bt166.2 t151).bind fun t168 => (dynamolaw2_SpanHolds.j0 k t150 t151 (Int.tmod a6 1073741824) true (!t168) t144 t145 t147 t148))) else (dynamolaw2_SpanHolds.j0 k t150 t151 (Int.tmod a6 1073741824) true true t144 t145 t147 t148)))) else (dynamolaw2_SpanHolds.j0 k t150 t151 (Int.tmod a6 1073741824) true true t144 t145 t147 t148)))) else (dynamolaw2_SpanHolds.j0 k t150 t151 (Int.tmod a6 1073741824) true true t144 t145 t147 t148)))) else (dynamolaw2_SpanHolds.j0 k t150 t151 (Int.tmod a6 1073741824) true true t144 t145 t147 t148)))) else (dynamolaw2_SpanHolds.j0 k t150 t151 (Int.tmod a6 1073741824) true true t144 t145 t147 t148))) = some true := by first | (rw [if_pos rfl] at H; exact H) | exact H | rfl
        clear H
        have H := H1
        clear H1
        replace H := Option.bind_eq_some_iff.mp H
        obtain ⟨t153, A290, H⟩ := H
        replace H : (if t153 = true then ((span_Add.f k t144 t145 t147 t148).bind fun bt154 => ((span_Has.f bt154.1 bt154.2 (wrap64 (t150 + t151))).bind fun t156 => (if t156 = true then ((span_Sub.f k t144 t145 t147 t148).bind fun bt157 => ((span_Has.f bt157.1 bt157.2 (wrap64 (t150 - t151))).bind fun t159 => (if t159 = true then ((span_Scale.f k t144 t145 (Int.tmod a6 1073741824)).bind fun bt160 => ((span_Has.f bt160.1 bt160.2 (wrap64 (t150 * (Int.tmod a6 1073741824)))).bind fun t162 => (if t162 = true then ((span_Hull.f t144 t145 t147 t148).bind fun bt163 => ((span_Has.f bt163.1 bt163.2 t150).bind fun t165 => (if t165 = true then ((span_Hull.f t144 t145 t147 t148).bind fun bt166 => ((span_Has.f bt166.1 bt166.2 t151).bind fun t168 => (dynamolaw2_SpanHolds.j0 k t150 t151 (Int.tmod a6 1073741824) true (!t168) t144 t145 t147 t148))) else (dynamolaw2_SpanHolds.j0 k t150 t151 (Int.tmod a6 1073741824) true true t144 t145 t147 t148)))) else (dynamolaw2_SpanHolds.j0 k t150 t151 (Int.tmod a6 1073741824) true true t144 t145 t147 t148)))) else (dynamolaw2_SpanHolds.j0 k t150 t151 (Int.tmod a6 1073741824) true true t144 t145 t147 t148)))) else (dynamolaw2_SpanHolds.j0 k t150 t151 (Int.tmod a6 1073741824) true true t144 t145 t147 t148)))) else (dynamolaw2_SpanHolds.j0 k t150 t151 (Int.tmod a6 1073741824) true true t144 t145 t147 t148)) = some true := H
        have A29 := Aside0.mk A290
        clear A290
        by_cases c30 : t153 = true
        · subst c30
          have H1 : ((span_Add.f k t144 t145 t147 t148).bind fun bt154 => ((span_Has.f bt154.1 bt154.2 (wrap64 (t150 + t151))).bind fun t156 => (if t156 = true then ((span_Sub.f k t144 t145 t147 t148).bind fun bt157 => ((span_Has.f bt157.1 bt157.2 (wrap64 (t150 - t151))).bind fun t159 => (if t159 = true then ((span_Scale.f k t144 t145 (Int.tmod a6 1073741824)).bind fun bt160 => ((span_Has.f bt160.1 bt160.2 (wrap64 (t150 * (Int.tmod a6 1073741824)))).bind fun t162 => (if t162 = true then ((span_Hull.f t144 t145 t147 t148).bind fun bt163 => ((span_Has.f bt163.1 bt163.2 t150).bind fun t165 => (if t165 = true then ((span_Hull.f t144 t145 t147 t148).bind fun bt166 => ((span_Has.f bt166.1 bt166.2 t151).bind fun t168 => (dynamolaw2_SpanHolds.j0 k t150 t151 (Int.tmod a6 1073741824) true (!t168) t144 t145 t147 t148))) else (dynamolaw2_SpanHolds.j0 k t150 t151 (Int.tmod a6 1073741824) true true t144 t145 t147 t148)))) else (dynamolaw2_SpanHolds.j0 k t150 t151 (Int.tmod a6 1073741824) true true t144 t145 t147 t148)))) else (dynamolaw2_SpanHolds.j0 k t150 t151 (Int.tmod a6 1073741824) true true t144 t145 t147 t148)))) else (dynamolaw2_SpanHolds.j0 k t150 t151 (Int.tmod a6 1073741824) true true t144 t145 t147 t148)))) = some true := by first | (rw [if_pos rfl] at H; exact H) | exact H | rfl
          clear H
          have H := H1
          clear H1
          replace H := Option.bind_eq_some_iff.mp H
          obtain ⟨⟨t154, t155⟩, A310, H⟩ := H
          replace H : ((span_Has.f t154 t155 (wrap64 (t150 + t151))).bind fun t156 => (if t156 = true then ((span_Sub.f k t144 t145 t147 t148).bind fun bt157 => ((span_Has.f bt157.1 bt157.2 (wrap64 (t150 - t151))).bind fun t159 => (if t159 = true then ((span_Scale.f k t144 t145 (Int.tmod a6 1073741824)).bind fun bt160 => ((span_Has.f bt160.1 bt160.2 (wrap64 (t150 * (Int.tmod a6 1073741824)))).bind fun t162 => (if t162 = true then ((span_Hull.f t144 t145 t147 t148).bind fun bt163 => ((span_Has.f bt163.1 bt163.2 t150).bind fun t165 => (if t165 = true then ((span_Hull.f t144 t145 t147 t148).bind fun bt166 => ((span_Has.f bt166.1 bt166.2 t151).bind fun t168 => (dynamolaw2_SpanHolds.j0 k t150 t151 (Int.tmod a6 1073741824) true (!t168) t144 t145 t147 t148))) else (dynamolaw2_SpanHolds.j0 k t150 t151 (Int.tmod a6 1073741824) true true t144 t145 t147 t148)))) else (dynamolaw2_SpanHolds.j0 k t150 t151 (Int.tmod a6 1073741824) true true t144 t145 t147 t148)))) else (dynamolaw2_SpanHolds.j0 k t150 t151 (Int.tmod a6 1073741824) true true t144 t145 t147 t148)))) else (dynamolaw2_SpanHolds.j0 k t150 t151 (Int.tmod a6 1073741824) true true t144 t145 t147 t148))) = some true := H
          have A31 := Aside0.mk A310
          clear A310
          replace H := Option.bind_eq_some_iff.mp H
          obtain ⟨t156, A320, H⟩ := H
          replace H : (if t156 = true then ((span_Sub.f k t144 t145 t147 t148).bind fun bt157 => ((span_Has.f bt157.1 bt157.2 (wrap64 (t150 - t151))).bind fun t159 => (if t159 = true then ((span_Scale.f k t144 t145 (Int.tmod a6 1073741824)).bind fun bt160 => ((span_Has.f bt160.1 bt160.2 (wrap64 (t150 * (Int.tmod a6 1073741824)))).bind fun t162 => (if t162 = true then ((span_Hull.f t144 t145 t147 t148).bind fun bt163 => ((span_Has.f bt163.1 bt163.2 t150).bind fun t165 => (if t165 = true then ((span_Hull.f t144 t145 t147 t148).bind fun bt166 => ((span_Has.f bt166.1 bt166.2 t151).bind fun t168 => (dynamolaw2_SpanHolds.j0 k t150 t151 (Int.tmod a6 1073741824) true (!t168) t144 t145 t147 t148))) else (dynamolaw2_SpanHolds.j0 k t150 t151 (Int.tmod a6 1073741824) true true t144 t145 t147 t148)))) else (dynamolaw2_SpanHolds.j0 k t150 t151 (Int.tmod a6 1073741824) true true t144 t145 t147 t148)))) else (dynamolaw2_SpanHolds.j0 k t150 t151 (Int.tmod a6 1073741824) true true t144 t145 t147 t148)))) else (dynamolaw2_SpanHolds.j0 k t150 t151 (Int.tmod a6 1073741824) true true t144 t145 t147 t148)) = some true := H
          have A32 := Aside0.mk A320
          clear A320
          by_cases c33 : t156 = true
          · subst c33
            have H1 : ((span_Sub.f k t144 t145 t147 t148).bind fun bt157 => ((span_Has.f bt157.1 bt157.2 (wrap64 (t150 - t151))).bind fun t159 => (if t159 = true then ((span_Scale.f k t144 t145 (Int.tmod a6 1073741824)).bind fun bt160 => ((span_Has.f bt160.1 bt160.2 (wrap64 (t150 * (Int.tmod a6 1073741824)))).bind fun t162 => (if t162 = true then ((span_Hull.f t144 t145 t147 t148).bind fun bt163 => ((span_Has.f bt163.1 bt163.2 t150).bind fun t165 => (if t165 = true then ((span_Hull.f t144 t145 t147 t148).bind fun bt166 => ((span_Has.f bt166.1 bt166.2 t151).bind fun t168 => (dynamolaw2_SpanHolds.j0 k t150 t151 (Int.tmod a6 1073741824) true (!t168) t144 t145 t147 t148))) else (dynamolaw2_SpanHolds.j0 k t150 t151 (Int.tmod a6 1073741824) true true t144 t145 t147 t148)))) else (dynamolaw2_SpanHolds.j0 k t150 t151 (Int.tmod a6 1073741824) true true t144 t145 t147 t148)))) else (dynamolaw2_SpanHolds.j0 k t150 t151 (Int.tmod a6 1073741824) true true t144 t145 t147 t148)))) = some true := by first | (rw [if_pos rfl] at H; exact H) | exact H | rfl
            clear H
            have H := H1
            clear H1
            replace H := Option.bind_eq_some_iff.mp H
            obtain ⟨⟨t157, t158⟩, A340, H⟩ := H
            replace H : ((span_Has.f t157 t158 (wrap64 (t150 - t151))).bind fun t159 => (if t159 = true then ((span_Scale.f k t144 t145 (Int.tmod a6 1073741824)).bind fun bt160 => ((span_Has.f bt160.1 bt160.2 (wrap64 (t150 * (Int.tmod a6 1073741824)))).bind fun t162 => (if t162 = true then ((span_Hull.f t144 t145 t147 t148).bind fun bt163 => ((span_Has.f bt163.1 bt163.2 t150).bind fun t165 => (if t165 = true then ((span_Hull.f t144 t145 t147 t148).bind fun bt166 => ((span_Has.f bt166.1 bt166.2 t151).bind fun t168 => (dynamolaw2_SpanHolds.j0 k t150 t151 (Int.tmod a6 1073741824) true (!t168) t144 t145 t147 t148))) else (dynamolaw2_SpanHolds.j0 k t150 t151 (Int.tmod a6 1073741824) true true t144 t145 t147 t148)))) else (dynamolaw2_SpanHolds.j0 k t150 t151 (Int.tmod a6 1073741824) true true t144 t145 t147 t148)))) else (dynamolaw2_SpanHolds.j0 k t150 t151 (Int.tmod a6 1073741824) true true t144 t145 t147 t148))) = some true := H
            have A34 := Aside0.mk A340
            clear A340
            replace H := Option.bind_eq_some_iff.mp H
            obtain ⟨t159, A350, H⟩ := H
            replace H : (if t159 = true then ((span_Scale.f k t144 t145 (Int.tmod a6 1073741824)).bind fun bt160 => ((span_Has.f bt160.1 bt160.2 (wrap64 (t150 * (Int.tmod a6 1073741824)))).bind fun t162 => (if t162 = true then ((span_Hull.f t144 t145 t147 t148).bind fun bt163 => ((span_Has.f bt163.1 bt163.2 t150).bind fun t165 => (if t165 = true then ((span_Hull.f t144 t145 t147 t148).bind fun bt166 => ((span_Has.f bt166.1 bt166.2 t151).bind fun t168 => (dynamolaw2_SpanHolds.j0 k t150 t151 (Int.tmod a6 1073741824) true (!t168) t144 t145 t147 t148))) else (dynamolaw2_SpanHolds.j0 k t150 t151 (Int.tmod a6 1073741824) true true t144 t145 t147 t148)))) else (dynamolaw2_SpanHolds.j0 k t150 t151 (Int.tmod a6 1073741824) true true t144 t145 t147 t148)))) else (dynamolaw2_SpanHolds.j0 k t150 t151 (Int.tmod a6 1073741824) true true t144 t145 t147 t148)) = some true := H
            have A35 := Aside0.mk A350
            clear A350
            by_cases c36 : t159 = true
            · subst c36
              have H1 : ((span_Scale.f k t144 t145 (Int.tmod a6 1073741824)).bind fun bt160 => ((span_Has.f bt160.1 bt160.2 (wrap64 (t150 * (Int.tmod a6 1073741824)))).bind fun t162 => (if t162 = true then ((span_Hull.f t144 t145 t147 t148).bind fun bt163 => ((span_Has.f bt163.1 bt163.2 t150).bind fun t165 => (if t165 = true then ((span_Hull.f t144 t145 t147 t148).bind fun bt166 => ((span_Has.f bt166.1 bt166.2 t151).bind fun t168 => (dynamolaw2_SpanHolds.j0 k t150 t151 (Int.tmod a6 1073741824) true (!t168) t144 t145 t147 t148))) else (dynamolaw2_SpanHolds.j0 k t150 t151 (Int.tmod a6 1073741824) true true t144 t145 t147 t148)))) else (dynamolaw2_SpanHolds.j0 k t150 t151 (Int.tmod a6 1073741824) true true t144 t145 t147 t148)))) = some true := by first | (rw [if_pos rfl] at H; exact H) | exact H | rfl
              clear H
              have H := H1
              clear H1
              replace H := Option.bind_eq_some_iff.mp H
              obtain ⟨⟨t160, t161⟩, A370, H⟩ := H
              replace H : ((span_Has.f t160 t161 (wrap64 (t150 * (Int.tmod a6 1073741824)))).bind fun t162 => (if t162 = true then ((span_Hull.f t144 t145 t147 t148).bind fun bt163 => ((span_Has.f bt163.1 bt163.2 t150).bind fun t165 => (if t165 = true then ((span_Hull.f t144 t145 t147 t148).bind fun bt166 => ((span_Has.f bt166.1 bt166.2 t151).bind fun t168 => (dynamolaw2_SpanHolds.j0 k t150 t151 (Int.tmod a6 1073741824) true (!t168) t144 t145 t147 t148))) else (dynamolaw2_SpanHolds.j0 k t150 t151 (Int.tmod a6 1073741824) true true t144 t145 t147 t148)))) else (dynamolaw2_SpanHolds.j0 k t150 t151 (Int.tmod a6 1073741824) true true t144 t145 t147 t148))) = some true := H
              have A37 := Aside0.mk A370
              clear A370
              replace H := Option.bind_eq_some_iff.mp H
              obtain ⟨t162, A380, H⟩ := H
              replace H : (if t162 = true then ((span_Hull.f t144 t145 t147 t148).bind fun bt163 => ((span_Has.f bt163.1 bt163.2 t150).bind fun t165 => (if t165 = true then ((span_Hull.f t144 t145 t147 t148).bind fun bt166 => ((span_Has.f bt166.1 bt166.2 t151).bind fun t168 => (dynamolaw2_SpanHolds.j0 k t150 t151 (Int.tmod a6 1073741824) true (!t168) t144 t145 t147 t148))) else (dynamolaw2_SpanHolds.j0 k t150 t151 (Int.tmod a6 1073741824) true true t144 t145 t147 t148)))) else (dynamolaw2_SpanHolds.j0 k t150 t151 (Int.tmod a6 1073741824) true true t144 t145 t147 t148)) = some true := H
              have A38 := Aside0.mk A380
              clear A380
              by_cases c39 : t162 = true
              · subst c39
                have H1 : ((span_Hull.f t144 t145 t147 t148).bind fun bt163 => ((span_Has.f bt163.1 bt163.2 t150).bind fun t165 => (if t165 = true then ((span_Hull.f t144 t145 t147 t148).bind fun bt166 => ((span_Has.f bt166.1 bt166.2 t151).bind fun t168 => (dynamolaw2_SpanHolds.j0 k t150 t151 (Int.tmod a6 1073741824) true (!t168) t144 t145 t147 t148))) else (dynamolaw2_SpanHolds.j0 k t150 t151 (Int.tmod a6 1073741824) true true t144 t145 t147 t148)))) = some true := by first | (rw [if_pos rfl] at H; exact H) | exact H | rfl
                clear H
                have H := H1
                clear H1
                replace H := Option.bind_eq_some_iff.mp H
                obtain ⟨⟨t163, t164⟩, A400, H⟩ := H
                replace H : ((span_Has.f t163 t164 t150).bind fun t165 => (if t165 = true then ((span_Hull.f t144 t145 t147 t148).bind fun bt166 => ((span_Has.f bt166.1 bt166.2 t151).bind fun t168 => (dynamolaw2_SpanHolds.j0 k t150 t151 (Int.tmod a6 1073741824) true (!t168) t144 t145 t147 t148))) else (dynamolaw2_SpanHolds.j0 k t150 t151 (Int.tmod a6 1073741824) true true t144 t145 t147 t148))) = some true := H
                have A40 := Aside0.mk A400
                clear A400
                replace H := Option.bind_eq_some_iff.mp H
                obtain ⟨t165, A410, H⟩ := H
                replace H : (if t165 = true then ((span_Hull.f t144 t145 t147 t148).bind fun bt166 => ((span_Has.f bt166.1 bt166.2 t151).bind fun t168 => (dynamolaw2_SpanHolds.j0 k t150 t151 (Int.tmod a6 1073741824) true (!t168) t144 t145 t147 t148))) else (dynamolaw2_SpanHolds.j0 k t150 t151 (Int.tmod a6 1073741824) true true t144 t145 t147 t148)) = some true := H
                have A41 := Aside0.mk A410
                clear A410
                by_cases c42 : t165 = true
                · subst c42
                  have H1 : ((span_Hull.f t144 t145 t147 t148).bind fun bt166 => ((span_Has.f bt166.1 bt166.2 t151).bind fun t168 => (dynamolaw2_SpanHolds.j0 k t150 t151 (Int.tmod a6 1073741824) true (!t168) t144 t145 t147 t148))) = some true := by first | (rw [if_pos rfl] at H; exact H) | exact H | rfl
                  clear H
                  have H := H1
                  clear H1
                  replace H := Option.bind_eq_some_iff.mp H
                  obtain ⟨⟨t166, t167⟩, A430, H⟩ := H
                  have A431 := Option.some.inj (A40.out.symm.trans A430)
                  clear A430
                  simp only [Prod.mk.injEq] at A431
                  obtain ⟨rfl, rfl⟩ := A431
                  replace H : ((span_Has.f t163 t164 t151).bind fun t168 => (dynamolaw2_SpanHolds.j0 k t150 t151 (Int.tmod a6 1073741824) true (!t168) t144 t145 t147 t148)) = some true := H
                  replace H := Option.bind_eq_some_iff.mp H
                  obtain ⟨t168, A440, H⟩ := H
                  replace H : (dynamolaw2_SpanHolds.j0 k t150 t151 (Int.tmod a6 1073741824) true (!t168) t144 t145 t147 t148) = some true := H
                  have A44 := Aside0.mk A440
                  clear A440
                  have H' := Aside0.mk H
                  clear H
                  have hnb45 := NB146_149.out
                  have hnc45 := NB149_146.out
                  have hcz46_0 : w26.cell? ⟨gb146, 0, none⟩ = some (.int .i64 t144) := (blk_cell BK146.out 0).trans rfl
                  have hcz46_1 : w26.cell? ⟨gb146, 1, none⟩ = some (.int .i64 t145) := (blk_cell BK146.out 1).trans rfl
                  have hfz46_0 := blk_frozen BK146.out 0
                  have hfz46_1 := blk_frozen BK146.out 1
                  go_wp2_with (first | ((with_reducible refine gate_callee (f := 15) rfl ?_); refine goesL_ (some 48) rfl rfl Try.func15 (by kernel_rfl) rfl #[.agg #[.int .i64 t144, .int .i64 t145], .int .i64 t150] rfl (by (try simp only [List.map_toArray, List.map_cons, List.map_nil]); first | done | rfl | (simp only [List.length_drop, List.length_take]; rfl)) ?_; (with_reducible refine (span_Has.calls t144 t145 t150 true _ A27.out).mono ?_); rintro e w47 ⟨rfl, hb⟩; refine ⟨_, rfl, ?_⟩; have n0_ := Aside0.mk (blk_below (g := gb146) (o := .cells #[.int .i64 t144, .int .i64 t145] 24 (0, 0)) (by (with_reducible repeat (first | refine blk_drewN ?_ _ | refine blk_drew ?_ | refine blk_alloc ?_ _)); exact BK146.out) hb); have n1_ := Aside0.mk (blk_below (g := gb149) (o := .cells #[.int .i64 t147, .int .i64 t148] 24 (0, 0)) (by (with_reducible repeat (first | refine blk_drewN ?_ _ | refine blk_drew ?_ | refine blk_alloc ?_ _)); exact BK149.out) hb); have n2_ := Aside0.mk (below_step (by repeat (first | (with_reducible first | exact HB.out | apply below_alloc | apply pw_below_drewN | apply below_drew1 | refine below_set ?_ GE146.out | refine below_set ?_ GE149.out) | exact HB.out)) hb); clear BK146; clear BK149; clear HB; have BK146 := n0_; have BK149 := n1_; have HB := n2_; clear n0_ n1_ n2_; (try clear hb); (try clear hb2); (try clear hk); (try clear hi); have hcz48_0 : w47.cell? ⟨gb149, 0, none⟩ = some (.int .i64 t147) := (blk_cell BK149.out 0).trans rfl; have hcz48_1 : w47.cell? ⟨gb149, 1, none⟩ = some (.int .i64 t148) := (blk_cell BK149.out 1).trans rfl; have hfz48_0 := blk_frozen BK149.out 0; have hfz48_1 := blk_frozen BK149.out 1) | (go_at_call 15; (with_reducible refine (span_Has.calls t147 t148 t151 true _ A29.out).mono ?_); rintro e w49 ⟨rfl, hb⟩; have n0_ := Aside0.mk (blk_below (g := gb146) (o := .cells #[.int .i64 t144, .int .i64 t145] 24 (0, 0)) (by (with_reducible repeat (first | refine blk_drewN ?_ _ | refine blk_drew ?_ | refine blk_alloc ?_ _)); exact BK146.out) hb); have n1_ := Aside0.mk (blk_below (g := gb149) (o := .cells #[.int .i64 t147, .int .i64 t148] 24 (0, 0)) (by (with_reducible repeat (first | refine blk_drewN ?_ _ | refine blk_drew ?_ | refine blk_alloc ?_ _)); exact BK149.out) hb); have n2_ := Aside0.mk (below_step (by repeat (first | (with_reducible first | exact HB.out | apply below_alloc | apply pw_below_drewN | apply below_drew1 | refine below_set ?_ GE146.out | refine below_set ?_ GE149.out) | exact HB.out)) hb); clear BK146; clear BK149; clear HB; have BK146 := n0_; have BK149 := n1_; have HB := n2_; clear n0_ n1_ n2_; (try clear hb); (try clear hb2); (try clear hk); (try clear hi); have hcz50_0 : w49.cell? ⟨gb146, 0, none⟩ = some (.int .i64 t144) := (blk_cell BK146.out 0).trans rfl; have hcz50_1 : w49.cell? ⟨gb146, 1, none⟩ = some (.int .i64 t145) := (blk_cell BK146.out 1).trans rfl; have hfz50_0 := blk_frozen BK146.out 0; have hfz50_1 := blk_frozen BK146.out 1; have hcz51_0 : w49.cell? ⟨gb149, 0, none⟩ = some (.int .i64 t147) := (blk_cell BK149.out 0).trans rfl; have hcz51_1 : w49.cell? ⟨gb149, 1, none⟩ = some (.int .i64 t148) := (blk_cell BK149.out 1).trans rfl; have hfz51_0 := blk_frozen BK149.out 0; have hfz51_1 := blk_frozen BK149.out 1) | (go_at_call 37; (with_reducible refine (span_Add.calls k t144 t145 t147 t148 t154 t155 _ A31.out).mono ?_); rintro e w52 ⟨rfl, hb⟩; have n0_ := Aside0.mk (blk_below (g := gb146) (o := .cells #[.int .i64 t144, .int .i64 t145] 24 (0, 0)) (by (with_reducible repeat (first | refine blk_drewN ?_ _ | refine blk_drew ?_ | refine blk_alloc ?_ _)); exact BK146.out) hb); have n1_ := Aside0.mk (blk_below (g := gb149) (o := .cells #[.int .i64 t147, .int .i64 t148] 24 (0, 0)) (by (with_reducible repeat (first | refine blk_drewN ?_ _ | refine blk_drew ?_ | refine blk_alloc ?_ _)); exact BK149.out) hb); have n2_ := Aside0.mk (below_step (by repeat (first | (with_reducible first | exact HB.out | apply below_alloc | apply pw_below_drewN | apply below_drew1 | refine below_set ?_ GE146.out | refine below_set ?_ GE149.out) | exact HB.out)) hb); clear BK146; clear BK149; clear HB; have BK146 := n0_; have BK149 := n1_; have HB := n2_; clear n0_ n1_ n2_; (try clear hb); (try clear hb2); (try clear hk); (try clear hi)) | (go_at_call 15; (with_reducible refine (span_Has.calls t154 t155 (wrap64 (t150 + t151)) true _ A32.out).mono ?_); rintro e w53 ⟨rfl, hb⟩; have n0_ := Aside0.mk (blk_below (g := gb146) (o := .cells #[.int .i64 t144, .int .i64 t145] 24 (0, 0)) (by (with_reducible repeat (first | refine blk_drewN ?_ _ | refine blk_drew ?_ | refine blk_alloc ?_ _)); exact BK146.out) hb); have n1_ := Aside0.mk (blk_below (g := gb149) (o := .cells #[.int .i64 t147, .int .i64 t148] 24 (0, 0)) (by (with_reducible repeat (first | refine blk_drewN ?_ _ | refine blk_drew ?_ | refine blk_alloc ?_ _)); exact BK149.out) hb); have n2_ := Aside0.mk (below_step (by repeat (first | (with_reducible first | exact HB.out | apply below_alloc | apply pw_below_drewN | apply below_drew1 | refine below_set ?_ GE146.out | refine below_set ?_ GE149.out) | exact HB.out)) hb); clear BK146; clear BK149; clear HB; have BK146 := n0_; have BK149 := n1_; have HB := n2_; clear n0_ n1_ n2_; (try clear hb); (try clear hb2); (try clear hk); (try clear hi); have hcz54_0 : w53.cell? ⟨gb146, 0, none⟩ = some (.int .i64 t144) := (blk_cell BK146.out 0).trans rfl; have hcz54_1 : w53.cell? ⟨gb146, 1, none⟩ = some (.int .i64 t145) := (blk_cell BK146.out 1).trans rfl; have hfz54_0 := blk_frozen BK146.out 0; have hfz54_1 := blk_frozen BK146.out 1; have hcz55_0 : w53.cell? ⟨gb149, 0, none⟩ = some (.int .i64 t147) := (blk_cell BK149.out 0).trans rfl; have hcz55_1 : w53.cell? ⟨gb149, 1, none⟩ = some (.int .i64 t148) := (blk_cell BK149.out 1).trans rfl; have hfz55_0 := blk_frozen BK149.out 0; have hfz55_1 := blk_frozen BK149.out 1) | (go_at_call 38; (with_reducible refine (span_Sub.calls k t144 t145 t147 t148 t157 t158 _ A34.out).mono ?_); rintro e w56 ⟨rfl, hb⟩; have n0_ := Aside0.mk (blk_below (g := gb146) (o := .cells #[.int .i64 t144, .int .i64 t145] 24 (0, 0)) (by (with_reducible repeat (first | refine blk_drewN ?_ _ | refine blk_drew ?_ | refine blk_alloc ?_ _)); exact BK146.out) hb); have n1_ := Aside0.mk (blk_below (g := gb149) (o := .cells #[.int .i64 t147, .int .i64 t148] 24 (0, 0)) (by (with_reducible repeat (first | refine blk_drewN ?_ _ | refine blk_drew ?_ | refine blk_alloc ?_ _)); exact BK149.out) hb); have n2_ := Aside0.mk (below_step (by repeat (first | (with_reducible first | exact HB.out | apply below_alloc | apply pw_below_drewN | apply below_drew1 | refine below_set ?_ GE146.out | refine below_set ?_ GE149.out) | exact HB.out)) hb); clear BK146; clear BK149; clear HB; have BK146 := n0_; have BK149 := n1_; have HB := n2_; clear n0_ n1_ n2_; (try clear hb); (try clear hb2); (try clear hk); (try clear hi)) | (go_at_call 15; (with_reducible refine (span_Has.calls t157 t158 (wrap64 (t150 - t151)) true _ A35.out).mono ?_); rintro e w57 ⟨rfl, hb⟩; have n0_ := Aside0.mk (blk_below (g := gb146) (o := .cells #[.int .i64 t144, .int .i64 t145] 24 (0, 0)) (by (with_reducible repeat (first | refine blk_drewN ?_ _ | refine blk_drew ?_ | refine blk_alloc ?_ _)); exact BK146.out) hb); have n1_ := Aside0.mk (blk_below (g := gb149) (o := .cells #[.int .i64 t147, .int .i64 t148] 24 (0, 0)) (by (with_reducible repeat (first | refine blk_drewN ?_ _ | refine blk_drew ?_ | refine blk_alloc ?_ _)); exact BK149.out) hb); have n2_ := Aside0.mk (below_step (by repeat (first | (with_reducible first | exact HB.out | apply below_alloc | apply pw_below_drewN | apply below_drew1 | refine below_set ?_ GE146.out | refine below_set ?_ GE149.out) | exact HB.out)) hb); clear BK146; clear BK149; clear HB; have BK146 := n0_; have BK149 := n1_; have HB := n2_; clear n0_ n1_ n2_; (try clear hb); (try clear hb2); (try clear hk); (try clear hi); have hcz58_0 : w57.cell? ⟨gb146, 0, none⟩ = some (.int .i64 t144) := (blk_cell BK146.out 0).trans rfl; have hcz58_1 : w57.cell? ⟨gb146, 1, none⟩ = some (.int .i64 t145) := (blk_cell BK146.out 1).trans rfl; have hfz58_0 := blk_frozen BK146.out 0; have hfz58_1 := blk_frozen BK146.out 1) | (go_at_call 39; (with_reducible refine (span_Scale.calls k t144 t145 (Int.tmod a6 1073741824) t160 t161 _ A37.out).mono ?_); rintro e w59 ⟨rfl, hb⟩; have n0_ := Aside0.mk (blk_below (g := gb146) (o := .cells #[.int .i64 t144, .int .i64 t145] 24 (0, 0)) (by (with_reducible repeat (first | refine blk_drewN ?_ _ | refine blk_drew ?_ | refine blk_alloc ?_ _)); exact BK146.out) hb); have n1_ := Aside0.mk (blk_below (g := gb149) (o := .cells #[.int .i64 t147, .int .i64 t148] 24 (0, 0)) (by (with_reducible repeat (first | refine blk_drewN ?_ _ | refine blk_drew ?_ | refine blk_alloc ?_ _)); exact BK149.out) hb); have n2_ := Aside0.mk (below_step (by repeat (first | (with_reducible first | exact HB.out | apply below_alloc | apply pw_below_drewN | apply below_drew1 | refine below_set ?_ GE146.out | refine below_set ?_ GE149.out) | exact HB.out)) hb); clear BK146; clear BK149; clear HB; have BK146 := n0_; have BK149 := n1_; have HB := n2_; clear n0_ n1_ n2_; (try clear hb); (try clear hb2); (try clear hk); (try clear hi)) | (go_at_call 15; (with_reducible refine (span_Has.calls t160 t161 (wrap64 (t150 * (Int.tmod a6 1073741824))) true _ A38.out).mono ?_); rintro e w60 ⟨rfl, hb⟩; have n0_ := Aside0.mk (blk_below (g := gb146) (o := .cells #[.int .i64 t144, .int .i64 t145] 24 (0, 0)) (by (with_reducible repeat (first | refine blk_drewN ?_ _ | refine blk_drew ?_ | refine blk_alloc ?_ _)); exact BK146.out) hb); have n1_ := Aside0.mk (blk_below (g := gb149) (o := .cells #[.int .i64 t147, .int .i64 t148] 24 (0, 0)) (by (with_reducible repeat (first | refine blk_drewN ?_ _ | refine blk_drew ?_ | refine blk_alloc ?_ _)); exact BK149.out) hb); have n2_ := Aside0.mk (below_step (by repeat (first | (with_reducible first | exact HB.out | apply below_alloc | apply pw_below_drewN | apply below_drew1 | refine below_set ?_ GE146.out | refine below_set ?_ GE149.out) | exact HB.out)) hb); clear BK146; clear BK149; clear HB; have BK146 := n0_; have BK149 := n1_; have HB := n2_; clear n0_ n1_ n2_; (try clear hb); (try clear hb2); (try clear hk); (try clear hi); have hcz61_0 : w60.cell? ⟨gb146, 0, none⟩ = some (.int .i64 t144) := (blk_cell BK146.out 0).trans rfl; have hcz61_1 : w60.cell? ⟨gb146, 1, none⟩ = some (.int .i64 t145) := (blk_cell BK146.out 1).trans rfl; have hfz61_0 := blk_frozen BK146.out 0; have hfz61_1 := blk_frozen BK146.out 1; have hcz62_0 : w60.cell? ⟨gb149, 0, none⟩ = some (.int .i64 t147) := (blk_cell BK149.out 0).trans rfl; have hcz62_1 : w60.cell? ⟨gb149, 1, none⟩ = some (.int .i64 t148) := (blk_cell BK149.out 1).trans rfl; have hfz62_0 := blk_frozen BK149.out 0; have hfz62_1 := blk_frozen BK149.out 1) | (go_at_call 16; (with_reducible refine (span_Hull.calls t144 t145 t147 t148 t163 t164 _ A40.out).mono ?_); rintro e w63 ⟨rfl, hb⟩; have n0_ := Aside0.mk (blk_below (g := gb146) (o := .cells #[.int .i64 t144, .int .i64 t145] 24 (0, 0)) (by (with_reducible repeat (first | refine blk_drewN ?_ _ | refine blk_drew ?_ | refine blk_alloc ?_ _)); exact BK146.out) hb); have n1_ := Aside0.mk (blk_below (g := gb149) (o := .cells #[.int .i64 t147, .int .i64 t148] 24 (0, 0)) (by (with_reducible repeat (first | refine blk_drewN ?_ _ | refine blk_drew ?_ | refine blk_alloc ?_ _)); exact BK149.out) hb); have n2_ := Aside0.mk (below_step (by repeat (first | (with_reducible first | exact HB.out | apply below_alloc | apply pw_below_drewN | apply below_drew1 | refine below_set ?_ GE146.out | refine below_set ?_ GE149.out) | exact HB.out)) hb); clear BK146; clear BK149; clear HB; have BK146 := n0_; have BK149 := n1_; have HB := n2_; clear n0_ n1_ n2_; (try clear hb); (try clear hb2); (try clear hk); (try clear hi)) | (go_at_call 15; (with_reducible refine (span_Has.calls t163 t164 t150 true _ A41.out).mono ?_); rintro e w64 ⟨rfl, hb⟩; have n0_ := Aside0.mk (blk_below (g := gb146) (o := .cells #[.int .i64 t144, .int .i64 t145] 24 (0, 0)) (by (with_reducible repeat (first | refine blk_drewN ?_ _ | refine blk_drew ?_ | refine blk_alloc ?_ _)); exact BK146.out) hb); have n1_ := Aside0.mk (blk_below (g := gb149) (o := .cells #[.int .i64 t147, .int .i64 t148] 24 (0, 0)) (by (with_reducible repeat (first | refine blk_drewN ?_ _ | refine blk_drew ?_ | refine blk_alloc ?_ _)); exact BK149.out) hb); have n2_ := Aside0.mk (below_step (by repeat (first | (with_reducible first | exact HB.out | apply below_alloc | apply pw_below_drewN | apply below_drew1 | refine below_set ?_ GE146.out | refine below_set ?_ GE149.out) | exact HB.out)) hb); clear BK146; clear BK149; clear HB; have BK146 := n0_; have BK149 := n1_; have HB := n2_; clear n0_ n1_ n2_; (try clear hb); (try clear hb2); (try clear hk); (try clear hi); have hcz65_0 : w64.cell? ⟨gb146, 0, none⟩ = some (.int .i64 t144) := (blk_cell BK146.out 0).trans rfl; have hcz65_1 : w64.cell? ⟨gb146, 1, none⟩ = some (.int .i64 t145) := (blk_cell BK146.out 1).trans rfl; have hfz65_0 := blk_frozen BK146.out 0; have hfz65_1 := blk_frozen BK146.out 1; have hcz66_0 : w64.cell? ⟨gb149, 0, none⟩ = some (.int .i64 t147) := (blk_cell BK149.out 0).trans rfl; have hcz66_1 : w64.cell? ⟨gb149, 1, none⟩ = some (.int .i64 t148) := (blk_cell BK149.out 1).trans rfl; have hfz66_0 := blk_frozen BK149.out 0; have hfz66_1 := blk_frozen BK149.out 1) | (go_at_call 16; (with_reducible refine (span_Hull.calls t144 t145 t147 t148 t163 t164 _ A40.out).mono ?_); rintro e w67 ⟨rfl, hb⟩; have n0_ := Aside0.mk (blk_below (g := gb146) (o := .cells #[.int .i64 t144, .int .i64 t145] 24 (0, 0)) (by (with_reducible repeat (first | refine blk_drewN ?_ _ | refine blk_drew ?_ | refine blk_alloc ?_ _)); exact BK146.out) hb); have n1_ := Aside0.mk (blk_below (g := gb149) (o := .cells #[.int .i64 t147, .int .i64 t148] 24 (0, 0)) (by (with_reducible repeat (first | refine blk_drewN ?_ _ | refine blk_drew ?_ | refine blk_alloc ?_ _)); exact BK149.out) hb); have n2_ := Aside0.mk (below_step (by repeat (first | (with_reducible first | exact HB.out | apply below_alloc | apply pw_below_drewN | apply below_drew1 | refine below_set ?_ GE146.out | refine below_set ?_ GE149.out) | exact HB.out)) hb); clear BK146; clear BK149; clear HB; have BK146 := n0_; have BK149 := n1_; have HB := n2_; clear n0_ n1_ n2_; (try clear hb); (try clear hb2); (try clear hk); (try clear hi)) | (go_at_call 15; (with_reducible refine (span_Has.calls t163 t164 t151 t168 _ A44.out).mono ?_); rintro e w68 ⟨rfl, hb⟩; have n0_ := Aside0.mk (blk_below (g := gb146) (o := .cells #[.int .i64 t144, .int .i64 t145] 24 (0, 0)) (by (with_reducible repeat (first | refine blk_drewN ?_ _ | refine blk_drew ?_ | refine blk_alloc ?_ _)); exact BK146.out) hb); have n1_ := Aside0.mk (blk_below (g := gb149) (o := .cells #[.int .i64 t147, .int .i64 t148] 24 (0, 0)) (by (with_reducible repeat (first | refine blk_drewN ?_ _ | refine blk_drew ?_ | refine blk_alloc ?_ _)); exact BK149.out) hb); have n2_ := Aside0.mk (below_step (by repeat (first | (with_reducible first | exact HB.out | apply below_alloc | apply pw_below_drewN | apply below_drew1 | refine below_set ?_ GE146.out | refine below_set ?_ GE149.out) | exact HB.out)) hb); clear BK146; clear BK149; clear HB; have BK146 := n0_; have BK149 := n1_; have HB := n2_; clear n0_ n1_ n2_; (try clear hb); (try clear hb2); (try clear hk); (try clear hi)))
                  go_meet
                  case rel => exact ⟨_, (!t168), (by first | rfl | (simp; done) | (simp [*]; done)), H', ⟨by first | omega | exact Nat.le_refl _⟩, ⟨by (with_reducible repeat (first | refine blk_drewN ?_ _ | refine blk_drew ?_ | refine blk_alloc ?_ _)); exact BK146.out⟩, ⟨by (with_reducible repeat (first | refine blk_drewN ?_ _ | refine blk_drew ?_ | refine blk_alloc ?_ _)); exact BK149.out⟩, ⟨by repeat (first | (with_reducible first | exact HB.out | apply below_alloc | apply pw_below_drewN | apply below_drew1 | refine below_set ?_ GE146.out | refine below_set ?_ GE149.out) | exact HB.out)⟩⟩
                · replace c42 := Bool.eq_false_iff.mpr c42
                  subst c42
                  have H1 : (dynamolaw2_SpanHolds.j0 k t150 t151 (Int.tmod a6 1073741824) true true t144 t145 t147 t148) = some true := by first | (rw [if_neg (show ¬ (false = true) by decide)] at H; exact H) | exact H | rfl
                  clear H
                  have H := H1
                  clear H1
                  have H' := Aside0.mk H
                  clear H
                  have hnb69 := NB146_149.out
                  have hnc69 := NB149_146.out
                  have hcz70_0 : w26.cell? ⟨gb146, 0, none⟩ = some (.int .i64 t144) := (blk_cell BK146.out 0).trans rfl
                  have hcz70_1 : w26.cell? ⟨gb146, 1, none⟩ = some (.int .i64 t145) := (blk_cell BK146.out 1).trans rfl
                  have hfz70_0 := blk_frozen BK146.out 0
                  have hfz70_1 := blk_frozen BK146.out 1
                  go_wp2_with (first | ((with_reducible refine gate_callee (f := 15) rfl ?_); refine goesL_ (some 48) rfl rfl Try.func15 (by kernel_rfl) rfl #[.agg #[.int .i64 t144, .int .i64 t145], .int .i64 t150] rfl (by (try simp only [List.map_toArray, List.map_cons, List.map_nil]); first | done | rfl | (simp only [List.length_drop, List.length_take]; rfl)) ?_; (with_reducible refine (span_Has.calls t144 t145 t150 true _ A27.out).mono ?_); rintro e w71 ⟨rfl, hb⟩; refine ⟨_, rfl, ?_⟩; have n0_ := Aside0.mk (blk_below (g := gb146) (o := .cells #[.int .i64 t144, .int .i64 t145] 24 (0, 0)) (by (with_reducible repeat (first | refine blk_drewN ?_ _ | refine blk_drew ?_ | refine blk_alloc ?_ _)); exact BK146.out) hb); have n1_ := Aside0.mk (blk_below (g := gb149) (o := .cells #[.int .i64 t147, .int .i64 t148] 24 (0, 0)) (by (with_reducible repeat (first | refine blk_drewN ?_ _ | refine blk_drew ?_ | refine blk_alloc ?_ _)); exact BK149.out) hb); have n2_ := Aside0.mk (below_step (by repeat (first | (with_reducible first | exact HB.out | apply below_alloc | apply pw_below_drewN | apply below_drew1 | refine below_set ?_ GE146.out | refine below_set ?_ GE149.out) | exact HB.out)) hb); clear BK146; clear BK149; clear HB; have BK146 := n0_; have BK149 := n1_; have HB := n2_; clear n0_ n1_ n2_; (try clear hb); (try clear hb2); (try clear hk); (try clear hi); have hcz72_0 : w71.cell? ⟨gb149, 0, none⟩ = some (.int .i64 t147) := (blk_cell BK149.out 0).trans rfl; have hcz72_1 : w71.cell? ⟨gb149, 1, none⟩ = some (.int .i64 t148) := (blk_cell BK149.out 1).trans rfl; have hfz72_0 := blk_frozen BK149.out 0; have hfz72_1 := blk_frozen BK149.out 1) | (go_at_call 15; (with_reducible refine (span_Has.calls t147 t148 t151 true _ A29.out).mono ?_); rintro e w73 ⟨rfl, hb⟩; have n0_ := Aside0.mk (blk_below (g := gb146) (o := .cells #[.int .i64 t144, .int .i64 t145] 24 (0, 0)) (by (with_reducible repeat (first | refine blk_drewN ?_ _ | refine blk_drew ?_ | refine blk_alloc ?_ _)); exact BK146.out) hb); have n1_ := Aside0.mk (blk_below (g := gb149) (o := .cells #[.int .i64 t147, .int .i64 t148] 24 (0, 0)) (by (with_reducible repeat (first | refine blk_drewN ?_ _ | refine blk_drew ?_ | refine blk_alloc ?_ _)); exact BK149.out) hb); have n2_ := Aside0.mk (below_step (by repeat (first | (with_reducible first | exact HB.out | apply below_alloc | apply pw_below_drewN | apply below_drew1 | refine below_set ?_ GE146.out | refine below_set ?_ GE149.out) | exact HB.out)) hb); clear BK146; clear BK149; clear HB; have BK146 := n0_; have BK149 := n1_; have HB := n2_; clear n0_ n1_ n2_; (try clear hb); (try clear hb2); (try clear hk); (try clear hi); have hcz74_0 : w73.cell? ⟨gb146, 0, none⟩ = some (.int .i64 t144) := (blk_cell BK146.out 0).trans rfl; have hcz74_1 : w73.cell? ⟨gb146, 1, none⟩ = some (.int .i64 t145) := (blk_cell BK146.out 1).trans rfl; have hfz74_0 := blk_frozen BK146.out 0; have hfz74_1 := blk_frozen BK146.out 1; have hcz75_0 : w73.cell? ⟨gb149, 0, none⟩ = some (.int .i64 t147) := (blk_cell BK149.out 0).trans rfl; have hcz75_1 : w73.cell? ⟨gb149, 1, none⟩ = some (.int .i64 t148) := (blk_cell BK149.out 1).trans rfl; have hfz75_0 := blk_frozen BK149.out 0; have hfz75_1 := blk_frozen BK149.out 1) | (go_at_call 37; (with_reducible refine (span_Add.calls k t144 t145 t147 t148 t154 t155 _ A31.out).mono ?_); rintro e w76 ⟨rfl, hb⟩; have n0_ := Aside0.mk (blk_below (g := gb146) (o := .cells #[.int .i64 t144, .int .i64 t145] 24 (0, 0)) (by (with_reducible repeat (first | refine blk_drewN ?_ _ | refine blk_drew ?_ | refine blk_alloc ?_ _)); exact BK146.out) hb); have n1_ := Aside0.mk (blk_below (g := gb149) (o := .cells #[.int .i64 t147, .int .i64 t148] 24 (0, 0)) (by (with_reducible repeat (first | refine blk_drewN ?_ _ | refine blk_drew ?_ | refine blk_alloc ?_ _)); exact BK149.out) hb); have n2_ := Aside0.mk (below_step (by repeat (first | (with_reducible first | exact HB.out | apply below_alloc | apply pw_below_drewN | apply below_drew1 | refine below_set ?_ GE146.out | refine below_set ?_ GE149.out) | exact HB.out)) hb); clear BK146; clear BK149; clear HB; have BK146 := n0_; have BK149 := n1_; have HB := n2_; clear n0_ n1_ n2_; (try clear hb); (try clear hb2); (try clear hk); (try clear hi)) | (go_at_call 15; (with_reducible refine (span_Has.calls t154 t155 (wrap64 (t150 + t151)) true _ A32.out).mono ?_); rintro e w77 ⟨rfl, hb⟩; have n0_ := Aside0.mk (blk_below (g := gb146) (o := .cells #[.int .i64 t144, .int .i64 t145] 24 (0, 0)) (by (with_reducible repeat (first | refine blk_drewN ?_ _ | refine blk_drew ?_ | refine blk_alloc ?_ _)); exact BK146.out) hb); have n1_ := Aside0.mk (blk_below (g := gb149) (o := .cells #[.int .i64 t147, .int .i64 t148] 24 (0, 0)) (by (with_reducible repeat (first | refine blk_drewN ?_ _ | refine blk_drew ?_ | refine blk_alloc ?_ _)); exact BK149.out) hb); have n2_ := Aside0.mk (below_step (by repeat (first | (with_reducible first | exact HB.out | apply below_alloc | apply pw_below_drewN | apply below_drew1 | refine below_set ?_ GE146.out | refine below_set ?_ GE149.out) | exact HB.out)) hb); clear BK146; clear BK149; clear HB; have BK146 := n0_; have BK149 := n1_; have HB := n2_; clear n0_ n1_ n2_; (try clear hb); (try clear hb2); (try clear hk); (try clear hi); have hcz78_0 : w77.cell? ⟨gb146, 0, none⟩ = some (.int .i64 t144) := (blk_cell BK146.out 0).trans rfl; have hcz78_1 : w77.cell? ⟨gb146, 1, none⟩ = some (.int .i64 t145) := (blk_cell BK146.out 1).trans rfl; have hfz78_0 := blk_frozen BK146.out 0; have hfz78_1 := blk_frozen BK146.out 1; have hcz79_0 : w77.cell? ⟨gb149, 0, none⟩ = some (.int .i64 t147) := (blk_cell BK149.out 0).trans rfl; have hcz79_1 : w77.cell? ⟨gb149, 1, none⟩ = some (.int .i64 t148) := (blk_cell BK149.out 1).trans rfl; have hfz79_0 := blk_frozen BK149.out 0; have hfz79_1 := blk_frozen BK149.out 1) | (go_at_call 38; (with_reducible refine (span_Sub.calls k t144 t145 t147 t148 t157 t158 _ A34.out).mono ?_); rintro e w80 ⟨rfl, hb⟩; have n0_ := Aside0.mk (blk_below (g := gb146) (o := .cells #[.int .i64 t144, .int .i64 t145] 24 (0, 0)) (by (with_reducible repeat (first | refine blk_drewN ?_ _ | refine blk_drew ?_ | refine blk_alloc ?_ _)); exact BK146.out) hb); have n1_ := Aside0.mk (blk_below (g := gb149) (o := .cells #[.int .i64 t147, .int .i64 t148] 24 (0, 0)) (by (with_reducible repeat (first | refine blk_drewN ?_ _ | refine blk_drew ?_ | refine blk_alloc ?_ _)); exact BK149.out) hb); have n2_ := Aside0.mk (below_step (by repeat (first | (with_reducible first | exact HB.out | apply below_alloc | apply pw_below_drewN | apply below_drew1 | refine below_set ?_ GE146.out | refine below_set ?_ GE149.out) | exact HB.out)) hb); clear BK146; clear BK149; clear HB; have BK146 := n0_; have BK149 := n1_; have HB := n2_; clear n0_ n1_ n2_; (try clear hb); (try clear hb2); (try clear hk); (try clear hi)) | (go_at_call 15; (with_reducible refine (span_Has.calls t157 t158 (wrap64 (t150 - t151)) true _ A35.out).mono ?_); rintro e w81 ⟨rfl, hb⟩; have n0_ := Aside0.mk (blk_below (g := gb146) (o := .cells #[.int .i64 t144, .int .i64 t145] 24 (0, 0)) (by (with_reducible repeat (first | refine blk_drewN ?_ _ | refine blk_drew ?_ | refine blk_alloc ?_ _)); exact BK146.out) hb); have n1_ := Aside0.mk (blk_below (g := gb149) (o := .cells #[.int .i64 t147, .int .i64 t148] 24 (0, 0)) (by (with_reducible repeat (first | refine blk_drewN ?_ _ | refine blk_drew ?_ | refine blk_alloc ?_ _)); exact BK149.out) hb); have n2_ := Aside0.mk (below_step (by repeat (first | (with_reducible first | exact HB.out | apply below_alloc | apply pw_below_drewN | apply below_drew1 | refine below_set ?_ GE146.out | refine below_set ?_ GE149.out) | exact HB.out)) hb); clear BK146; clear BK149; clear HB; have BK146 := n0_; have BK149 := n1_; have HB := n2_; clear n0_ n1_ n2_; (try clear hb); (try clear hb2); (try clear hk); (try clear hi); have hcz82_0 : w81.cell? ⟨gb146, 0, none⟩ = some (.int .i64 t144) := (blk_cell BK146.out 0).trans rfl; have hcz82_1 : w81.cell? ⟨gb146, 1, none⟩ = some (.int .i64 t145) := (blk_cell BK146.out 1).trans rfl; have hfz82_0 := blk_frozen BK146.out 0; have hfz82_1 := blk_frozen BK146.out 1) | (go_at_call 39; (with_reducible refine (span_Scale.calls k t144 t145 (Int.tmod a6 1073741824) t160 t161 _ A37.out).mono ?_); rintro e w83 ⟨rfl, hb⟩; have n0_ := Aside0.mk (blk_below (g := gb146) (o := .cells #[.int .i64 t144, .int .i64 t145] 24 (0, 0)) (by (with_reducible repeat (first | refine blk_drewN ?_ _ | refine blk_drew ?_ | refine blk_alloc ?_ _)); exact BK146.out) hb); have n1_ := Aside0.mk (blk_below (g := gb149) (o := .cells #[.int .i64 t147, .int .i64 t148] 24 (0, 0)) (by (with_reducible repeat (first | refine blk_drewN ?_ _ | refine blk_drew ?_ | refine blk_alloc ?_ _)); exact BK149.out) hb); have n2_ := Aside0.mk (below_step (by repeat (first | (with_reducible first | exact HB.out | apply below_alloc | apply pw_below_drewN | apply below_drew1 | refine below_set ?_ GE146.out | refine below_set ?_ GE149.out) | exact HB.out)) hb); clear BK146; clear BK149; clear HB; have BK146 := n0_; have BK149 := n1_; have HB := n2_; clear n0_ n1_ n2_; (try clear hb); (try clear hb2); (try clear hk); (try clear hi)) | (go_at_call 15; (with_reducible refine (span_Has.calls t160 t161 (wrap64 (t150 * (Int.tmod a6 1073741824))) true _ A38.out).mono ?_); rintro e w84 ⟨rfl, hb⟩; have n0_ := Aside0.mk (blk_below (g := gb146) (o := .cells #[.int .i64 t144, .int .i64 t145] 24 (0, 0)) (by (with_reducible repeat (first | refine blk_drewN ?_ _ | refine blk_drew ?_ | refine blk_alloc ?_ _)); exact BK146.out) hb); have n1_ := Aside0.mk (blk_below (g := gb149) (o := .cells #[.int .i64 t147, .int .i64 t148] 24 (0, 0)) (by (with_reducible repeat (first | refine blk_drewN ?_ _ | refine blk_drew ?_ | refine blk_alloc ?_ _)); exact BK149.out) hb); have n2_ := Aside0.mk (below_step (by repeat (first | (with_reducible first | exact HB.out | apply below_alloc | apply pw_below_drewN | apply below_drew1 | refine below_set ?_ GE146.out | refine below_set ?_ GE149.out) | exact HB.out)) hb); clear BK146; clear BK149; clear HB; have BK146 := n0_; have BK149 := n1_; have HB := n2_; clear n0_ n1_ n2_; (try clear hb); (try clear hb2); (try clear hk); (try clear hi); have hcz85_0 : w84.cell? ⟨gb146, 0, none⟩ = some (.int .i64 t144) := (blk_cell BK146.out 0).trans rfl; have hcz85_1 : w84.cell? ⟨gb146, 1, none⟩ = some (.int .i64 t145) := (blk_cell BK146.out 1).trans rfl; have hfz85_0 := blk_frozen BK146.out 0; have hfz85_1 := blk_frozen BK146.out 1; have hcz86_0 : w84.cell? ⟨gb149, 0, none⟩ = some (.int .i64 t147) := (blk_cell BK149.out 0).trans rfl; have hcz86_1 : w84.cell? ⟨gb149, 1, none⟩ = some (.int .i64 t148) := (blk_cell BK149.out 1).trans rfl; have hfz86_0 := blk_frozen BK149.out 0; have hfz86_1 := blk_frozen BK149.out 1) | (go_at_call 16; (with_reducible refine (span_Hull.calls t144 t145 t147 t148 t163 t164 _ A40.out).mono ?_); rintro e w87 ⟨rfl, hb⟩; have n0_ := Aside0.mk (blk_below (g := gb146) (o := .cells #[.int .i64 t144, .int .i64 t145] 24 (0, 0)) (by (with_reducible repeat (first | refine blk_drewN ?_ _ | refine blk_drew ?_ | refine blk_alloc ?_ _)); exact BK146.out) hb); have n1_ := Aside0.mk (blk_below (g := gb149) (o := .cells #[.int .i64 t147, .int .i64 t148] 24 (0, 0)) (by (with_reducible repeat (first | refine blk_drewN ?_ _ | refine blk_drew ?_ | refine blk_alloc ?_ _)); exact BK149.out) hb); have n2_ := Aside0.mk (below_step (by repeat (first | (with_reducible first | exact HB.out | apply below_alloc | apply pw_below_drewN | apply below_drew1 | refine below_set ?_ GE146.out | refine below_set ?_ GE149.out) | exact HB.out)) hb); clear BK146; clear BK149; clear HB; have BK146 := n0_; have BK149 := n1_; have HB := n2_; clear n0_ n1_ n2_; (try clear hb); (try clear hb2); (try clear hk); (try clear hi)) | (go_at_call 15; (with_reducible refine (span_Has.calls t163 t164 t150 false _ A41.out).mono ?_); rintro e w88 ⟨rfl, hb⟩; have n0_ := Aside0.mk (blk_below (g := gb146) (o := .cells #[.int .i64 t144, .int .i64 t145] 24 (0, 0)) (by (with_reducible repeat (first | refine blk_drewN ?_ _ | refine blk_drew ?_ | refine blk_alloc ?_ _)); exact BK146.out) hb); have n1_ := Aside0.mk (blk_below (g := gb149) (o := .cells #[.int .i64 t147, .int .i64 t148] 24 (0, 0)) (by (with_reducible repeat (first | refine blk_drewN ?_ _ | refine blk_drew ?_ | refine blk_alloc ?_ _)); exact BK149.out) hb); have n2_ := Aside0.mk (below_step (by repeat (first | (with_reducible first | exact HB.out | apply below_alloc | apply pw_below_drewN | apply below_drew1 | refine below_set ?_ GE146.out | refine below_set ?_ GE149.out) | exact HB.out)) hb); clear BK146; clear BK149; clear HB; have BK146 := n0_; have BK149 := n1_; have HB := n2_; clear n0_ n1_ n2_; (try clear hb); (try clear hb2); (try clear hk); (try clear hi)))
                  go_meet
                  case rel => exact ⟨_, (true), (by first | rfl | (simp; done) | (simp [*]; done)), H', ⟨by first | omega | exact Nat.le_refl _⟩, ⟨by (with_reducible repeat (first | refine blk_drewN ?_ _ | refine blk_drew ?_ | refine blk_alloc ?_ _)); exact BK146.out⟩, ⟨by (with_reducible repeat (first | refine blk_drewN ?_ _ | refine blk_drew ?_ | refine blk_alloc ?_ _)); exact BK149.out⟩, ⟨by repeat (first | (with_reducible first | exact HB.out | apply below_alloc | apply pw_below_drewN | apply below_drew1 | refine below_set ?_ GE146.out | refine below_set ?_ GE149.out) | exact HB.out)⟩⟩
              · replace c39 := Bool.eq_false_iff.mpr c39
                subst c39
                have H1 : (dynamolaw2_SpanHolds.j0 k t150 t151 (Int.tmod a6 1073741824) true true t144 t145 t147 t148) = some true := by first | (rw [if_neg (show ¬ (false = true) by decide)] at H; exact H) | exact H | rfl
                clear H
                have H := H1
                clear H1
                have H' := Aside0.mk H
                clear H
                have hnb89 := NB146_149.out
                have hnc89 := NB149_146.out
                have hcz90_0 : w26.cell? ⟨gb146, 0, none⟩ = some (.int .i64 t144) := (blk_cell BK146.out 0).trans rfl
                have hcz90_1 : w26.cell? ⟨gb146, 1, none⟩ = some (.int .i64 t145) := (blk_cell BK146.out 1).trans rfl
                have hfz90_0 := blk_frozen BK146.out 0
                have hfz90_1 := blk_frozen BK146.out 1
                go_wp2_with (first | ((with_reducible refine gate_callee (f := 15) rfl ?_); refine goesL_ (some 48) rfl rfl Try.func15 (by kernel_rfl) rfl #[.agg #[.int .i64 t144, .int .i64 t145], .int .i64 t150] rfl (by (try simp only [List.map_toArray, List.map_cons, List.map_nil]); first | done | rfl | (simp only [List.length_drop, List.length_take]; rfl)) ?_; (with_reducible refine (span_Has.calls t144 t145 t150 true _ A27.out).mono ?_); rintro e w91 ⟨rfl, hb⟩; refine ⟨_, rfl, ?_⟩; have n0_ := Aside0.mk (blk_below (g := gb146) (o := .cells #[.int .i64 t144, .int .i64 t145] 24 (0, 0)) (by (with_reducible repeat (first | refine blk_drewN ?_ _ | refine blk_drew ?_ | refine blk_alloc ?_ _)); exact BK146.out) hb); have n1_ := Aside0.mk (blk_below (g := gb149) (o := .cells #[.int .i64 t147, .int .i64 t148] 24 (0, 0)) (by (with_reducible repeat (first | refine blk_drewN ?_ _ | refine blk_drew ?_ | refine blk_alloc ?_ _)); exact BK149.out) hb); have n2_ := Aside0.mk (below_step (by repeat (first | (with_reducible first | exact HB.out | apply below_alloc | apply pw_below_drewN | apply below_drew1 | refine below_set ?_ GE146.out | refine below_set ?_ GE149.out) | exact HB.out)) hb); clear BK146; clear BK149; clear HB; have BK146 := n0_; have BK149 := n1_; have HB := n2_; clear n0_ n1_ n2_; (try clear hb); (try clear hb2); (try clear hk); (try clear hi); have hcz92_0 : w91.cell? ⟨gb149, 0, none⟩ = some (.int .i64 t147) := (blk_cell BK149.out 0).trans rfl; have hcz92_1 : w91.cell? ⟨gb149, 1, none⟩ = some (.int .i64 t148) := (blk_cell BK149.out 1).trans rfl; have hfz92_0 := blk_frozen BK149.out 0; have hfz92_1 := blk_frozen BK149.out 1) | (go_at_call 15; (with_reducible refine (span_Has.calls t147 t148 t151 true _ A29.out).mono ?_); rintro e w93 ⟨rfl, hb⟩; have n0_ := Aside0.mk (blk_below (g := gb146) (o := .cells #[.int .i64 t144, .int .i64 t145] 24 (0, 0)) (by (with_reducible repeat (first | refine blk_drewN ?_ _ | refine blk_drew ?_ | refine blk_alloc ?_ _)); exact BK146.out) hb); have n1_ := Aside0.mk (blk_below (g := gb149) (o := .cells #[.int .i64 t147, .int .i64 t148] 24 (0, 0)) (by (with_reducible repeat (first | refine blk_drewN ?_ _ | refine blk_drew ?_ | refine blk_alloc ?_ _)); exact BK149.out) hb); have n2_ := Aside0.mk (below_step (by repeat (first | (with_reducible first | exact HB.out | apply below_alloc | apply pw_below_drewN | apply below_drew1 | refine below_set ?_ GE146.out | refine below_set ?_ GE149.out) | exact HB.out)) hb); clear BK146; clear BK149; clear HB; have BK146 := n0_; have BK149 := n1_; have HB := n2_; clear n0_ n1_ n2_; (try clear hb); (try clear hb2); (try clear hk); (try clear hi); have hcz94_0 : w93.cell? ⟨gb146, 0, none⟩ = some (.int .i64 t144) := (blk_cell BK146.out 0).trans rfl; have hcz94_1 : w93.cell? ⟨gb146, 1, none⟩ = some (.int .i64 t145) := (blk_cell BK146.out 1).trans rfl; have hfz94_0 := blk_frozen BK146.out 0; have hfz94_1 := blk_frozen BK146.out 1; have hcz95_0 : w93.cell? ⟨gb149, 0, none⟩ = some (.int .i64 t147) := (blk_cell BK149.out 0).trans rfl; have hcz95_1 : w93.cell? ⟨gb149, 1, none⟩ = some (.int .i64 t148) := (blk_cell BK149.out 1).trans rfl; have hfz95_0 := blk_frozen BK149.out 0; have hfz95_1 := blk_frozen BK149.out 1) | (go_at_call 37; (with_reducible refine (span_Add.calls k t144 t145 t147 t148 t154 t155 _ A31.out).mono ?_); rintro e w96 ⟨rfl, hb⟩; have n0_ := Aside0.mk (blk_below (g := gb146) (o := .cells #[.int .i64 t144, .int .i64 t145] 24 (0, 0)) (by (with_reducible repeat (first | refine blk_drewN ?_ _ | refine blk_drew ?_ | refine blk_alloc ?_ _)); exact BK146.out) hb); have n1_ := Aside0.mk (blk_below (g := gb149) (o := .cells #[.int .i64 t147, .int .i64 t148] 24 (0, 0)) (by (with_reducible repeat (first | refine blk_drewN ?_ _ | refine blk_drew ?_ | refine blk_alloc ?_ _)); exact BK149.out) hb); have n2_ := Aside0.mk (below_step (by repeat (first | (with_reducible first | exact HB.out | apply below_alloc | apply pw_below_drewN | apply below_drew1 | refine below_set ?_ GE146.out | refine below_set ?_ GE149.out) | exact HB.out)) hb); clear BK146; clear BK149; clear HB; have BK146 := n0_; have BK149 := n1_; have HB := n2_; clear n0_ n1_ n2_; (try clear hb); (try clear hb2); (try clear hk); (try clear hi)) | (go_at_call 15; (with_reducible refine (span_Has.calls t154 t155 (wrap64 (t150 + t151)) true _ A32.out).mono ?_); rintro e w97 ⟨rfl, hb⟩; have n0_ := Aside0.mk (blk_below (g := gb146) (o := .cells #[.int .i64 t144, .int .i64 t145] 24 (0, 0)) (by (with_reducible repeat (first | refine blk_drewN ?_ _ | refine blk_drew ?_ | refine blk_alloc ?_ _)); exact BK146.out) hb); have n1_ := Aside0.mk (blk_below (g := gb149) (o := .cells #[.int .i64 t147, .int .i64 t148] 24 (0, 0)) (by (with_reducible repeat (first | refine blk_drewN ?_ _ | refine blk_drew ?_ | refine blk_alloc ?_ _)); exact BK149.out) hb); have n2_ := Aside0.mk (below_step (by repeat (first | (with_reducible first | exact HB.out | apply below_alloc | apply pw_below_drewN | apply below_drew1 | refine below_set ?_ GE146.out | refine below_set ?_ GE149.out) | exact HB.out)) hb); clear BK146; clear BK149; clear HB; have BK146 := n0_; have BK149 := n1_; have HB := n2_; clear n0_ n1_ n2_; (try clear hb); (try clear hb2); (try clear hk); (try clear hi); have hcz98_0 : w97.cell? ⟨gb146, 0, none⟩ = some (.int .i64 t144) := (blk_cell BK146.out 0).trans rfl; have hcz98_1 : w97.cell? ⟨gb146, 1, none⟩ = some (.int .i64 t145) := (blk_cell BK146.out 1).trans rfl; have hfz98_0 := blk_frozen BK146.out 0; have hfz98_1 := blk_frozen BK146.out 1; have hcz99_0 : w97.cell? ⟨gb149, 0, none⟩ = some (.int .i64 t147) := (blk_cell BK149.out 0).trans rfl; have hcz99_1 : w97.cell? ⟨gb149, 1, none⟩ = some (.int .i64 t148) := (blk_cell BK149.out 1).trans rfl; have hfz99_0 := blk_frozen BK149.out 0; have hfz99_1 := blk_frozen BK149.out 1) | (go_at_call 38; (with_reducible refine (span_Sub.calls k t144 t145 t147 t148 t157 t158 _ A34.out).mono ?_); rintro e w100 ⟨rfl, hb⟩; have n0_ := Aside0.mk (blk_below (g := gb146) (o := .cells #[.int .i64 t144, .int .i64 t145] 24 (0, 0)) (by (with_reducible repeat (first | refine blk_drewN ?_ _ | refine blk_drew ?_ | refine blk_alloc ?_ _)); exact BK146.out) hb); have n1_ := Aside0.mk (blk_below (g := gb149) (o := .cells #[.int .i64 t147, .int .i64 t148] 24 (0, 0)) (by (with_reducible repeat (first | refine blk_drewN ?_ _ | refine blk_drew ?_ | refine blk_alloc ?_ _)); exact BK149.out) hb); have n2_ := Aside0.mk (below_step (by repeat (first | (with_reducible first | exact HB.out | apply below_alloc | apply pw_below_drewN | apply below_drew1 | refine below_set ?_ GE146.out | refine below_set ?_ GE149.out) | exact HB.out)) hb); clear BK146; clear BK149; clear HB; have BK146 := n0_; have BK149 := n1_; have HB := n2_; clear n0_ n1_ n2_; (try clear hb); (try clear hb2); (try clear hk); (try clear hi)) | (go_at_call 15; (with_reducible refine (span_Has.calls t157 t158 (wrap64 (t150 - t151)) true _ A35.out).mono ?_); rintro e w101 ⟨rfl, hb⟩; have n0_ := Aside0.mk (blk_below (g := gb146) (o := .cells #[.int .i64 t144, .int .i64 t145] 24 (0, 0)) (by (with_reducible repeat (first | refine blk_drewN ?_ _ | refine blk_drew ?_ | refine blk_alloc ?_ _)); exact BK146.out) hb); have n1_ := Aside0.mk (blk_below (g := gb149) (o := .cells #[.int .i64 t147, .int .i64 t148] 24 (0, 0)) (by (with_reducible repeat (first | refine blk_drewN ?_ _ | refine blk_drew ?_ | refine blk_alloc ?_ _)); exact BK149.out) hb); have n2_ := Aside0.mk (below_step (by repeat (first | (with_reducible first | exact HB.out | apply below_alloc | apply pw_below_drewN | apply below_drew1 | refine below_set ?_ GE146.out | refine below_set ?_ GE149.out) | exact HB.out)) hb); clear BK146; clear BK149; clear HB; have BK146 := n0_; have BK149 := n1_; have HB := n2_; clear n0_ n1_ n2_; (try clear hb); (try clear hb2); (try clear hk); (try clear hi); have hcz102_0 : w101.cell? ⟨gb146, 0, none⟩ = some (.int .i64 t144) := (blk_cell BK146.out 0).trans rfl; have hcz102_1 : w101.cell? ⟨gb146, 1, none⟩ = some (.int .i64 t145) := (blk_cell BK146.out 1).trans rfl; have hfz102_0 := blk_frozen BK146.out 0; have hfz102_1 := blk_frozen BK146.out 1) | (go_at_call 39; (with_reducible refine (span_Scale.calls k t144 t145 (Int.tmod a6 1073741824) t160 t161 _ A37.out).mono ?_); rintro e w103 ⟨rfl, hb⟩; have n0_ := Aside0.mk (blk_below (g := gb146) (o := .cells #[.int .i64 t144, .int .i64 t145] 24 (0, 0)) (by (with_reducible repeat (first | refine blk_drewN ?_ _ | refine blk_drew ?_ | refine blk_alloc ?_ _)); exact BK146.out) hb); have n1_ := Aside0.mk (blk_below (g := gb149) (o := .cells #[.int .i64 t147, .int .i64 t148] 24 (0, 0)) (by (with_reducible repeat (first | refine blk_drewN ?_ _ | refine blk_drew ?_ | refine blk_alloc ?_ _)); exact BK149.out) hb); have n2_ := Aside0.mk (below_step (by repeat (first | (with_reducible first | exact HB.out | apply below_alloc | apply pw_below_drewN | apply below_drew1 | refine below_set ?_ GE146.out | refine below_set ?_ GE149.out) | exact HB.out)) hb); clear BK146; clear BK149; clear HB; have BK146 := n0_; have BK149 := n1_; have HB := n2_; clear n0_ n1_ n2_; (try clear hb); (try clear hb2); (try clear hk); (try clear hi)) | (go_at_call 15; (with_reducible refine (span_Has.calls t160 t161 (wrap64 (t150 * (Int.tmod a6 1073741824))) false _ A38.out).mono ?_); rintro e w104 ⟨rfl, hb⟩; have n0_ := Aside0.mk (blk_below (g := gb146) (o := .cells #[.int .i64 t144, .int .i64 t145] 24 (0, 0)) (by (with_reducible repeat (first | refine blk_drewN ?_ _ | refine blk_drew ?_ | refine blk_alloc ?_ _)); exact BK146.out) hb); have n1_ := Aside0.mk (blk_below (g := gb149) (o := .cells #[.int .i64 t147, .int .i64 t148] 24 (0, 0)) (by (with_reducible repeat (first | refine blk_drewN ?_ _ | refine blk_drew ?_ | refine blk_alloc ?_ _)); exact BK149.out) hb); have n2_ := Aside0.mk (below_step (by repeat (first | (with_reducible first | exact HB.out | apply below_alloc | apply pw_below_drewN | apply below_drew1 | refine below_set ?_ GE146.out | refine below_set ?_ GE149.out) | exact HB.out)) hb); clear BK146; clear BK149; clear HB; have BK146 := n0_; have BK149 := n1_; have HB := n2_; clear n0_ n1_ n2_; (try clear hb); (try clear hb2); (try clear hk); (try clear hi)))
                go_meet
                case rel => exact ⟨_, (true), (by first | rfl | (simp; done) | (simp [*]; done)), H', ⟨by first | omega | exact Nat.le_refl _⟩, ⟨by (with_reducible repeat (first | refine blk_drewN ?_ _ | refine blk_drew ?_ | refine blk_alloc ?_ _)); exact BK146.out⟩, ⟨by (with_reducible repeat (first | refine blk_drewN ?_ _ | refine blk_drew ?_ | refine blk_alloc ?_ _)); exact BK149.out⟩, ⟨by repeat (first | (with_reducible first | exact HB.out | apply below_alloc | apply pw_below_drewN | apply below_drew1 | refine below_set ?_ GE146.out | refine below_set ?_ GE149.out) | exact HB.out)⟩⟩
            · replace c36 := Bool.eq_false_iff.mpr c36
              subst c36
              have H1 : (dynamolaw2_SpanHolds.j0 k t150 t151 (Int.tmod a6 1073741824) true true t144 t145 t147 t148) = some true := by first | (rw [if_neg (show ¬ (false = true) by decide)] at H; exact H) | exact H | rfl
              clear H
              have H := H1
              clear H1
              have H' := Aside0.mk H
              clear H
              have hnb105 := NB146_149.out
              have hnc105 := NB149_146.out
              have hcz106_0 : w26.cell? ⟨gb146, 0, none⟩ = some (.int .i64 t144) := (blk_cell BK146.out 0).trans rfl
              have hcz106_1 : w26.cell? ⟨gb146, 1, none⟩ = some (.int .i64 t145) := (blk_cell BK146.out 1).trans rfl
              have hfz106_0 := blk_frozen BK146.out 0
              have hfz106_1 := blk_frozen BK146.out 1
              go_wp2_with (first | ((with_reducible refine gate_callee (f := 15) rfl ?_); refine goesL_ (some 48) rfl rfl Try.func15 (by kernel_rfl) rfl #[.agg #[.int .i64 t144, .int .i64 t145], .int .i64 t150] rfl (by (try simp only [List.map_toArray, List.map_cons, List.map_nil]); first | done | rfl | (simp only [List.length_drop, List.length_take]; rfl)) ?_; (with_reducible refine (span_Has.calls t144 t145 t150 true _ A27.out).mono ?_); rintro e w107 ⟨rfl, hb⟩; refine ⟨_, rfl, ?_⟩; have n0_ := Aside0.mk (blk_below (g := gb146) (o := .cells #[.int .i64 t144, .int .i64 t145] 24 (0, 0)) (by (with_reducible repeat (first | refine blk_drewN ?_ _ | refine blk_drew ?_ | refine blk_alloc ?_ _)); exact BK146.out) hb); have n1_ := Aside0.mk (blk_below (g := gb149) (o := .cells #[.int .i64 t147, .int .i64 t148] 24 (0, 0)) (by (with_reducible repeat (first | refine blk_drewN ?_ _ | refine blk_drew ?_ | refine blk_alloc ?_ _)); exact BK149.out) hb); have n2_ := Aside0.mk (below_step (by repeat (first | (with_reducible first | exact HB.out | apply below_alloc | apply pw_below_drewN | apply below_drew1 | refine below_set ?_ GE146.out | refine below_set ?_ GE149.out) | exact HB.out)) hb); clear BK146; clear BK149; clear HB; have BK146 := n0_; have BK149 := n1_; have HB := n2_; clear n0_ n1_ n2_; (try clear hb); (try clear hb2); (try clear hk); (try clear hi); have hcz108_0 : w107.cell? ⟨gb149, 0, none⟩ = some (.int .i64 t147) := (blk_cell BK149.out 0).trans rfl; have hcz108_1 : w107.cell? ⟨gb149, 1, none⟩ = some (.int .i64 t148) := (blk_cell BK149.out 1).trans rfl; have hfz108_0 := blk_frozen BK149.out 0; have hfz108_1 := blk_frozen BK149.out 1) | (go_at_call 15; (with_reducible refine (span_Has.calls t147 t148 t151 true _ A29.out).mono ?_); rintro e w109 ⟨rfl, hb⟩; have n0_ := Aside0.mk (blk_below (g := gb146) (o := .cells #[.int .i64 t144, .int .i64 t145] 24 (0, 0)) (by (with_reducible repeat (first | refine blk_drewN ?_ _ | refine blk_drew ?_ | refine blk_alloc ?_ _)); exact BK146.out) hb); have n1_ := Aside0.mk (blk_below (g := gb149) (o := .cells #[.int .i64 t147, .int .i64 t148] 24 (0, 0)) (by (with_reducible repeat (first | refine blk_drewN ?_ _ | refine blk_drew ?_ | refine blk_alloc ?_ _)); exact BK149.out) hb); have n2_ := Aside0.mk (below_step (by repeat (first | (with_reducible first | exact HB.out | apply below_alloc | apply pw_below_drewN | apply below_drew1 | refine below_set ?_ GE146.out | refine below_set ?_ GE149.out) | exact HB.out)) hb); clear BK146; clear BK149; clear HB; have BK146 := n0_; have BK149 := n1_; have HB := n2_; clear n0_ n1_ n2_; (try clear hb); (try clear hb2); (try clear hk); (try clear hi); have hcz110_0 : w109.cell? ⟨gb146, 0, none⟩ = some (.int .i64 t144) := (blk_cell BK146.out 0).trans rfl; have hcz110_1 : w109.cell? ⟨gb146, 1, none⟩ = some (.int .i64 t145) := (blk_cell BK146.out 1).trans rfl; have hfz110_0 := blk_frozen BK146.out 0; have hfz110_1 := blk_frozen BK146.out 1; have hcz111_0 : w109.cell? ⟨gb149, 0, none⟩ = some (.int .i64 t147) := (blk_cell BK149.out 0).trans rfl; have hcz111_1 : w109.cell? ⟨gb149, 1, none⟩ = some (.int .i64 t148) := (blk_cell BK149.out 1).trans rfl; have hfz111_0 := blk_frozen BK149.out 0; have hfz111_1 := blk_frozen BK149.out 1) | (go_at_call 37; (with_reducible refine (span_Add.calls k t144 t145 t147 t148 t154 t155 _ A31.out).mono ?_); rintro e w112 ⟨rfl, hb⟩; have n0_ := Aside0.mk (blk_below (g := gb146) (o := .cells #[.int .i64 t144, .int .i64 t145] 24 (0, 0)) (by (with_reducible repeat (first | refine blk_drewN ?_ _ | refine blk_drew ?_ | refine blk_alloc ?_ _)); exact BK146.out) hb); have n1_ := Aside0.mk (blk_below (g := gb149) (o := .cells #[.int .i64 t147, .int .i64 t148] 24 (0, 0)) (by (with_reducible repeat (first | refine blk_drewN ?_ _ | refine blk_drew ?_ | refine blk_alloc ?_ _)); exact BK149.out) hb); have n2_ := Aside0.mk (below_step (by repeat (first | (with_reducible first | exact HB.out | apply below_alloc | apply pw_below_drewN | apply below_drew1 | refine below_set ?_ GE146.out | refine below_set ?_ GE149.out) | exact HB.out)) hb); clear BK146; clear BK149; clear HB; have BK146 := n0_; have BK149 := n1_; have HB := n2_; clear n0_ n1_ n2_; (try clear hb); (try clear hb2); (try clear hk); (try clear hi)) | (go_at_call 15; (with_reducible refine (span_Has.calls t154 t155 (wrap64 (t150 + t151)) true _ A32.out).mono ?_); rintro e w113 ⟨rfl, hb⟩; have n0_ := Aside0.mk (blk_below (g := gb146) (o := .cells #[.int .i64 t144, .int .i64 t145] 24 (0, 0)) (by (with_reducible repeat (first | refine blk_drewN ?_ _ | refine blk_drew ?_ | refine blk_alloc ?_ _)); exact BK146.out) hb); have n1_ := Aside0.mk (blk_below (g := gb149) (o := .cells #[.int .i64 t147, .int .i64 t148] 24 (0, 0)) (by (with_reducible repeat (first | refine blk_drewN ?_ _ | refine blk_drew ?_ | refine blk_alloc ?_ _)); exact BK149.out) hb); have n2_ := Aside0.mk (below_step (by repeat (first | (with_reducible first | exact HB.out | apply below_alloc | apply pw_below_drewN | apply below_drew1 | refine below_set ?_ GE146.out | refine below_set ?_ GE149.out) | exact HB.out)) hb); clear BK146; clear BK149; clear HB; have BK146 := n0_; have BK149 := n1_; have HB := n2_; clear n0_ n1_ n2_; (try clear hb); (try clear hb2); (try clear hk); (try clear hi); have hcz114_0 : w113.cell? ⟨gb146, 0, none⟩ = some (.int .i64 t144) := (blk_cell BK146.out 0).trans rfl; have hcz114_1 : w113.cell? ⟨gb146, 1, none⟩ = some (.int .i64 t145) := (blk_cell BK146.out 1).trans rfl; have hfz114_0 := blk_frozen BK146.out 0; have hfz114_1 := blk_frozen BK146.out 1; have hcz115_0 : w113.cell? ⟨gb149, 0, none⟩ = some (.int .i64 t147) := (blk_cell BK149.out 0).trans rfl; have hcz115_1 : w113.cell? ⟨gb149, 1, none⟩ = some (.int .i64 t148) := (blk_cell BK149.out 1).trans rfl; have hfz115_0 := blk_frozen BK149.out 0; have hfz115_1 := blk_frozen BK149.out 1) | (go_at_call 38; (with_reducible refine (span_Sub.calls k t144 t145 t147 t148 t157 t158 _ A34.out).mono ?_); rintro e w116 ⟨rfl, hb⟩; have n0_ := Aside0.mk (blk_below (g := gb146) (o := .cells #[.int .i64 t144, .int .i64 t145] 24 (0, 0)) (by (with_reducible repeat (first | refine blk_drewN ?_ _ | refine blk_drew ?_ | refine blk_alloc ?_ _)); exact BK146.out) hb); have n1_ := Aside0.mk (blk_below (g := gb149) (o := .cells #[.int .i64 t147, .int .i64 t148] 24 (0, 0)) (by (with_reducible repeat (first | refine blk_drewN ?_ _ | refine blk_drew ?_ | refine blk_alloc ?_ _)); exact BK149.out) hb); have n2_ := Aside0.mk (below_step (by repeat (first | (with_reducible first | exact HB.out | apply below_alloc | apply pw_below_drewN | apply below_drew1 | refine below_set ?_ GE146.out | refine below_set ?_ GE149.out) | exact HB.out)) hb); clear BK146; clear BK149; clear HB; have BK146 := n0_; have BK149 := n1_; have HB := n2_; clear n0_ n1_ n2_; (try clear hb); (try clear hb2); (try clear hk); (try clear hi)) | (go_at_call 15; (with_reducible refine (span_Has.calls t157 t158 (wrap64 (t150 - t151)) false _ A35.out).mono ?_); rintro e w117 ⟨rfl, hb⟩; have n0_ := Aside0.mk (blk_below (g := gb146) (o := .cells #[.int .i64 t144, .int .i64 t145] 24 (0, 0)) (by (with_reducible repeat (first | refine blk_drewN ?_ _ | refine blk_drew ?_ | refine blk_alloc ?_ _)); exact BK146.out) hb); have n1_ := Aside0.mk (blk_below (g := gb149) (o := .cells #[.int .i64 t147, .int .i64 t148] 24 (0, 0)) (by (with_reducible repeat (first | refine blk_drewN ?_ _ | refine blk_drew ?_ | refine blk_alloc ?_ _)); exact BK149.out) hb); have n2_ := Aside0.mk (below_step (by repeat (first | (with_reducible first | exact HB.out | apply below_alloc | apply pw_below_drewN | apply below_drew1 | refine below_set ?_ GE146.out | refine below_set ?_ GE149.out) | exact HB.out)) hb); clear BK146; clear BK149; clear HB; have BK146 := n0_; have BK149 := n1_; have HB := n2_; clear n0_ n1_ n2_; (try clear hb); (try clear hb2); (try clear hk); (try clear hi)))
              go_meet
              case rel => exact ⟨_, (true), (by first | rfl | (simp; done) | (simp [*]; done)), H', ⟨by first | omega | exact Nat.le_refl _⟩, ⟨by (with_reducible repeat (first | refine blk_drewN ?_ _ | refine blk_drew ?_ | refine blk_alloc ?_ _)); exact BK146.out⟩, ⟨by (with_reducible repeat (first | refine blk_drewN ?_ _ | refine blk_drew ?_ | refine blk_alloc ?_ _)); exact BK149.out⟩, ⟨by repeat (first | (with_reducible first | exact HB.out | apply below_alloc | apply pw_below_drewN | apply below_drew1 | refine below_set ?_ GE146.out | refine below_set ?_ GE149.out) | exact HB.out)⟩⟩
          · replace c33 := Bool.eq_false_iff.mpr c33
            subst c33
            have H1 : (dynamolaw2_SpanHolds.j0 k t150 t151 (Int.tmod a6 1073741824) true true t144 t145 t147 t148) = some true := by first | (rw [if_neg (show ¬ (false = true) by decide)] at H; exact H) | exact H | rfl
            clear H
            have H := H1
            clear H1
            have H' := Aside0.mk H
            clear H
            have hnb118 := NB146_149.out
            have hnc118 := NB149_146.out
            have hcz119_0 : w26.cell? ⟨gb146, 0, none⟩ = some (.int .i64 t144) := (blk_cell BK146.out 0).trans rfl
            have hcz119_1 : w26.cell? ⟨gb146, 1, none⟩ = some (.int .i64 t145) := (blk_cell BK146.out 1).trans rfl
            have hfz119_0 := blk_frozen BK146.out 0
            have hfz119_1 := blk_frozen BK146.out 1
            go_wp2_with (first | ((with_reducible refine gate_callee (f := 15) rfl ?_); refine goesL_ (some 48) rfl rfl Try.func15 (by kernel_rfl) rfl #[.agg #[.int .i64 t144, .int .i64 t145], .int .i64 t150] rfl (by (try simp only [List.map_toArray, List.map_cons, List.map_nil]); first | done | rfl | (simp only [List.length_drop, List.length_take]; rfl)) ?_; (with_reducible refine (span_Has.calls t144 t145 t150 true _ A27.out).mono ?_); rintro e w120 ⟨rfl, hb⟩; refine ⟨_, rfl, ?_⟩; have n0_ := Aside0.mk (blk_below (g := gb146) (o := .cells #[.int .i64 t144, .int .i64 t145] 24 (0, 0)) (by (with_reducible repeat (first | refine blk_drewN ?_ _ | refine blk_drew ?_ | refine blk_alloc ?_ _)); exact BK146.out) hb); have n1_ := Aside0.mk (blk_below (g := gb149) (o := .cells #[.int .i64 t147, .int .i64 t148] 24 (0, 0)) (by (with_reducible repeat (first | refine blk_drewN ?_ _ | refine blk_drew ?_ | refine blk_alloc ?_ _)); exact BK149.out) hb); have n2_ := Aside0.mk (below_step (by repeat (first | (with_reducible first | exact HB.out | apply below_alloc | apply pw_below_drewN | apply below_drew1 | refine below_set ?_ GE146.out | refine below_set ?_ GE149.out) | exact HB.out)) hb); clear BK146; clear BK149; clear HB; have BK146 := n0_; have BK149 := n1_; have HB := n2_; clear n0_ n1_ n2_; (try clear hb); (try clear hb2); (try clear hk); (try clear hi); have hcz121_0 : w120.cell? ⟨gb149, 0, none⟩ = some (.int .i64 t147) := (blk_cell BK149.out 0).trans rfl; have hcz121_1 : w120.cell? ⟨gb149, 1, none⟩ = some (.int .i64 t148) := (blk_cell BK149.out 1).trans rfl; have hfz121_0 := blk_frozen BK149.out 0; have hfz121_1 := blk_frozen BK149.out 1) | (go_at_call 15; (with_reducible refine (span_Has.calls t147 t148 t151 true _ A29.out).mono ?_); rintro e w122 ⟨rfl, hb⟩; have n0_ := Aside0.mk (blk_below (g := gb146) (o := .cells #[.int .i64 t144, .int .i64 t145] 24 (0, 0)) (by (with_reducible repeat (first | refine blk_drewN ?_ _ | refine blk_drew ?_ | refine blk_alloc ?_ _)); exact BK146.out) hb); have n1_ := Aside0.mk (blk_below (g := gb149) (o := .cells #[.int .i64 t147, .int .i64 t148] 24 (0, 0)) (by (with_reducible repeat (first | refine blk_drewN ?_ _ | refine blk_drew ?_ | refine blk_alloc ?_ _)); exact BK149.out) hb); have n2_ := Aside0.mk (below_step (by repeat (first | (with_reducible first | exact HB.out | apply below_alloc | apply pw_below_drewN | apply below_drew1 | refine below_set ?_ GE146.out | refine below_set ?_ GE149.out) | exact HB.out)) hb); clear BK146; clear BK149; clear HB; have BK146 := n0_; have BK149 := n1_; have HB := n2_; clear n0_ n1_ n2_; (try clear hb); (try clear hb2); (try clear hk); (try clear hi); have hcz123_0 : w122.cell? ⟨gb146, 0, none⟩ = some (.int .i64 t144) := (blk_cell BK146.out 0).trans rfl; have hcz123_1 : w122.cell? ⟨gb146, 1, none⟩ = some (.int .i64 t145) := (blk_cell BK146.out 1).trans rfl; have hfz123_0 := blk_frozen BK146.out 0; have hfz123_1 := blk_frozen BK146.out 1; have hcz124_0 : w122.cell? ⟨gb149, 0, none⟩ = some (.int .i64 t147) := (blk_cell BK149.out 0).trans rfl; have hcz124_1 : w122.cell? ⟨gb149, 1, none⟩ = some (.int .i64 t148) := (blk_cell BK149.out 1).trans rfl; have hfz124_0 := blk_frozen BK149.out 0; have hfz124_1 := blk_frozen BK149.out 1) | (go_at_call 37; (with_reducible refine (span_Add.calls k t144 t145 t147 t148 t154 t155 _ A31.out).mono ?_); rintro e w125 ⟨rfl, hb⟩; have n0_ := Aside0.mk (blk_below (g := gb146) (o := .cells #[.int .i64 t144, .int .i64 t145] 24 (0, 0)) (by (with_reducible repeat (first | refine blk_drewN ?_ _ | refine blk_drew ?_ | refine blk_alloc ?_ _)); exact BK146.out) hb); have n1_ := Aside0.mk (blk_below (g := gb149) (o := .cells #[.int .i64 t147, .int .i64 t148] 24 (0, 0)) (by (with_reducible repeat (first | refine blk_drewN ?_ _ | refine blk_drew ?_ | refine blk_alloc ?_ _)); exact BK149.out) hb); have n2_ := Aside0.mk (below_step (by repeat (first | (with_reducible first | exact HB.out | apply below_alloc | apply pw_below_drewN | apply below_drew1 | refine below_set ?_ GE146.out | refine below_set ?_ GE149.out) | exact HB.out)) hb); clear BK146; clear BK149; clear HB; have BK146 := n0_; have BK149 := n1_; have HB := n2_; clear n0_ n1_ n2_; (try clear hb); (try clear hb2); (try clear hk); (try clear hi)) | (go_at_call 15; (with_reducible refine (span_Has.calls t154 t155 (wrap64 (t150 + t151)) false _ A32.out).mono ?_); rintro e w126 ⟨rfl, hb⟩; have n0_ := Aside0.mk (blk_below (g := gb146) (o := .cells #[.int .i64 t144, .int .i64 t145] 24 (0, 0)) (by (with_reducible repeat (first | refine blk_drewN ?_ _ | refine blk_drew ?_ | refine blk_alloc ?_ _)); exact BK146.out) hb); have n1_ := Aside0.mk (blk_below (g := gb149) (o := .cells #[.int .i64 t147, .int .i64 t148] 24 (0, 0)) (by (with_reducible repeat (first | refine blk_drewN ?_ _ | refine blk_drew ?_ | refine blk_alloc ?_ _)); exact BK149.out) hb); have n2_ := Aside0.mk (below_step (by repeat (first | (with_reducible first | exact HB.out | apply below_alloc | apply pw_below_drewN | apply below_drew1 | refine below_set ?_ GE146.out | refine below_set ?_ GE149.out) | exact HB.out)) hb); clear BK146; clear BK149; clear HB; have BK146 := n0_; have BK149 := n1_; have HB := n2_; clear n0_ n1_ n2_; (try clear hb); (try clear hb2); (try clear hk); (try clear hi)))
            go_meet
            case rel => exact ⟨_, (true), (by first | rfl | (simp; done) | (simp [*]; done)), H', ⟨by first | omega | exact Nat.le_refl _⟩, ⟨by (with_reducible repeat (first | refine blk_drewN ?_ _ | refine blk_drew ?_ | refine blk_alloc ?_ _)); exact BK146.out⟩, ⟨by (with_reducible repeat (first | refine blk_drewN ?_ _ | refine blk_drew ?_ | refine blk_alloc ?_ _)); exact BK149.out⟩, ⟨by repeat (first | (with_reducible first | exact HB.out | apply below_alloc | apply pw_below_drewN | apply below_drew1 | refine below_set ?_ GE146.out | refine below_set ?_ GE149.out) | exact HB.out)⟩⟩
        · replace c30 := Bool.eq_false_iff.mpr c30
          subst c30
          have H1 : (dynamolaw2_SpanHolds.j0 k t150 t151 (Int.tmod a6 1073741824) true true t144 t145 t147 t148) = some true := by first | (rw [if_neg (show ¬ (false = true) by decide)] at H; exact H) | exact H | rfl
          clear H
          have H := H1
          clear H1
          have H' := Aside0.mk H
          clear H
          have hnb127 := NB146_149.out
          have hnc127 := NB149_146.out
          have hcz128_0 : w26.cell? ⟨gb146, 0, none⟩ = some (.int .i64 t144) := (blk_cell BK146.out 0).trans rfl
          have hcz128_1 : w26.cell? ⟨gb146, 1, none⟩ = some (.int .i64 t145) := (blk_cell BK146.out 1).trans rfl
          have hfz128_0 := blk_frozen BK146.out 0
          have hfz128_1 := blk_frozen BK146.out 1
          go_wp2_with (first | ((with_reducible refine gate_callee (f := 15) rfl ?_); refine goesL_ (some 48) rfl rfl Try.func15 (by kernel_rfl) rfl #[.agg #[.int .i64 t144, .int .i64 t145], .int .i64 t150] rfl (by (try simp only [List.map_toArray, List.map_cons, List.map_nil]); first | done | rfl | (simp only [List.length_drop, List.length_take]; rfl)) ?_; (with_reducible refine (span_Has.calls t144 t145 t150 true _ A27.out).mono ?_); rintro e w129 ⟨rfl, hb⟩; refine ⟨_, rfl, ?_⟩; have n0_ := Aside0.mk (blk_below (g := gb146) (o := .cells #[.int .i64 t144, .int .i64 t145] 24 (0, 0)) (by (with_reducible repeat (first | refine blk_drewN ?_ _ | refine blk_drew ?_ | refine blk_alloc ?_ _)); exact BK146.out) hb); have n1_ := Aside0.mk (blk_below (g := gb149) (o := .cells #[.int .i64 t147, .int .i64 t148] 24 (0, 0)) (by (with_reducible repeat (first | refine blk_drewN ?_ _ | refine blk_drew ?_ | refine blk_alloc ?_ _)); exact BK149.out) hb); have n2_ := Aside0.mk (below_step (by repeat (first | (with_reducible first | exact HB.out | apply below_alloc | apply pw_below_drewN | apply below_drew1 | refine below_set ?_ GE146.out | refine below_set ?_ GE149.out) | exact HB.out)) hb); clear BK146; clear BK149; clear HB; have BK146 := n0_; have BK149 := n1_; have HB := n2_; clear n0_ n1_ n2_; (try clear hb); (try clear hb2); (try clear hk); (try clear hi); have hcz130_0 : w129.cell? ⟨gb149, 0, none⟩ = some (.int .i64 t147) := (blk_cell BK149.out 0).trans rfl; have hcz130_1 : w129.cell? ⟨gb149, 1, none⟩ = some (.int .i64 t148) := (blk_cell BK149.out 1).trans rfl; have hfz130_0 := blk_frozen BK149.out 0; have hfz130_1 := blk_frozen BK149.out 1) | (go_at_call 15; (with_reducible refine (span_Has.calls t147 t148 t151 false _ A29.out).mono ?_); rintro e w131 ⟨rfl, hb⟩; have n0_ := Aside0.mk (blk_below (g := gb146) (o := .cells #[.int .i64 t144, .int .i64 t145] 24 (0, 0)) (by (with_reducible repeat (first | refine blk_drewN ?_ _ | refine blk_drew ?_ | refine blk_alloc ?_ _)); exact BK146.out) hb); have n1_ := Aside0.mk (blk_below (g := gb149) (o := .cells #[.int .i64 t147, .int .i64 t148] 24 (0, 0)) (by (with_reducible repeat (first | refine blk_drewN ?_ _ | refine blk_drew ?_ | refine blk_alloc ?_ _)); exact BK149.out) hb); have n2_ := Aside0.mk (below_step (by repeat (first | (with_reducible first | exact HB.out | apply below_alloc | apply pw_below_drewN | apply below_drew1 | refine below_set ?_ GE146.out | refine below_set ?_ GE149.out) | exact HB.out)) hb); clear BK146; clear BK149; clear HB; have BK146 := n0_; have BK149 := n1_; have HB := n2_; clear n0_ n1_ n2_; (try clear hb); (try clear hb2); (try clear hk); (try clear hi)))
          go_meet
          case rel => exact ⟨_, (true), (by first | rfl | (simp; done) | (simp [*]; done)), H', ⟨by first | omega | exact Nat.le_refl _⟩, ⟨by (with_reducible repeat (first | refine blk_drewN ?_ _ | refine blk_drew ?_ | refine blk_alloc ?_ _)); exact BK146.out⟩, ⟨by (with_reducible repeat (first | refine blk_drewN ?_ _ | refine blk_drew ?_ | refine blk_alloc ?_ _)); exact BK149.out⟩, ⟨by repeat (first | (with_reducible first | exact HB.out | apply below_alloc | apply pw_below_drewN | apply below_drew1 | refine below_set ?_ GE146.out | refine below_set ?_ GE149.out) | exact HB.out)⟩⟩
      · replace c28 := Bool.eq_false_iff.mpr c28
        subst c28
        have H1 : (dynamolaw2_SpanHolds.j0 k t150 t151 (Int.tmod a6 1073741824) true true t144 t145 t147 t148) = some true := by first | (rw [if_neg (show ¬ (false = true) by decide)] at H; exact H) | exact H | rfl
        clear H
        have H := H1
        clear H1
        have H' := Aside0.mk H
        clear H
        have hnb132 := NB146_149.out
        have hnc132 := NB149_146.out
        have hcz133_0 : w26.cell? ⟨gb146, 0, none⟩ = some (.int .i64 t144) := (blk_cell BK146.out 0).trans rfl
        have hcz133_1 : w26.cell? ⟨gb146, 1, none⟩ = some (.int .i64 t145) := (blk_cell BK146.out 1).trans rfl
        have hfz133_0 := blk_frozen BK146.out 0
        have hfz133_1 := blk_frozen BK146.out 1
        go_wp2_with (first | ((with_reducible refine gate_callee (f := 15) rfl ?_); refine goesL_ (some 48) rfl rfl Try.func15 (by kernel_rfl) rfl #[.agg #[.int .i64 t144, .int .i64 t145], .int .i64 t150] rfl (by (try simp only [List.map_toArray, List.map_cons, List.map_nil]); first | done | rfl | (simp only [List.length_drop, List.length_take]; rfl)) ?_; (with_reducible refine (span_Has.calls t144 t145 t150 false _ A27.out).mono ?_); rintro e w134 ⟨rfl, hb⟩; refine ⟨_, rfl, ?_⟩; have n0_ := Aside0.mk (blk_below (g := gb146) (o := .cells #[.int .i64 t144, .int .i64 t145] 24 (0, 0)) (by (with_reducible repeat (first | refine blk_drewN ?_ _ | refine blk_drew ?_ | refine blk_alloc ?_ _)); exact BK146.out) hb); have n1_ := Aside0.mk (blk_below (g := gb149) (o := .cells #[.int .i64 t147, .int .i64 t148] 24 (0, 0)) (by (with_reducible repeat (first | refine blk_drewN ?_ _ | refine blk_drew ?_ | refine blk_alloc ?_ _)); exact BK149.out) hb); have n2_ := Aside0.mk (below_step (by repeat (first | (with_reducible first | exact HB.out | apply below_alloc | apply pw_below_drewN | apply below_drew1 | refine below_set ?_ GE146.out | refine below_set ?_ GE149.out) | exact HB.out)) hb); clear BK146; clear BK149; clear HB; have BK146 := n0_; have BK149 := n1_; have HB := n2_; clear n0_ n1_ n2_; (try clear hb); (try clear hb2); (try clear hk); (try clear hi)))
        go_meet
        case rel => exact ⟨_, (true), (by first | rfl | (simp; done) | (simp [*]; done)), H', ⟨by first | omega | exact Nat.le_refl _⟩, ⟨by (with_reducible repeat (first | refine blk_drewN ?_ _ | refine blk_drew ?_ | refine blk_alloc ?_ _)); exact BK146.out⟩, ⟨by (with_reducible repeat (first | refine blk_drewN ?_ _ | refine blk_drew ?_ | refine blk_alloc ?_ _)); exact BK149.out⟩, ⟨by repeat (first | (with_reducible first | exact HB.out | apply below_alloc | apply pw_below_drewN | apply below_drew1 | refine below_set ?_ GE146.out | refine below_set ?_ GE149.out) | exact HB.out)⟩⟩
    case rest =>
      clear HC14
      try clear c1
      try clear c2
      try clear p2
      try clear c3
      try clear c4
      try clear c6
      try clear p6
      try clear c8
      try clear c9
      try clear c10
      try clear c11
      try clear c12
      try clear c13
      try clear c15
      try clear c21
      try clear c28
      try clear c30
      try clear c33
      try clear c36
      try clear c39
      try clear c42
      try clear c45
      try clear p64
      try clear c69
      try clear c89
      try clear c105
      try clear c118
      try clear c127
      try clear c132
      try clear hcz102_0
      try clear hcz102_1
      try clear hcz106_0
      try clear hcz106_1
      try clear hcz108_0
      try clear hcz108_1
      try clear hcz110_0
      try clear hcz110_1
      try clear hcz111_0
      try clear hcz111_1
      try clear hcz114_0
      try clear hcz114_1
      try clear hcz115_0
      try clear hcz115_1
      try clear hcz119_0
      try clear hcz119_1
      try clear hcz121_0
      try clear hcz121_1
      try clear hcz123_0
      try clear hcz123_1
      try clear hcz124_0
      try clear hcz124_1
      try clear hcz128_0
      try clear hcz128_1
      try clear hcz130_0
      try clear hcz130_1
      try clear hcz133_0
      try clear hcz133_1
      try clear hcz18_0
      try clear hcz18_1
      try clear hcz22_0
      try clear hcz22_1
      try clear hcz23_0
      try clear hcz23_1
      try clear hcz25_0
      try clear hcz25_1
      try clear hcz46_0
      try clear hcz46_1
      try clear hcz48_0
      try clear hcz48_1
      try clear hcz50_0
      try clear hcz50_1
      try clear hcz51_0
      try clear hcz51_1
      try clear hcz54_0
      try clear hcz54_1
      try clear hcz55_0
      try clear hcz55_1
      try clear hcz58_0
      try clear hcz58_1
      try clear hcz61_0
      try clear hcz61_1
      try clear hcz62_0
      try clear hcz62_1
      try clear hcz65_0
      try clear hcz65_1
      try clear hcz66_0
      try clear hcz66_1
      try clear hcz70_0
      try clear hcz70_1
      try clear hcz72_0
      try clear hcz72_1
      try clear hcz74_0
      try clear hcz74_1
      try clear hcz75_0
      try clear hcz75_1
      try clear hcz78_0
      try clear hcz78_1
      try clear hcz79_0
      try clear hcz79_1
      try clear hcz82_0
      try clear hcz82_1
      try clear hcz85_0
      try clear hcz85_1
      try clear hcz86_0
      try clear hcz86_1
      try clear hcz90_0
      try clear hcz90_1
      try clear hcz92_0
      try clear hcz92_1
      try clear hcz94_0
      try clear hcz94_1
      try clear hcz95_0
      try clear hcz95_1
      try clear hcz98_0
      try clear hcz98_1
      try clear hcz99_0
      try clear hcz99_1
      try clear hfz102_0
      try clear hfz102_1
      try clear hfz106_0
      try clear hfz106_1
      try clear hfz108_0
      try clear hfz108_1
      try clear hfz110_0
      try clear hfz110_1
      try clear hfz111_0
      try clear hfz111_1
      try clear hfz114_0
      try clear hfz114_1
      try clear hfz115_0
      try clear hfz115_1
      try clear hfz119_0
      try clear hfz119_1
      try clear hfz121_0
      try clear hfz121_1
      try clear hfz123_0
      try clear hfz123_1
      try clear hfz124_0
      try clear hfz124_1
      try clear hfz128_0
      try clear hfz128_1
      try clear hfz130_0
      try clear hfz130_1
      try clear hfz133_0
      try clear hfz133_1
      try clear hfz18_0
      try clear hfz18_1
      try clear hfz22_0
      try clear hfz22_1
      try clear hfz23_0
      try clear hfz23_1
      try clear hfz25_0
      try clear hfz25_1
      try clear hfz46_0
      try clear hfz46_1
      try clear hfz48_0
      try clear hfz48_1
      try clear hfz50_0
      try clear hfz50_1
      try clear hfz51_0
      try clear hfz51_1
      try clear hfz54_0
      try clear hfz54_1
      try clear hfz55_0
      try clear hfz55_1
      try clear hfz58_0
      try clear hfz58_1
      try clear hfz61_0
      try clear hfz61_1
      try clear hfz62_0
      try clear hfz62_1
      try clear hfz65_0
      try clear hfz65_1
      try clear hfz66_0
      try clear hfz66_1
      try clear hfz70_0
      try clear hfz70_1
      try clear hfz72_0
      try clear hfz72_1
      try clear hfz74_0
      try clear hfz74_1
      try clear hfz75_0
      try clear hfz75_1
      try clear hfz78_0
      try clear hfz78_1
      try clear hfz79_0
      try clear hfz79_1
      try clear hfz82_0
      try clear hfz82_1
      try clear hfz85_0
      try clear hfz85_1
      try clear hfz86_0
      try clear hfz86_1
      try clear hfz90_0
      try clear hfz90_1
      try clear hfz92_0
      try clear hfz92_1
      try clear hfz94_0
      try clear hfz94_1
      try clear hfz95_0
      try clear hfz95_1
      try clear hfz98_0
      try clear hfz98_1
      try clear hfz99_0
      try clear hfz99_1
      obtain ⟨kq, x101_13, rfl, HA, HJ13, BK146, BK149, HB⟩ := hcut
      cases kq with
      | zero => exact absurd HA.out (by simp [dynamolaw2_SpanHolds.j0])
      | succ kj13 =>
        have H := HA.out
        clear HA
        simp only [dynamolaw2_SpanHolds.j0] at H
        by_cases c135 : x101_13 = true
        · subst c135
          have H1 : (some false) = some true := by first | (rw [if_pos rfl] at H; exact H) | exact H | rfl
          clear H
          have H := H1
          clear H1
          exact absurd H (by simp)
        · replace c135 := Bool.eq_false_iff.mpr c135
          subst c135
          have H1 : ((span_Meet.f t144 t145 t147 t148).bind fun bt169 => (if t144 ≤ t148 then (if (bt169.2.2 != (decide (t147 ≤ t145))) = true then (dynamolaw2_SpanHolds.j1 kj13 t150 t151 (Int.tmod a6 1073741824) true true t144 t145) else (if bt169.2.2 = true then ((span_In.f bt169.1 bt169.2.1 t144 t145).bind fun t173 => (if t173 = true then ((span_In.f bt169.1 bt169.2.1 t147 t148).bind fun t174 => (dynamolaw2_SpanHolds.j1 kj13 t150 t151 (Int.tmod a6 1073741824) true (!t174) t144 t145)) else (dynamolaw2_SpanHolds.j1 kj13 t150 t151 (Int.tmod a6 1073741824) true true t144 t145))) else (dynamolaw2_SpanHolds.j1 kj13 t150 t151 (Int.tmod a6 1073741824) true false t144 t145))) else (if (bt169.2.2 != false) = true then (dynamolaw2_SpanHolds.j1 kj13 t150 t151 (Int.tmod a6 1073741824) true true t144 t145) else (if bt169.2.2 = true then ((span_In.f bt169.1 bt169.2.1 t144 t145).bind fun t175 => (if t175 = true then ((span_In.f bt169.1 bt169.2.1 t147 t148).bind fun t176 => (dynamolaw2_SpanHolds.j1 kj13 t150 t151 (Int.tmod a6 1073741824) true (!t176) t144 t145)) else (dynamolaw2_SpanHolds.j1 kj13 t150 t151 (Int.tmod a6 1073741824) true true t144 t145))) else (dynamolaw2_SpanHolds.j1 kj13 t150 t151 (Int.tmod a6 1073741824) true false t144 t145))))) = some true := by first | (rw [if_neg (show ¬ (false = true) by decide)] at H; exact H) | exact H | rfl
          clear H
          have H := H1
          clear H1
          replace H := Option.bind_eq_some_iff.mp H
          obtain ⟨⟨t169, t170, t171⟩, A1360, H⟩ := H
          replace H : (if t144 ≤ t148 then (if (t171 != (decide (t147 ≤ t145))) = true then (dynamolaw2_SpanHolds.j1 kj13 t150 t151 (Int.tmod a6 1073741824) true true t144 t145) else (if t171 = true then ((span_In.f t169 t170 t144 t145).bind fun t173 => (if t173 = true then ((span_In.f t169 t170 t147 t148).bind fun t174 => (dynamolaw2_SpanHolds.j1 kj13 t150 t151 (Int.tmod a6 1073741824) true (!t174) t144 t145)) else (dynamolaw2_SpanHolds.j1 kj13 t150 t151 (Int.tmod a6 1073741824) true true t144 t145))) else (dynamolaw2_SpanHolds.j1 kj13 t150 t151 (Int.tmod a6 1073741824) true false t144 t145))) else (if (t171 != false) = true then (dynamolaw2_SpanHolds.j1 kj13 t150 t151 (Int.tmod a6 1073741824) true true t144 t145) else (if t171 = true then ((span_In.f t169 t170 t144 t145).bind fun t175 => (if t175 = true then ((span_In.f t169 t170 t147 t148).bind fun t176 => (dynamolaw2_SpanHolds.j1 kj13 t150 t151 (Int.tmod a6 1073741824) true (!t176) t144 t145)) else (dynamolaw2_SpanHolds.j1 kj13 t150 t151 (Int.tmod a6 1073741824) true true t144 t145))) else (dynamolaw2_SpanHolds.j1 kj13 t150 t151 (Int.tmod a6 1073741824) true false t144 t145)))) = some true := H
          have A136 := Aside0.mk A1360
          clear A1360
          have HC137 := Aside0.mk H
          clear H
          have hnb138 := NB146_149.out
          have hnc138 := NB149_146.out
          have hcz139_0 : wc.cell? ⟨gb146, 0, none⟩ = some (.int .i64 t144) := (blk_cell BK146.out 0).trans rfl
          have hcz139_1 : wc.cell? ⟨gb146, 1, none⟩ = some (.int .i64 t145) := (blk_cell BK146.out 1).trans rfl
          have hfz139_0 := blk_frozen BK146.out 0
          have hfz139_1 := blk_frozen BK146.out 1
          have hcz140_0 : wc.cell? ⟨gb149, 0, none⟩ = some (.int .i64 t147) := (blk_cell BK149.out 0).trans rfl
          have hcz140_1 : wc.cell? ⟨gb149, 1, none⟩ = some (.int .i64 t148) := (blk_cell BK149.out 1).trans rfl
          have hfz140_0 := blk_frozen BK149.out 0
          have hfz140_1 := blk_frozen BK149.out 1
          go_upto_region 16 with (first | ((with_reducible refine gate_callee (f := 14) rfl ?_); refine goesL_ (some 105) rfl rfl Try.func14 (by kernel_rfl) rfl #[.agg #[.int .i64 t144, .int .i64 t145], .agg #[.int .i64 t147, .int .i64 t148]] rfl (by (try simp only [List.map_toArray, List.map_cons, List.map_nil]); first | done | rfl | (simp only [List.length_drop, List.length_take]; rfl)) ?_; (with_reducible refine (span_Meet.calls t144 t145 t147 t148 t169 t170 t171 _ A136.out).mono ?_); rintro e w141 ⟨rfl, hb⟩; refine ⟨_, rfl, ?_⟩; have n0_ := Aside0.mk (blk_below (g := gb146) (o := .cells #[.int .i64 t144, .int .i64 t145] 24 (0, 0)) (by (with_reducible repeat (first | refine blk_drewN ?_ _ | refine blk_drew ?_ | refine blk_alloc ?_ _)); exact BK146.out) hb); have n1_ := Aside0.mk (blk_below (g := gb149) (o := .cells #[.int .i64 t147, .int .i64 t148] 24 (0, 0)) (by (with_reducible repeat (first | refine blk_drewN ?_ _ | refine blk_drew ?_ | refine blk_alloc ?_ _)); exact BK149.out) hb); have n2_ := Aside0.mk (below_step (by repeat (first | (with_reducible first | exact HB.out | apply below_alloc | apply pw_below_drewN | apply below_drew1 | refine below_set ?_ GE146.out | refine below_set ?_ GE149.out) | exact HB.out)) hb); clear BK146; clear BK149; clear HB; have BK146 := n0_; have BK149 := n1_; have HB := n2_; clear n0_ n1_ n2_; (try clear hb); (try clear hb2); (try clear hk); (try clear hi)) | ((with_reducible refine gate_dst (N := 18) rfl ?_); (try (refine gate_guard (by rfl) ?_; dsimp only)); refine box_event ?hg (N := 18) ?hd (cs := #[.int .i64 0, .int .i64 0]) (t := 24) ?hr ?_; (case hd => rfl); (case hg => rfl); (case hr => first | (go_simp; done) | (go_simp; rfl)); intro gb172 hg w142 hbox hb; have n0_ := Aside0.mk (blk_below (g := gb146) (o := .cells #[.int .i64 t144, .int .i64 t145] 24 (0, 0)) (by (with_reducible repeat (first | refine blk_drewN ?_ _ | refine blk_drew ?_ | refine blk_alloc ?_ _)); exact BK146.out) hb); have n1_ := Aside0.mk (blk_below (g := gb149) (o := .cells #[.int .i64 t147, .int .i64 t148] 24 (0, 0)) (by (with_reducible repeat (first | refine blk_drewN ?_ _ | refine blk_drew ?_ | refine blk_alloc ?_ _)); exact BK149.out) hb); have n2_ := Aside0.mk (below_step (by repeat (first | (with_reducible first | exact HB.out | apply below_alloc | apply pw_below_drewN | apply below_drew1 | refine below_set ?_ GE146.out | refine below_set ?_ GE149.out) | exact HB.out)) hb); have n3_ := Aside0.mk (hbox); have n4_ := Aside0.mk ((by rw [hg]; exact (below_size (by repeat (first | (with_reducible first | exact HB.out | apply below_alloc | apply pw_below_drewN | apply below_drew1 | refine below_set ?_ GE146.out | refine below_set ?_ GE149.out) | exact HB.out))) : w.heap.size ≤ gb172)); have n5_ := Aside0.mk ((by rw [hg]; exact (below_size (by repeat (first | (with_reducible first | exact HB.out | apply below_alloc | apply pw_below_drewN | apply below_drew1 | refine below_set ?_ GE146.out | refine below_set ?_ GE149.out) | exact HB.out))) : w.heap.size ≤ gb172)); have n6_ := Aside0.mk ((by rw [hg]; exact Nat.ne_of_lt (blk_lt (g := gb146) (o := .cells #[.int .i64 t144, .int .i64 t145] 24 (0, 0)) (by (with_reducible repeat (first | refine blk_drewN ?_ _ | refine blk_drew ?_ | refine blk_alloc ?_ _)); exact BK146.out)) : gb146 ≠ gb172)); have n7_ := Aside0.mk ((by rw [hg]; exact Nat.ne_of_gt (blk_lt (g := gb146) (o := .cells #[.int .i64 t144, .int .i64 t145] 24 (0, 0)) (by (with_reducible repeat (first | refine blk_drewN ?_ _ | refine blk_drew ?_ | refine blk_alloc ?_ _)); exact BK146.out)) : gb172 ≠ gb146)); have n8_ := Aside0.mk ((by rw [hg]; exact Nat.ne_of_lt (blk_lt (g := gb149) (o := .cells #[.int .i64 t147, .int .i64 t148] 24 (0, 0)) (by (with_reducible repeat (first | refine blk_drewN ?_ _ | refine blk_drew ?_ | refine blk_alloc ?_ _)); exact BK149.out)) : gb149 ≠ gb172)); have n9_ := Aside0.mk ((by rw [hg]; exact Nat.ne_of_gt (blk_lt (g := gb149) (o := .cells #[.int .i64 t147, .int .i64 t148] 24 (0, 0)) (by (with_reducible repeat (first | refine blk_drewN ?_ _ | refine blk_drew ?_ | refine blk_alloc ?_ _)); exact BK149.out)) : gb172 ≠ gb149)); clear BK146; clear BK149; clear HB; have BK146 := n0_; have BK149 := n1_; have HB := n2_; have BK172 := n3_; have GW172 := n4_; have GE172 := n5_; have NB146_172 := n6_; have NB172_146 := n7_; have NB149_172 := n8_; have NB172_149 := n9_; clear n0_ n1_ n2_ n3_ n4_ n5_ n6_ n7_ n8_ n9_; clear hb hbox hg; have hnb143 := NB172_146.out; have hnc143 := NB146_172.out; have hnb144 := NB172_149.out; have hnc144 := NB149_172.out; have hcz145_0 : w142.cell? ⟨gb172, 0, none⟩ = some (.int .i64 0) := (blk_cell BK172.out 0).trans rfl; have hcz145_1 : w142.cell? ⟨gb172, 1, none⟩ = some (.int .i64 0) := (blk_cell BK172.out 1).trans rfl; have hfz145_0 := blk_frozen BK172.out 0; have hfz145_1 := blk_frozen BK172.out 1))
          (try simp only [Act.put, List.setIfInBounds_toArray, List.set_cons_zero, List.set_cons_succ])
          go_cut [136] (fun v136 wc => ∃ (kq : Nat) (x136_136 : Bool), v136 = .bool x136_136 ∧ Aside0 (dynamolaw2_SpanHolds.j1 kq t150 t151 (Int.tmod a6 1073741824) true x136_136 t144 t145 = some true) ∧ Aside0 (kq ≤ kj13) ∧ Aside0 (wc.heap[gb146]? = some (.cells #[.int .i64 t144, .int .i64 t145] 24 (0, 0))) ∧ Aside0 (wc.heap[gb149]? = some (.cells #[.int .i64 t147, .int .i64 t148] 24 (0, 0))) ∧ Aside0 (wc.heap[gb172]? = some (.cells #[.int .i64 t169, .int .i64 t170] 24 (0, 0))) ∧ Aside0 (Below w.heap.size w wc))
          case first =>
            have H := HC137.out
            clear HC137
            by_cases c146 : t144 ≤ t148
            · rw [if_pos c146] at H
              have c146b0 : decide (t144 ≤ t148) = true := decide_eq_true c146
              clear c146
              (first | rw [c146b0] | (simp only [i64_w, i32_w]; rw [c146b0]) | skip)
              by_cases c147 : (t171 != (decide (t147 ≤ t145))) = true
              · rw [if_pos c147] at H
                have c147b0 : (t171 != (decide (t147 ≤ t145))) = true := c147
                (try (have c147b1 : decide (t171 = (decide (t147 ≤ t145))) = false := by simpa using c147))
                (try (have c147b2 : (t171 == (decide (t147 ≤ t145))) = false := by simpa using c147))
                (try (have c147b3 : ¬ (t171 = (decide (t147 ≤ t145))) := by simpa using c147))
                clear c147
                have H' := Aside0.mk H
                clear H
                have hnb148 := NB146_149.out
                have hnc148 := NB149_146.out
                have hnb149 := NB146_172.out
                have hnc149 := NB172_146.out
                have hcz150_0 : w142.cell? ⟨gb146, 0, none⟩ = some (.int .i64 t144) := (blk_cell BK146.out 0).trans rfl
                have hcz150_1 : w142.cell? ⟨gb146, 1, none⟩ = some (.int .i64 t145) := (blk_cell BK146.out 1).trans rfl
                have hfz150_0 := blk_frozen BK146.out 0
                have hfz150_1 := blk_frozen BK146.out 1
                have hnb151 := NB149_172.out
                have hnc151 := NB172_149.out
                have hcz152_0 : w142.cell? ⟨gb149, 0, none⟩ = some (.int .i64 t147) := (blk_cell BK149.out 0).trans rfl
                have hcz152_1 : w142.cell? ⟨gb149, 1, none⟩ = some (.int .i64 t148) := (blk_cell BK149.out 1).trans rfl
                have hfz152_0 := blk_frozen BK149.out 0
                have hfz152_1 := blk_frozen BK149.out 1
                go_wp2
                go_meet
                case rel => exact ⟨_, (true), (by first | rfl | (simp; done) | (simp [*]; done)), H', ⟨by have := HJ13.out; first | omega | exact Nat.le_refl _⟩, ⟨by (with_reducible repeat (first | refine blk_drewN ?_ _ | refine blk_drew ?_ | refine blk_alloc ?_ _)); refine blk_far ?_ NB146_172.out _; (with_reducible repeat (first | refine blk_drewN ?_ _ | refine blk_drew ?_ | refine blk_alloc ?_ _)); refine blk_far ?_ NB146_172.out _; (with_reducible repeat (first | refine blk_drewN ?_ _ | refine blk_drew ?_ | refine blk_alloc ?_ _)); exact BK146.out⟩, ⟨by (with_reducible repeat (first | refine blk_drewN ?_ _ | refine blk_drew ?_ | refine blk_alloc ?_ _)); refine blk_far ?_ NB149_172.out _; (with_reducible repeat (first | refine blk_drewN ?_ _ | refine blk_drew ?_ | refine blk_alloc ?_ _)); refine blk_far ?_ NB149_172.out _; (with_reducible repeat (first | refine blk_drewN ?_ _ | refine blk_drew ?_ | refine blk_alloc ?_ _)); exact BK149.out⟩, ⟨by (with_reducible repeat (first | refine blk_drewN ?_ _ | refine blk_drew ?_ | refine blk_alloc ?_ _)); refine blk_put (cs := #[.int .i64 t169, .int .i64 0]) ?_ 1 _ rfl; (with_reducible repeat (first | refine blk_drewN ?_ _ | refine blk_drew ?_ | refine blk_alloc ?_ _)); refine blk_put (cs := #[.int .i64 0, .int .i64 0]) ?_ 0 _ rfl; (with_reducible repeat (first | refine blk_drewN ?_ _ | refine blk_drew ?_ | refine blk_alloc ?_ _)); exact BK172.out⟩, ⟨by repeat (first | (with_reducible first | exact HB.out | apply below_alloc | apply pw_below_drewN | apply below_drew1 | refine below_set ?_ GE146.out | refine below_set ?_ GE149.out | refine below_set ?_ GE172.out) | exact HB.out)⟩⟩
              · rw [if_neg c147] at H
                have c147b0 : (t171 != (decide (t147 ≤ t145))) = false := by simpa using c147
                (try (have c147b1 : decide (t171 = (decide (t147 ≤ t145))) = true := by simpa using c147))
                (try (have c147b2 : (t171 == (decide (t147 ≤ t145))) = true := by simpa using c147))
                clear c147
                by_cases c153 : t171 = true
                · subst c153
                  have H1 : ((span_In.f t169 t170 t144 t145).bind fun t173 => (if t173 = true then ((span_In.f t169 t170 t147 t148).bind fun t174 => (dynamolaw2_SpanHolds.j1 kj13 t150 t151 (Int.tmod a6 1073741824) true (!t174) t144 t145)) else (dynamolaw2_SpanHolds.j1 kj13 t150 t151 (Int.tmod a6 1073741824) true true t144 t145))) = some true := by first | (rw [if_pos rfl] at H; exact H) | exact H | rfl
                  clear H
                  have H := H1
                  clear H1
                  replace H := Option.bind_eq_some_iff.mp H
                  obtain ⟨t173, A1540, H⟩ := H
                  replace H : (if t173 = true then ((span_In.f t169 t170 t147 t148).bind fun t174 => (dynamolaw2_SpanHolds.j1 kj13 t150 t151 (Int.tmod a6 1073741824) true (!t174) t144 t145)) else (dynamolaw2_SpanHolds.j1 kj13 t150 t151 (Int.tmod a6 1073741824) true true t144 t145)) = some true := H
                  have A154 := Aside0.mk A1540
                  clear A1540
                  by_cases c155 : t173 = true
                  · subst c155
                    have H1 : ((span_In.f t169 t170 t147 t148).bind fun t174 => (dynamolaw2_SpanHolds.j1 kj13 t150 t151 (Int.tmod a6 1073741824) true (!t174) t144 t145)) = some true := by first | (rw [if_pos rfl] at H; exact H) | exact H | rfl
                    clear H
                    have H := H1
                    clear H1
                    replace H := Option.bind_eq_some_iff.mp H
                    obtain ⟨t174, A1560, H⟩ := H
                    replace H : (dynamolaw2_SpanHolds.j1 kj13 t150 t151 (Int.tmod a6 1073741824) true (!t174) t144 t145) = some true := H
                    have A156 := Aside0.mk A1560
                    clear A1560
                    have H' := Aside0.mk H
                    clear H
                    have hnb157 := NB146_149.out
                    have hnc157 := NB149_146.out
                    have hnb158 := NB146_172.out
                    have hnc158 := NB172_146.out
                    have hcz159_0 : w142.cell? ⟨gb146, 0, none⟩ = some (.int .i64 t144) := (blk_cell BK146.out 0).trans rfl
                    have hcz159_1 : w142.cell? ⟨gb146, 1, none⟩ = some (.int .i64 t145) := (blk_cell BK146.out 1).trans rfl
                    have hfz159_0 := blk_frozen BK146.out 0
                    have hfz159_1 := blk_frozen BK146.out 1
                    have hnb160 := NB149_172.out
                    have hnc160 := NB172_149.out
                    have hcz161_0 : w142.cell? ⟨gb149, 0, none⟩ = some (.int .i64 t147) := (blk_cell BK149.out 0).trans rfl
                    have hcz161_1 : w142.cell? ⟨gb149, 1, none⟩ = some (.int .i64 t148) := (blk_cell BK149.out 1).trans rfl
                    have hfz161_0 := blk_frozen BK149.out 0
                    have hfz161_1 := blk_frozen BK149.out 1
                    have hcz162_0 : w142.cell? ⟨gb172, 0, none⟩ = some (.int .i64 0) := (blk_cell BK172.out 0).trans rfl
                    have hcz162_1 : w142.cell? ⟨gb172, 1, none⟩ = some (.int .i64 0) := (blk_cell BK172.out 1).trans rfl
                    have hfz162_0 := blk_frozen BK172.out 0
                    have hfz162_1 := blk_frozen BK172.out 1
                    go_wp2_with (first | (go_at_call 18; (with_reducible refine (span_In.calls t169 t170 t144 t145 true _ A154.out).mono ?_); rintro e w163 ⟨rfl, hb⟩; have n0_ := Aside0.mk (blk_below (g := gb146) (o := .cells #[.int .i64 t144, .int .i64 t145] 24 (0, 0)) (by (with_reducible repeat (first | refine blk_drewN ?_ _ | refine blk_drew ?_ | refine blk_alloc ?_ _)); refine blk_far ?_ NB146_172.out _; (with_reducible repeat (first | refine blk_drewN ?_ _ | refine blk_drew ?_ | refine blk_alloc ?_ _)); refine blk_far ?_ NB146_172.out _; (with_reducible repeat (first | refine blk_drewN ?_ _ | refine blk_drew ?_ | refine blk_alloc ?_ _)); exact BK146.out) hb); have n1_ := Aside0.mk (blk_below (g := gb149) (o := .cells #[.int .i64 t147, .int .i64 t148] 24 (0, 0)) (by (with_reducible repeat (first | refine blk_drewN ?_ _ | refine blk_drew ?_ | refine blk_alloc ?_ _)); refine blk_far ?_ NB149_172.out _; (with_reducible repeat (first | refine blk_drewN ?_ _ | refine blk_drew ?_ | refine blk_alloc ?_ _)); refine blk_far ?_ NB149_172.out _; (with_reducible repeat (first | refine blk_drewN ?_ _ | refine blk_drew ?_ | refine blk_alloc ?_ _)); exact BK149.out) hb); have n2_ := Aside0.mk (blk_below (g := gb172) (o := .cells #[.int .i64 t169, .int .i64 t170] 24 (0, 0)) (by (with_reducible repeat (first | refine blk_drewN ?_ _ | refine blk_drew ?_ | refine blk_alloc ?_ _)); refine blk_put (cs := #[.int .i64 t169, .int .i64 0]) ?_ 1 _ rfl; (with_reducible repeat (first | refine blk_drewN ?_ _ | refine blk_drew ?_ | refine blk_alloc ?_ _)); refine blk_put (cs := #[.int .i64 0, .int .i64 0]) ?_ 0 _ rfl; (with_reducible repeat (first | refine blk_drewN ?_ _ | refine blk_drew ?_ | refine blk_alloc ?_ _)); exact BK172.out) hb); have n3_ := Aside0.mk (below_step (by repeat (first | (with_reducible first | exact HB.out | apply below_alloc | apply pw_below_drewN | apply below_drew1 | refine below_set ?_ GE146.out | refine below_set ?_ GE149.out | refine below_set ?_ GE172.out) | exact HB.out)) hb); clear BK146; clear BK149; clear BK172; clear HB; have BK146 := n0_; have BK149 := n1_; have BK172 := n2_; have HB := n3_; clear n0_ n1_ n2_ n3_; (try clear hb); (try clear hb2); (try clear hk); (try clear hi); have hcz164_0 : w163.cell? ⟨gb172, 0, none⟩ = some (.int .i64 t169) := (blk_cell BK172.out 0).trans rfl; have hcz164_1 : w163.cell? ⟨gb172, 1, none⟩ = some (.int .i64 t170) := (blk_cell BK172.out 1).trans rfl; have hfz164_0 := blk_frozen BK172.out 0; have hfz164_1 := blk_frozen BK172.out 1; have hcz165_0 : w163.cell? ⟨gb149, 0, none⟩ = some (.int .i64 t147) := (blk_cell BK149.out 0).trans rfl; have hcz165_1 : w163.cell? ⟨gb149, 1, none⟩ = some (.int .i64 t148) := (blk_cell BK149.out 1).trans rfl; have hfz165_0 := blk_frozen BK149.out 0; have hfz165_1 := blk_frozen BK149.out 1) | (go_at_call 18; (with_reducible refine (span_In.calls t169 t170 t147 t148 t174 _ A156.out).mono ?_); rintro e w166 ⟨rfl, hb⟩; have n0_ := Aside0.mk (blk_below (g := gb146) (o := .cells #[.int .i64 t144, .int .i64 t145] 24 (0, 0)) (by (with_reducible repeat (first | refine blk_drewN ?_ _ | refine blk_drew ?_ | refine blk_alloc ?_ _)); exact BK146.out) hb); have n1_ := Aside0.mk (blk_below (g := gb149) (o := .cells #[.int .i64 t147, .int .i64 t148] 24 (0, 0)) (by (with_reducible repeat (first | refine blk_drewN ?_ _ | refine blk_drew ?_ | refine blk_alloc ?_ _)); exact BK149.out) hb); have n2_ := Aside0.mk (blk_below (g := gb172) (o := .cells #[.int .i64 t169, .int .i64 t170] 24 (0, 0)) (by (with_reducible repeat (first | refine blk_drewN ?_ _ | refine blk_drew ?_ | refine blk_alloc ?_ _)); exact BK172.out) hb); have n3_ := Aside0.mk (below_step (by repeat (first | (with_reducible first | exact HB.out | apply below_alloc | apply pw_below_drewN | apply below_drew1 | refine below_set ?_ GE146.out | refine below_set ?_ GE149.out | refine below_set ?_ GE172.out) | exact HB.out)) hb); clear BK146; clear BK149; clear BK172; clear HB; have BK146 := n0_; have BK149 := n1_; have BK172 := n2_; have HB := n3_; clear n0_ n1_ n2_ n3_; (try clear hb); (try clear hb2); (try clear hk); (try clear hi)))
                    go_meet
                    case rel => exact ⟨_, (!t174), (by first | rfl | (simp; done) | (simp [*]; done)), H', ⟨by have := HJ13.out; first | omega | exact Nat.le_refl _⟩, ⟨by (with_reducible repeat (first | refine blk_drewN ?_ _ | refine blk_drew ?_ | refine blk_alloc ?_ _)); exact BK146.out⟩, ⟨by (with_reducible repeat (first | refine blk_drewN ?_ _ | refine blk_drew ?_ | refine blk_alloc ?_ _)); exact BK149.out⟩, ⟨by (with_reducible repeat (first | refine blk_drewN ?_ _ | refine blk_drew ?_ | refine blk_alloc ?_ _)); exact BK172.out⟩, ⟨by repeat (first | (with_reducible first | exact HB.out | apply below_alloc | apply pw_below_drewN | apply below_drew1 | refine below_set ?_ GE146.out | refine below_set ?_ GE149.out | refine below_set ?_ GE172.out) | exact HB.out)⟩⟩
                  · replace c155 := Bool.eq_false_iff.mpr c155
                    subst c155
                    have H1 : (dynamolaw2_SpanHolds.j1 kj13 t150 t151 (Int.tmod a6 1073741824) true true t144 t145) = some true := by first | (rw [if_neg (show ¬ (false = true) by decide)] at H; exact H) | exact H | rfl
                    clear H
                    have H := H1
                    clear H1
                    have H' := Aside0.mk H
                    clear H
                    have hnb167 := NB146_149.out
                    have hnc167 := NB149_146.out
                    have hnb168 := NB146_172.out
                    have hnc168 := NB172_146.out
                    have hcz169_0 : w142.cell? ⟨gb146, 0, none⟩ = some (.int .i64 t144) := (blk_cell BK146.out 0).trans rfl
                    have hcz169_1 : w142.cell? ⟨gb146, 1, none⟩ = some (.int .i64 t145) := (blk_cell BK146.out 1).trans rfl
                    have hfz169_0 := blk_frozen BK146.out 0
                    have hfz169_1 := blk_frozen BK146.out 1
                    have hnb170 := NB149_172.out
                    have hnc170 := NB172_149.out
                    have hcz171_0 : w142.cell? ⟨gb149, 0, none⟩ = some (.int .i64 t147) := (blk_cell BK149.out 0).trans rfl
                    have hcz171_1 : w142.cell? ⟨gb149, 1, none⟩ = some (.int .i64 t148) := (blk_cell BK149.out 1).trans rfl
                    have hfz171_0 := blk_frozen BK149.out 0
                    have hfz171_1 := blk_frozen BK149.out 1
                    have hcz172_0 : w142.cell? ⟨gb172, 0, none⟩ = some (.int .i64 0) := (blk_cell BK172.out 0).trans rfl
                    have hcz172_1 : w142.cell? ⟨gb172, 1, none⟩ = some (.int .i64 0) := (blk_cell BK172.out 1).trans rfl
                    have hfz172_0 := blk_frozen BK172.out 0
                    have hfz172_1 := blk_frozen BK172.out 1
                    go_wp2_with (first | (go_at_call 18; (with_reducible refine (span_In.calls t169 t170 t144 t145 false _ A154.out).mono ?_); rintro e w173 ⟨rfl, hb⟩; have n0_ := Aside0.mk (blk_below (g := gb146) (o := .cells #[.int .i64 t144, .int .i64 t145] 24 (0, 0)) (by (with_reducible repeat (first | refine blk_drewN ?_ _ | refine blk_drew ?_ | refine blk_alloc ?_ _)); refine blk_far ?_ NB146_172.out _; (with_reducible repeat (first | refine blk_drewN ?_ _ | refine blk_drew ?_ | refine blk_alloc ?_ _)); refine blk_far ?_ NB146_172.out _; (with_reducible repeat (first | refine blk_drewN ?_ _ | refine blk_drew ?_ | refine blk_alloc ?_ _)); exact BK146.out) hb); have n1_ := Aside0.mk (blk_below (g := gb149) (o := .cells #[.int .i64 t147, .int .i64 t148] 24 (0, 0)) (by (with_reducible repeat (first | refine blk_drewN ?_ _ | refine blk_drew ?_ | refine blk_alloc ?_ _)); refine blk_far ?_ NB149_172.out _; (with_reducible repeat (first | refine blk_drewN ?_ _ | refine blk_drew ?_ | refine blk_alloc ?_ _)); refine blk_far ?_ NB149_172.out _; (with_reducible repeat (first | refine blk_drewN ?_ _ | refine blk_drew ?_ | refine blk_alloc ?_ _)); exact BK149.out) hb); have n2_ := Aside0.mk (blk_below (g := gb172) (o := .cells #[.int .i64 t169, .int .i64 t170] 24 (0, 0)) (by (with_reducible repeat (first | refine blk_drewN ?_ _ | refine blk_drew ?_ | refine blk_alloc ?_ _)); refine blk_put (cs := #[.int .i64 t169, .int .i64 0]) ?_ 1 _ rfl; (with_reducible repeat (first | refine blk_drewN ?_ _ | refine blk_drew ?_ | refine blk_alloc ?_ _)); refine blk_put (cs := #[.int .i64 0, .int .i64 0]) ?_ 0 _ rfl; (with_reducible repeat (first | refine blk_drewN ?_ _ | refine blk_drew ?_ | refine blk_alloc ?_ _)); exact BK172.out) hb); have n3_ := Aside0.mk (below_step (by repeat (first | (with_reducible first | exact HB.out | apply below_alloc | apply pw_below_drewN | apply below_drew1 | refine below_set ?_ GE146.out | refine below_set ?_ GE149.out | refine below_set ?_ GE172.out) | exact HB.out)) hb); clear BK146; clear BK149; clear BK172; clear HB; have BK146 := n0_; have BK149 := n1_; have BK172 := n2_; have HB := n3_; clear n0_ n1_ n2_ n3_; (try clear hb); (try clear hb2); (try clear hk); (try clear hi)))
                    go_meet
                    case rel => exact ⟨_, (true), (by first | rfl | (simp; done) | (simp [*]; done)), H', ⟨by have := HJ13.out; first | omega | exact Nat.le_refl _⟩, ⟨by (with_reducible repeat (first | refine blk_drewN ?_ _ | refine blk_drew ?_ | refine blk_alloc ?_ _)); exact BK146.out⟩, ⟨by (with_reducible repeat (first | refine blk_drewN ?_ _ | refine blk_drew ?_ | refine blk_alloc ?_ _)); exact BK149.out⟩, ⟨by (with_reducible repeat (first | refine blk_drewN ?_ _ | refine blk_drew ?_ | refine blk_alloc ?_ _)); exact BK172.out⟩, ⟨by repeat (first | (with_reducible first | exact HB.out | apply below_alloc | apply pw_below_drewN | apply below_drew1 | refine below_set ?_ GE146.out | refine below_set ?_ GE149.out | refine below_set ?_ GE172.out) | exact HB.out)⟩⟩
                · replace c153 := Bool.eq_false_iff.mpr c153
                  subst c153
                  have H1 : (dynamolaw2_SpanHolds.j1 kj13 t150 t151 (Int.tmod a6 1073741824) true false t144 t145) = some true := by first | (rw [if_neg (show ¬ (false = true) by decide)] at H; exact H) | exact H | rfl
                  clear H
                  have H := H1
                  clear H1
                  have H' := Aside0.mk H
                  clear H
                  have hnb174 := NB146_149.out
                  have hnc174 := NB149_146.out
                  have hnb175 := NB146_172.out
                  have hnc175 := NB172_146.out
                  have hcz176_0 : w142.cell? ⟨gb146, 0, none⟩ = some (.int .i64 t144) := (blk_cell BK146.out 0).trans rfl
                  have hcz176_1 : w142.cell? ⟨gb146, 1, none⟩ = some (.int .i64 t145) := (blk_cell BK146.out 1).trans rfl
                  have hfz176_0 := blk_frozen BK146.out 0
                  have hfz176_1 := blk_frozen BK146.out 1
                  have hnb177 := NB149_172.out
                  have hnc177 := NB172_149.out
                  have hcz178_0 : w142.cell? ⟨gb149, 0, none⟩ = some (.int .i64 t147) := (blk_cell BK149.out 0).trans rfl
                  have hcz178_1 : w142.cell? ⟨gb149, 1, none⟩ = some (.int .i64 t148) := (blk_cell BK149.out 1).trans rfl
                  have hfz178_0 := blk_frozen BK149.out 0
                  have hfz178_1 := blk_frozen BK149.out 1
                  go_wp2
                  go_meet
                  case rel => exact ⟨_, (false), (by first | rfl | (simp; done) | (simp [*]; done)), H', ⟨by have := HJ13.out; first | omega | exact Nat.le_refl _⟩, ⟨by (with_reducible repeat (first | refine blk_drewN ?_ _ | refine blk_drew ?_ | refine blk_alloc ?_ _)); refine blk_far ?_ NB146_172.out _; (with_reducible repeat (first | refine blk_drewN ?_ _ | refine blk_drew ?_ | refine blk_alloc ?_ _)); refine blk_far ?_ NB146_172.out _; (with_reducible repeat (first | refine blk_drewN ?_ _ | refine blk_drew ?_ | refine blk_alloc ?_ _)); exact BK146.out⟩, ⟨by (with_reducible repeat (first | refine blk_drewN ?_ _ | refine blk_drew ?_ | refine blk_alloc ?_ _)); refine blk_far ?_ NB149_172.out _; (with_reducible repeat (first | refine blk_drewN ?_ _ | refine blk_drew ?_ | refine blk_alloc ?_ _)); refine blk_far ?_ NB149_172.out _; (with_reducible repeat (first | refine blk_drewN ?_ _ | refine blk_drew ?_ | refine blk_alloc ?_ _)); exact BK149.out⟩, ⟨by (with_reducible repeat (first | refine blk_drewN ?_ _ | refine blk_drew ?_ | refine blk_alloc ?_ _)); refine blk_put (cs := #[.int .i64 t169, .int .i64 0]) ?_ 1 _ rfl; (with_reducible repeat (first | refine blk_drewN ?_ _ | refine blk_drew ?_ | refine blk_alloc ?_ _)); refine blk_put (cs := #[.int .i64 0, .int .i64 0]) ?_ 0 _ rfl; (with_reducible repeat (first | refine blk_drewN ?_ _ | refine blk_drew ?_ | refine blk_alloc ?_ _)); exact BK172.out⟩, ⟨by repeat (first | (with_reducible first | exact HB.out | apply below_alloc | apply pw_below_drewN | apply below_drew1 | refine below_set ?_ GE146.out | refine below_set ?_ GE149.out | refine below_set ?_ GE172.out) | exact HB.out)⟩⟩
            · rw [if_neg c146] at H
              have c146b0 : decide (t144 ≤ t148) = false := decide_eq_false c146
              clear c146
              (first | rw [c146b0] | (simp only [i64_w, i32_w]; rw [c146b0]) | skip)
              by_cases c179 : (t171 != false) = true
              · rw [if_pos c179] at H
                have c179b0 : (t171 != false) = true := c179
                (try (have c179b1 : decide (t171 = false) = false := by simpa using c179))
                (try (have c179b2 : (t171 == false) = false := by simpa using c179))
                (try (have c179b3 : ¬ (t171 = false) := by simpa using c179))
                clear c179
                have H' := Aside0.mk H
                clear H
                have hnb180 := NB146_149.out
                have hnc180 := NB149_146.out
                have hnb181 := NB146_172.out
                have hnc181 := NB172_146.out
                have hcz182_0 : w142.cell? ⟨gb146, 0, none⟩ = some (.int .i64 t144) := (blk_cell BK146.out 0).trans rfl
                have hcz182_1 : w142.cell? ⟨gb146, 1, none⟩ = some (.int .i64 t145) := (blk_cell BK146.out 1).trans rfl
                have hfz182_0 := blk_frozen BK146.out 0
                have hfz182_1 := blk_frozen BK146.out 1
                have hnb183 := NB149_172.out
                have hnc183 := NB172_149.out
                have hcz184_0 : w142.cell? ⟨gb149, 0, none⟩ = some (.int .i64 t147) := (blk_cell BK149.out 0).trans rfl
                have hcz184_1 : w142.cell? ⟨gb149, 1, none⟩ = some (.int .i64 t148) := (blk_cell BK149.out 1).trans rfl
                have hfz184_0 := blk_frozen BK149.out 0
                have hfz184_1 := blk_frozen BK149.out 1
                go_wp2
                go_meet
                case rel => exact ⟨_, (true), (by first | rfl | (simp; done) | (simp [*]; done)), H', ⟨by have := HJ13.out; first | omega | exact Nat.le_refl _⟩, ⟨by (with_reducible repeat (first | refine blk_drewN ?_ _ | refine blk_drew ?_ | refine blk_alloc ?_ _)); refine blk_far ?_ NB146_172.out _; (with_reducible repeat (first | refine blk_drewN ?_ _ | refine blk_drew ?_ | refine blk_alloc ?_ _)); refine blk_far ?_ NB146_172.out _; (with_reducible repeat (first | refine blk_drewN ?_ _ | refine blk_drew ?_ | refine blk_alloc ?_ _)); exact BK146.out⟩, ⟨by (with_reducible repeat (first | refine blk_drewN ?_ _ | refine blk_drew ?_ | refine blk_alloc ?_ _)); refine blk_far ?_ NB149_172.out _; (with_reducible repeat (first | refine blk_drewN ?_ _ | refine blk_drew ?_ | refine blk_alloc ?_ _)); refine blk_far ?_ NB149_172.out _; (with_reducible repeat (first | refine blk_drewN ?_ _ | refine blk_drew ?_ | refine blk_alloc ?_ _)); exact BK149.out⟩, ⟨by (with_reducible repeat (first | refine blk_drewN ?_ _ | refine blk_drew ?_ | refine blk_alloc ?_ _)); refine blk_put (cs := #[.int .i64 t169, .int .i64 0]) ?_ 1 _ rfl; (with_reducible repeat (first | refine blk_drewN ?_ _ | refine blk_drew ?_ | refine blk_alloc ?_ _)); refine blk_put (cs := #[.int .i64 0, .int .i64 0]) ?_ 0 _ rfl; (with_reducible repeat (first | refine blk_drewN ?_ _ | refine blk_drew ?_ | refine blk_alloc ?_ _)); exact BK172.out⟩, ⟨by repeat (first | (with_reducible first | exact HB.out | apply below_alloc | apply pw_below_drewN | apply below_drew1 | refine below_set ?_ GE146.out | refine below_set ?_ GE149.out | refine below_set ?_ GE172.out) | exact HB.out)⟩⟩
              · rw [if_neg c179] at H
                have c179b0 : (t171 != false) = false := by simpa using c179
                (try (have c179b1 : decide (t171 = false) = true := by simpa using c179))
                (try (have c179b2 : (t171 == false) = true := by simpa using c179))
                clear c179
                by_cases c185 : t171 = true
                · subst c185
                  have H1 : ((span_In.f t169 t170 t144 t145).bind fun t175 => (if t175 = true then ((span_In.f t169 t170 t147 t148).bind fun t176 => (dynamolaw2_SpanHolds.j1 kj13 t150 t151 (Int.tmod a6 1073741824) true (!t176) t144 t145)) else (dynamolaw2_SpanHolds.j1 kj13 t150 t151 (Int.tmod a6 1073741824) true true t144 t145))) = some true := by first | (rw [if_pos rfl] at H; exact H) | exact H | rfl
                  clear H
                  have H := H1
                  clear H1
                  replace H := Option.bind_eq_some_iff.mp H
                  obtain ⟨t175, A1860, H⟩ := H
                  replace H : (if t175 = true then ((span_In.f t169 t170 t147 t148).bind fun t176 => (dynamolaw2_SpanHolds.j1 kj13 t150 t151 (Int.tmod a6 1073741824) true (!t176) t144 t145)) else (dynamolaw2_SpanHolds.j1 kj13 t150 t151 (Int.tmod a6 1073741824) true true t144 t145)) = some true := H
                  have A186 := Aside0.mk A1860
                  clear A1860
                  by_cases c187 : t175 = true
                  · subst c187
                    have H1 : ((span_In.f t169 t170 t147 t148).bind fun t176 => (dynamolaw2_SpanHolds.j1 kj13 t150 t151 (Int.tmod a6 1073741824) true (!t176) t144 t145)) = some true := by first | (rw [if_pos rfl] at H; exact H) | exact H | rfl
                    clear H
                    have H := H1
                    clear H1
                    replace H := Option.bind_eq_some_iff.mp H
                    obtain ⟨t176, A1880, H⟩ := H
                    replace H : (dynamolaw2_SpanHolds.j1 kj13 t150 t151 (Int.tmod a6 1073741824) true (!t176) t144 t145) = some true := H
                    have A188 := Aside0.mk A1880
                    clear A1880
                    have H' := Aside0.mk H
                    clear H
                    have hnb189 := NB146_149.out
                    have hnc189 := NB149_146.out
                    have hnb190 := NB146_172.out
                    have hnc190 := NB172_146.out
                    have hcz191_0 : w142.cell? ⟨gb146, 0, none⟩ = some (.int .i64 t144) := (blk_cell BK146.out 0).trans rfl
                    have hcz191_1 : w142.cell? ⟨gb146, 1, none⟩ = some (.int .i64 t145) := (blk_cell BK146.out 1).trans rfl
                    have hfz191_0 := blk_frozen BK146.out 0
                    have hfz191_1 := blk_frozen BK146.out 1
                    have hnb192 := NB149_172.out
                    have hnc192 := NB172_149.out
                    have hcz193_0 : w142.cell? ⟨gb149, 0, none⟩ = some (.int .i64 t147) := (blk_cell BK149.out 0).trans rfl
                    have hcz193_1 : w142.cell? ⟨gb149, 1, none⟩ = some (.int .i64 t148) := (blk_cell BK149.out 1).trans rfl
                    have hfz193_0 := blk_frozen BK149.out 0
                    have hfz193_1 := blk_frozen BK149.out 1
                    have hcz194_0 : w142.cell? ⟨gb172, 0, none⟩ = some (.int .i64 0) := (blk_cell BK172.out 0).trans rfl
                    have hcz194_1 : w142.cell? ⟨gb172, 1, none⟩ = some (.int .i64 0) := (blk_cell BK172.out 1).trans rfl
                    have hfz194_0 := blk_frozen BK172.out 0
                    have hfz194_1 := blk_frozen BK172.out 1
                    go_wp2_with (first | (go_at_call 18; (with_reducible refine (span_In.calls t169 t170 t144 t145 true _ A186.out).mono ?_); rintro e w195 ⟨rfl, hb⟩; have n0_ := Aside0.mk (blk_below (g := gb146) (o := .cells #[.int .i64 t144, .int .i64 t145] 24 (0, 0)) (by (with_reducible repeat (first | refine blk_drewN ?_ _ | refine blk_drew ?_ | refine blk_alloc ?_ _)); refine blk_far ?_ NB146_172.out _; (with_reducible repeat (first | refine blk_drewN ?_ _ | refine blk_drew ?_ | refine blk_alloc ?_ _)); refine blk_far ?_ NB146_172.out _; (with_reducible repeat (first | refine blk_drewN ?_ _ | refine blk_drew ?_ | refine blk_alloc ?_ _)); exact BK146.out) hb); have n1_ := Aside0.mk (blk_below (g := gb149) (o := .cells #[.int .i64 t147, .int .i64 t148] 24 (0, 0)) (by (with_reducible repeat (first | refine blk_drewN ?_ _ | refine blk_drew ?_ | refine blk_alloc ?_ _)); refine blk_far ?_ NB149_172.out _; (with_reducible repeat (first | refine blk_drewN ?_ _ | refine blk_drew ?_ | refine blk_alloc ?_ _)); refine blk_far ?_ NB149_172.out _; (with_reducible repeat (first | refine blk_drewN ?_ _ | refine blk_drew ?_ | refine blk_alloc ?_ _)); exact BK149.out) hb); have n2_ := Aside0.mk (blk_below (g := gb172) (o := .cells #[.int .i64 t169, .int .i64 t170] 24 (0, 0)) (by (with_reducible repeat (first | refine blk_drewN ?_ _ | refine blk_drew ?_ | refine blk_alloc ?_ _)); refine blk_put (cs := #[.int .i64 t169, .int .i64 0]) ?_ 1 _ rfl; (with_reducible repeat (first | refine blk_drewN ?_ _ | refine blk_drew ?_ | refine blk_alloc ?_ _)); refine blk_put (cs := #[.int .i64 0, .int .i64 0]) ?_ 0 _ rfl; (with_reducible repeat (first | refine blk_drewN ?_ _ | refine blk_drew ?_ | refine blk_alloc ?_ _)); exact BK172.out) hb); have n3_ := Aside0.mk (below_step (by repeat (first | (with_reducible first | exact HB.out | apply below_alloc | apply pw_below_drewN | apply below_drew1 | refine below_set ?_ GE146.out | refine below_set ?_ GE149.out | refine below_set ?_ GE172.out) | exact HB.out)) hb); clear BK146; clear BK149; clear BK172; clear HB; have BK146 := n0_; have BK149 := n1_; have BK172 := n2_; have HB := n3_; clear n0_ n1_ n2_ n3_; (try clear hb); (try clear hb2); (try clear hk); (try clear hi); have hcz196_0 : w195.cell? ⟨gb172, 0, none⟩ = some (.int .i64 t169) := (blk_cell BK172.out 0).trans rfl; have hcz196_1 : w195.cell? ⟨gb172, 1, none⟩ = some (.int .i64 t170) := (blk_cell BK172.out 1).trans rfl; have hfz196_0 := blk_frozen BK172.out 0; have hfz196_1 := blk_frozen BK172.out 1; have hcz197_0 : w195.cell? ⟨gb149, 0, none⟩ = some (.int .i64 t147) := (blk_cell BK149.out 0).trans rfl; have hcz197_1 : w195.cell? ⟨gb149, 1, none⟩ = some (.int .i64 t148) := (blk_cell BK149.out 1).trans rfl; have hfz197_0 := blk_frozen BK149.out 0; have hfz197_1 := blk_frozen BK149.out 1) | (go_at_call 18; (with_reducible refine (span_In.calls t169 t170 t147 t148 t176 _ A188.out).mono ?_); rintro e w198 ⟨rfl, hb⟩; have n0_ := Aside0.mk (blk_below (g := gb146) (o := .cells #[.int .i64 t144, .int .i64 t145] 24 (0, 0)) (by (with_reducible repeat (first | refine blk_drewN ?_ _ | refine blk_drew ?_ | refine blk_alloc ?_ _)); exact BK146.out) hb); have n1_ := Aside0.mk (blk_below (g := gb149) (o := .cells #[.int .i64 t147, .int .i64 t148] 24 (0, 0)) (by (with_reducible repeat (first | refine blk_drewN ?_ _ | refine blk_drew ?_ | refine blk_alloc ?_ _)); exact BK149.out) hb); have n2_ := Aside0.mk (blk_below (g := gb172) (o := .cells #[.int .i64 t169, .int .i64 t170] 24 (0, 0)) (by (with_reducible repeat (first | refine blk_drewN ?_ _ | refine blk_drew ?_ | refine blk_alloc ?_ _)); exact BK172.out) hb); have n3_ := Aside0.mk (below_step (by repeat (first | (with_reducible first | exact HB.out | apply below_alloc | apply pw_below_drewN | apply below_drew1 | refine below_set ?_ GE146.out | refine below_set ?_ GE149.out | refine below_set ?_ GE172.out) | exact HB.out)) hb); clear BK146; clear BK149; clear BK172; clear HB; have BK146 := n0_; have BK149 := n1_; have BK172 := n2_; have HB := n3_; clear n0_ n1_ n2_ n3_; (try clear hb); (try clear hb2); (try clear hk); (try clear hi)))
                    go_meet
                    case rel => exact ⟨_, (!t176), (by first | rfl | (simp; done) | (simp [*]; done)), H', ⟨by have := HJ13.out; first | omega | exact Nat.le_refl _⟩, ⟨by (with_reducible repeat (first | refine blk_drewN ?_ _ | refine blk_drew ?_ | refine blk_alloc ?_ _)); exact BK146.out⟩, ⟨by (with_reducible repeat (first | refine blk_drewN ?_ _ | refine blk_drew ?_ | refine blk_alloc ?_ _)); exact BK149.out⟩, ⟨by (with_reducible repeat (first | refine blk_drewN ?_ _ | refine blk_drew ?_ | refine blk_alloc ?_ _)); exact BK172.out⟩, ⟨by repeat (first | (with_reducible first | exact HB.out | apply below_alloc | apply pw_below_drewN | apply below_drew1 | refine below_set ?_ GE146.out | refine below_set ?_ GE149.out | refine below_set ?_ GE172.out) | exact HB.out)⟩⟩
                  · replace c187 := Bool.eq_false_iff.mpr c187
                    subst c187
                    have H1 : (dynamolaw2_SpanHolds.j1 kj13 t150 t151 (Int.tmod a6 1073741824) true true t144 t145) = some true := by first | (rw [if_neg (show ¬ (false = true) by decide)] at H; exact H) | exact H | rfl
                    clear H
                    have H := H1
                    clear H1
                    have H' := Aside0.mk H
                    clear H
                    have hnb199 := NB146_149.out
                    have hnc199 := NB149_146.out
                    have hnb200 := NB146_172.out
                    have hnc200 := NB172_146.out
                    have hcz201_0 : w142.cell? ⟨gb146, 0, none⟩ = some (.int .i64 t144) := (blk_cell BK146.out 0).trans rfl
                    have hcz201_1 : w142.cell? ⟨gb146, 1, none⟩ = some (.int .i64 t145) := (blk_cell BK146.out 1).trans rfl
                    have hfz201_0 := blk_frozen BK146.out 0
                    have hfz201_1 := blk_frozen BK146.out 1
                    have hnb202 := NB149_172.out
                    have hnc202 := NB172_149.out
                    have hcz203_0 : w142.cell? ⟨gb149, 0, none⟩ = some (.int .i64 t147) := (blk_cell BK149.out 0).trans rfl
                    have hcz203_1 : w142.cell? ⟨gb149, 1, none⟩ = some (.int .i64 t148) := (blk_cell BK149.out 1).trans rfl
                    have hfz203_0 := blk_frozen BK149.out 0
                    have hfz203_1 := blk_frozen BK149.out 1
                    have hcz204_0 : w142.cell? ⟨gb172, 0, none⟩ = some (.int .i64 0) := (blk_cell BK172.out 0).trans rfl
                    have hcz204_1 : w142.cell? ⟨gb172, 1, none⟩ = some (.int .i64 0) := (blk_cell BK172.out 1).trans rfl
                    have hfz204_0 := blk_frozen BK172.out 0
                    have hfz204_1 := blk_frozen BK172.out 1
                    go_wp2_with (first | (go_at_call 18; (with_reducible refine (span_In.calls t169 t170 t144 t145 false _ A186.out).mono ?_); rintro e w205 ⟨rfl, hb⟩; have n0_ := Aside0.mk (blk_below (g := gb146) (o := .cells #[.int .i64 t144, .int .i64 t145] 24 (0, 0)) (by (with_reducible repeat (first | refine blk_drewN ?_ _ | refine blk_drew ?_ | refine blk_alloc ?_ _)); refine blk_far ?_ NB146_172.out _; (with_reducible repeat (first | refine blk_drewN ?_ _ | refine blk_drew ?_ | refine blk_alloc ?_ _)); refine blk_far ?_ NB146_172.out _; (with_reducible repeat (first | refine blk_drewN ?_ _ | refine blk_drew ?_ | refine blk_alloc ?_ _)); exact BK146.out) hb); have n1_ := Aside0.mk (blk_below (g := gb149) (o := .cells #[.int .i64 t147, .int .i64 t148] 24 (0, 0)) (by (with_reducible repeat (first | refine blk_drewN ?_ _ | refine blk_drew ?_ | refine blk_alloc ?_ _)); refine blk_far ?_ NB149_172.out _; (with_reducible repeat (first | refine blk_drewN ?_ _ | refine blk_drew ?_ | refine blk_alloc ?_ _)); refine blk_far ?_ NB149_172.out _; (with_reducible repeat (first | refine blk_drewN ?_ _ | refine blk_drew ?_ | refine blk_alloc ?_ _)); exact BK149.out) hb); have n2_ := Aside0.mk (blk_below (g := gb172) (o := .cells #[.int .i64 t169, .int .i64 t170] 24 (0, 0)) (by (with_reducible repeat (first | refine blk_drewN ?_ _ | refine blk_drew ?_ | refine blk_alloc ?_ _)); refine blk_put (cs := #[.int .i64 t169, .int .i64 0]) ?_ 1 _ rfl; (with_reducible repeat (first | refine blk_drewN ?_ _ | refine blk_drew ?_ | refine blk_alloc ?_ _)); refine blk_put (cs := #[.int .i64 0, .int .i64 0]) ?_ 0 _ rfl; (with_reducible repeat (first | refine blk_drewN ?_ _ | refine blk_drew ?_ | refine blk_alloc ?_ _)); exact BK172.out) hb); have n3_ := Aside0.mk (below_step (by repeat (first | (with_reducible first | exact HB.out | apply below_alloc | apply pw_below_drewN | apply below_drew1 | refine below_set ?_ GE146.out | refine below_set ?_ GE149.out | refine below_set ?_ GE172.out) | exact HB.out)) hb); clear BK146; clear BK149; clear BK172; clear HB; have BK146 := n0_; have BK149 := n1_; have BK172 := n2_; have HB := n3_; clear n0_ n1_ n2_ n3_; (try clear hb); (try clear hb2); (try clear hk); (try clear hi)))
                    go_meet
                    case rel => exact ⟨_, (true), (by first | rfl | (simp; done) | (simp [*]; done)), H', ⟨by have := HJ13.out; first | omega | exact Nat.le_refl _⟩, ⟨by (with_reducible repeat (first | refine blk_drewN ?_ _ | refine blk_drew ?_ | refine blk_alloc ?_ _)); exact BK146.out⟩, ⟨by (with_reducible repeat (first | refine blk_drewN ?_ _ | refine blk_drew ?_ | refine blk_alloc ?_ _)); exact BK149.out⟩, ⟨by (with_reducible repeat (first | refine blk_drewN ?_ _ | refine blk_drew ?_ | refine blk_alloc ?_ _)); exact BK172.out⟩, ⟨by repeat (first | (with_reducible first | exact HB.out | apply below_alloc | apply pw_below_drewN | apply below_drew1 | refine below_set ?_ GE146.out | refine below_set ?_ GE149.out | refine below_set ?_ GE172.out) | exact HB.out)⟩⟩
                · replace c185 := Bool.eq_false_iff.mpr c185
                  subst c185
                  have H1 : (dynamolaw2_SpanHolds.j1 kj13 t150 t151 (Int.tmod a6 1073741824) true false t144 t145) = some true := by first | (rw [if_neg (show ¬ (false = true) by decide)] at H; exact H) | exact H | rfl
                  clear H
                  have H := H1
                  clear H1
                  have H' := Aside0.mk H
                  clear H
                  have hnb206 := NB146_149.out
                  have hnc206 := NB149_146.out
                  have hnb207 := NB146_172.out
                  have hnc207 := NB172_146.out
                  have hcz208_0 : w142.cell? ⟨gb146, 0, none⟩ = some (.int .i64 t144) := (blk_cell BK146.out 0).trans rfl
                  have hcz208_1 : w142.cell? ⟨gb146, 1, none⟩ = some (.int .i64 t145) := (blk_cell BK146.out 1).trans rfl
                  have hfz208_0 := blk_frozen BK146.out 0
                  have hfz208_1 := blk_frozen BK146.out 1
                  have hnb209 := NB149_172.out
                  have hnc209 := NB172_149.out
                  have hcz210_0 : w142.cell? ⟨gb149, 0, none⟩ = some (.int .i64 t147) := (blk_cell BK149.out 0).trans rfl
                  have hcz210_1 : w142.cell? ⟨gb149, 1, none⟩ = some (.int .i64 t148) := (blk_cell BK149.out 1).trans rfl
                  have hfz210_0 := blk_frozen BK149.out 0
                  have hfz210_1 := blk_frozen BK149.out 1
                  go_wp2
                  go_meet
                  case rel => exact ⟨_, (false), (by first | rfl | (simp; done) | (simp [*]; done)), H', ⟨by have := HJ13.out; first | omega | exact Nat.le_refl _⟩, ⟨by (with_reducible repeat (first | refine blk_drewN ?_ _ | refine blk_drew ?_ | refine blk_alloc ?_ _)); refine blk_far ?_ NB146_172.out _; (with_reducible repeat (first | refine blk_drewN ?_ _ | refine blk_drew ?_ | refine blk_alloc ?_ _)); refine blk_far ?_ NB146_172.out _; (with_reducible repeat (first | refine blk_drewN ?_ _ | refine blk_drew ?_ | refine blk_alloc ?_ _)); exact BK146.out⟩, ⟨by (with_reducible repeat (first | refine blk_drewN ?_ _ | refine blk_drew ?_ | refine blk_alloc ?_ _)); refine blk_far ?_ NB149_172.out _; (with_reducible repeat (first | refine blk_drewN ?_ _ | refine blk_drew ?_ | refine blk_alloc ?_ _)); refine blk_far ?_ NB149_172.out _; (with_reducible repeat (first | refine blk_drewN ?_ _ | refine blk_drew ?_ | refine blk_alloc ?_ _)); exact BK149.out⟩, ⟨by (with_reducible repeat (first | refine blk_drewN ?_ _ | refine blk_drew ?_ | refine blk_alloc ?_ _)); refine blk_put (cs := #[.int .i64 t169, .int .i64 0]) ?_ 1 _ rfl; (with_reducible repeat (first | refine blk_drewN ?_ _ | refine blk_drew ?_ | refine blk_alloc ?_ _)); refine blk_put (cs := #[.int .i64 0, .int .i64 0]) ?_ 0 _ rfl; (with_reducible repeat (first | refine blk_drewN ?_ _ | refine blk_drew ?_ | refine blk_alloc ?_ _)); exact BK172.out⟩, ⟨by repeat (first | (with_reducible first | exact HB.out | apply below_alloc | apply pw_below_drewN | apply below_drew1 | refine below_set ?_ GE146.out | refine below_set ?_ GE149.out | refine below_set ?_ GE172.out) | exact HB.out)⟩⟩
          case rest =>
            clear HC137
            try clear c1
            try clear c2
            try clear p2
            try clear c3
            try clear c4
            try clear c6
            try clear p6
            try clear c8
            try clear c9
            try clear c10
            try clear c11
            try clear c12
            try clear c13
            try clear c14
            try clear c15
            try clear c16
            try clear c17
            try clear c18
            try clear c19
            try clear c20
            try clear c21
            try clear c28
            try clear c30
            try clear c33
            try clear c36
            try clear c39
            try clear c42
            try clear c45
            try clear p64
            try clear c69
            try clear c89
            try clear c105
            try clear c118
            try clear c127
            try clear c132
            try clear c135
            try clear c138
            try clear c143
            try clear c144
            try clear c146
            try clear c146b0
            try clear c147
            try clear c147b0
            try clear c147b1
            try clear c147b2
            try clear c148
            try clear c149
            try clear c151
            try clear c153
            try clear c155
            try clear c157
            try clear c158
            try clear c160
            try clear c167
            try clear c168
            try clear c170
            try clear c174
            try clear c175
            try clear c177
            try clear c179
            try clear c179b0
            try clear c179b1
            try clear c179b2
            try clear c180
            try clear c181
            try clear c183
            try clear c185
            try clear c187
            try clear c189
            try clear c190
            try clear c192
            try clear c199
            try clear c200
            try clear c202
            try clear c206
            try clear c207
            try clear c209
            try clear hcz102_0
            try clear hcz102_1
            try clear hcz106_0
            try clear hcz106_1
            try clear hcz108_0
            try clear hcz108_1
            try clear hcz110_0
            try clear hcz110_1
            try clear hcz111_0
            try clear hcz111_1
            try clear hcz114_0
            try clear hcz114_1
            try clear hcz115_0
            try clear hcz115_1
            try clear hcz119_0
            try clear hcz119_1
            try clear hcz121_0
            try clear hcz121_1
            try clear hcz123_0
            try clear hcz123_1
            try clear hcz124_0
            try clear hcz124_1
            try clear hcz128_0
            try clear hcz128_1
            try clear hcz130_0
            try clear hcz130_1
            try clear hcz133_0
            try clear hcz133_1
            try clear hcz139_0
            try clear hcz139_1
            try clear hcz140_0
            try clear hcz140_1
            try clear hcz145_0
            try clear hcz145_1
            try clear hcz150_0
            try clear hcz150_1
            try clear hcz152_0
            try clear hcz152_1
            try clear hcz159_0
            try clear hcz159_1
            try clear hcz161_0
            try clear hcz161_1
            try clear hcz162_0
            try clear hcz162_1
            try clear hcz164_0
            try clear hcz164_1
            try clear hcz165_0
            try clear hcz165_1
            try clear hcz169_0
            try clear hcz169_1
            try clear hcz171_0
            try clear hcz171_1
            try clear hcz172_0
            try clear hcz172_1
            try clear hcz176_0
            try clear hcz176_1
            try clear hcz178_0
            try clear hcz178_1
            try clear hcz182_0
            try clear hcz182_1
            try clear hcz184_0
            try clear hcz184_1
            try clear hcz18_0
            try clear hcz18_1
            try clear hcz191_0
            try clear hcz191_1
            try clear hcz193_0
            try clear hcz193_1
            try clear hcz194_0
            try clear hcz194_1
            try clear hcz196_0
            try clear hcz196_1
            try clear hcz197_0
            try clear hcz197_1
            try clear hcz201_0
            try clear hcz201_1
            try clear hcz203_0
            try clear hcz203_1
            try clear hcz204_0
            try clear hcz204_1
            try clear hcz208_0
            try clear hcz208_1
            try clear hcz210_0
            try clear hcz210_1
            try clear hcz22_0
            try clear hcz22_1
            try clear hcz23_0
            try clear hcz23_1
            try clear hcz25_0
            try clear hcz25_1
            try clear hcz46_0
            try clear hcz46_1
            try clear hcz48_0
            try clear hcz48_1
            try clear hcz50_0
            try clear hcz50_1
            try clear hcz51_0
            try clear hcz51_1
            try clear hcz54_0
            try clear hcz54_1
            try clear hcz55_0
            try clear hcz55_1
            try clear hcz58_0
            try clear hcz58_1
            try clear hcz61_0
            try clear hcz61_1
            try clear hcz62_0
            try clear hcz62_1
            try clear hcz65_0
            try clear hcz65_1
            try clear hcz66_0
            try clear hcz66_1
            try clear hcz70_0
            try clear hcz70_1
            try clear hcz72_0
            try clear hcz72_1
            try clear hcz74_0
            try clear hcz74_1
            try clear hcz75_0
            try clear hcz75_1
            try clear hcz78_0
            try clear hcz78_1
            try clear hcz79_0
            try clear hcz79_1
            try clear hcz82_0
            try clear hcz82_1
            try clear hcz85_0
            try clear hcz85_1
            try clear hcz86_0
            try clear hcz86_1
            try clear hcz90_0
            try clear hcz90_1
            try clear hcz92_0
            try clear hcz92_1
            try clear hcz94_0
            try clear hcz94_1
            try clear hcz95_0
            try clear hcz95_1
            try clear hcz98_0
            try clear hcz98_1
            try clear hcz99_0
            try clear hcz99_1
            try clear hfz102_0
            try clear hfz102_1
            try clear hfz106_0
            try clear hfz106_1
            try clear hfz108_0
            try clear hfz108_1
            try clear hfz110_0
            try clear hfz110_1
            try clear hfz111_0
            try clear hfz111_1
            try clear hfz114_0
            try clear hfz114_1
            try clear hfz115_0
            try clear hfz115_1
            try clear hfz119_0
            try clear hfz119_1
            try clear hfz121_0
            try clear hfz121_1
            try clear hfz123_0
            try clear hfz123_1
            try clear hfz124_0
            try clear hfz124_1
            try clear hfz128_0
            try clear hfz128_1
            try clear hfz130_0
            try clear hfz130_1
            try clear hfz133_0
            try clear hfz133_1
            try clear hfz139_0
            try clear hfz139_1
            try clear hfz140_0
            try clear hfz140_1
            try clear hfz145_0
            try clear hfz145_1
            try clear hfz150_0
            try clear hfz150_1
            try clear hfz152_0
            try clear hfz152_1
            try clear hfz159_0
            try clear hfz159_1
            try clear hfz161_0
            try clear hfz161_1
            try clear hfz162_0
            try clear hfz162_1
            try clear hfz164_0
            try clear hfz164_1
            try clear hfz165_0
            try clear hfz165_1
            try clear hfz169_0
            try clear hfz169_1
            try clear hfz171_0
            try clear hfz171_1
            try clear hfz172_0
            try clear hfz172_1
            try clear hfz176_0
            try clear hfz176_1
            try clear hfz178_0
            try clear hfz178_1
            try clear hfz182_0
            try clear hfz182_1
            try clear hfz184_0
            try clear hfz184_1
            try clear hfz18_0
            try clear hfz18_1
            try clear hfz191_0
            try clear hfz191_1
            try clear hfz193_0
            try clear hfz193_1
            try clear hfz194_0
            try clear hfz194_1
            try clear hfz196_0
            try clear hfz196_1
            try clear hfz197_0
            try clear hfz197_1
            try clear hfz201_0
            try clear hfz201_1
            try clear hfz203_0
            try clear hfz203_1
            try clear hfz204_0
            try clear hfz204_1
            try clear hfz208_0
            try clear hfz208_1
            try clear hfz210_0
            try clear hfz210_1
            try clear hfz22_0
            try clear hfz22_1
            try clear hfz23_0
            try clear hfz23_1
            try clear hfz25_0
            try clear hfz25_1
            try clear hfz46_0
            try clear hfz46_1
            try clear hfz48_0
            try clear hfz48_1
            try clear hfz50_0
            try clear hfz50_1
            try clear hfz51_0
            try clear hfz51_1
            try clear hfz54_0
            try clear hfz54_1
            try clear hfz55_0
            try clear hfz55_1
            try clear hfz58_0
            try clear hfz58_1
            try clear hfz61_0
            try clear hfz61_1
            try clear hfz62_0
            try clear hfz62_1
            try clear hfz65_0
            try clear hfz65_1
            try clear hfz66_0
            try clear hfz66_1
            try clear hfz70_0
            try clear hfz70_1
            try clear hfz72_0
            try clear hfz72_1
            try clear hfz74_0
            try clear hfz74_1
            try clear hfz75_0
            try clear hfz75_1
            try clear hfz78_0
            try clear hfz78_1
            try clear hfz79_0
            try clear hfz79_1
            try clear hfz82_0
            try clear hfz82_1
            try clear hfz85_0
            try clear hfz85_1
            try clear hfz86_0
            try clear hfz86_1
            try clear hfz90_0
            try clear hfz90_1
            try clear hfz92_0
            try clear hfz92_1
            try clear hfz94_0
            try clear hfz94_1
            try clear hfz95_0
            try clear hfz95_1
            try clear hfz98_0
            try clear hfz98_1
            try clear hfz99_0
            try clear hfz99_1
            try clear p2
            try clear p6
            try clear p64
            obtain ⟨kq, x136_136, rfl, HA, HJ136, BK146, BK149, BK172, HB⟩ := hcut
            cases kq with
            | zero => exact absurd HA.out (by simp [dynamolaw2_SpanHolds.j1])
            | succ kj136 =>
              have H := HA.out
              clear HA
              simp only [dynamolaw2_SpanHolds.j1] at H
              by_cases c211 : x136_136 = true
              · subst c211
                have H1 : (some false) = some true := by first | (rw [if_pos rfl] at H; exact H) | exact H | rfl
                clear H
                have H := H1
                clear H1
                exact absurd H (by simp)
              · replace c211 := Bool.eq_false_iff.mpr c211
                subst c211
                have H1 : ((span_Shrink.f t144 t145 (mx (Int.tmod a6 1073741824) 1)).bind fun bt177 => (if true = true then (if (mx (Int.tmod a6 1073741824) 1) = 0 then (none) else ((span_Has.f bt177.1 bt177.2 (wrap64 (Int.tdiv t150 (mx (Int.tmod a6 1073741824) 1)))).bind fun t180 => (if t180 = true then ((span_Widen.f kj136 t144 t145 (Int.tmod a6 1073741824)).bind fun bt181 => ((span_In.f t144 t145 bt181.1 bt181.2).bind fun t183 => (if t183 = true then ((dynamolaw2_at.f t151).bind fun bt184 => ((span_Add.f kj136 t144 t145 bt184.1 bt184.2).bind fun bt186 => ((dynamolaw2_at.f t151).bind fun bt188 => ((span_Sub.f kj136 bt186.1 bt186.2 bt188.1 bt188.2).bind fun bt190 => ((dynamoref_SameSpan.f bt190.1 bt190.2 t144 t145).bind fun t192 => (some t192)))))) else (some false)))) else (some false)))) else (some false))) = some true := by first | (rw [if_neg (show ¬ (false = true) by decide)] at H; exact H) | exact H | rfl
                clear H
                have H := H1
                clear H1
                obtain ⟨ji212, hji212⟩ : ∃ j_ : Int, (mx (Int.tmod a6 1073741824) 1) = j_ := ⟨_, rfl⟩
                replace H : ((span_Shrink.f t144 t145 (ji212)).bind fun bt177 => (if true = true then (if (ji212) = 0 then (none) else ((span_Has.f bt177.1 bt177.2 (wrap64 (Int.tdiv t150 (ji212)))).bind fun t180 => (if t180 = true then ((span_Widen.f kj136 t144 t145 (Int.tmod a6 1073741824)).bind fun bt181 => ((span_In.f t144 t145 bt181.1 bt181.2).bind fun t183 => (if t183 = true then ((dynamolaw2_at.f t151).bind fun bt184 => ((span_Add.f kj136 t144 t145 bt184.1 bt184.2).bind fun bt186 => ((dynamolaw2_at.f t151).bind fun bt188 => ((span_Sub.f kj136 bt186.1 bt186.2 bt188.1 bt188.2).bind fun bt190 => ((dynamoref_SameSpan.f bt190.1 bt190.2 t144 t145).bind fun t192 => (some t192)))))) else (some false)))) else (some false)))) else (some false))) = some true := by first | (rw [hji212] at H; exact H) | (simp only [hji212] at H ⊢; exact H)
                have hji212_ : (if (Int.tmod a6 1073741824) < 1 then 1 else (Int.tmod a6 1073741824)) = ji212 := hji212
                replace H := Option.bind_eq_some_iff.mp H
                obtain ⟨⟨t177, t178⟩, A2130, H⟩ := H
                replace H : (if true = true then (if (ji212) = 0 then (none) else ((span_Has.f t177 t178 (wrap64 (Int.tdiv t150 (ji212)))).bind fun t180 => (if t180 = true then ((span_Widen.f kj136 t144 t145 (Int.tmod a6 1073741824)).bind fun bt181 => ((span_In.f t144 t145 bt181.1 bt181.2).bind fun t183 => (if t183 = true then ((dynamolaw2_at.f t151).bind fun bt184 => ((span_Add.f kj136 t144 t145 bt184.1 bt184.2).bind fun bt186 => ((dynamolaw2_at.f t151).bind fun bt188 => ((span_Sub.f kj136 bt186.1 bt186.2 bt188.1 bt188.2).bind fun bt190 => ((dynamoref_SameSpan.f bt190.1 bt190.2 t144 t145).bind fun t192 => (some t192)))))) else (some false)))) else (some false)))) else (some false)) = some true := H
                have A213 := Aside0.mk A2130
                clear A2130
                have H1 : (if (ji212) = 0 then (none) else ((span_Has.f t177 t178 (wrap64 (Int.tdiv t150 (ji212)))).bind fun t180 => (if t180 = true then ((span_Widen.f kj136 t144 t145 (Int.tmod a6 1073741824)).bind fun bt181 => ((span_In.f t144 t145 bt181.1 bt181.2).bind fun t183 => (if t183 = true then ((dynamolaw2_at.f t151).bind fun bt184 => ((span_Add.f kj136 t144 t145 bt184.1 bt184.2).bind fun bt186 => ((dynamolaw2_at.f t151).bind fun bt188 => ((span_Sub.f kj136 bt186.1 bt186.2 bt188.1 bt188.2).bind fun bt190 => ((dynamoref_SameSpan.f bt190.1 bt190.2 t144 t145).bind fun t192 => (some t192)))))) else (some false)))) else (some false)))) = some true := by first | (with_reducible exact H) | (rw [if_pos rfl] at H; exact H) | exact H | rfl
                clear H
                have H := H1
                clear H1
                by_cases c214 : (ji212) = 0
                · rw [if_pos c214] at H
                  exact absurd H (by simp)
                · rw [if_neg c214] at H
                  have c214b0 : ((ji212) == 0) = false := beq_eq_false_iff_ne.mpr c214
                  have c214b1 : ((ji212) != 0) = true := bne_iff_ne.mpr c214
                  replace H := Option.bind_eq_some_iff.mp H
                  obtain ⟨t180, A2150, H⟩ := H
                  replace H : (if t180 = true then ((span_Widen.f kj136 t144 t145 (Int.tmod a6 1073741824)).bind fun bt181 => ((span_In.f t144 t145 bt181.1 bt181.2).bind fun t183 => (if t183 = true then ((dynamolaw2_at.f t151).bind fun bt184 => ((span_Add.f kj136 t144 t145 bt184.1 bt184.2).bind fun bt186 => ((dynamolaw2_at.f t151).bind fun bt188 => ((span_Sub.f kj136 bt186.1 bt186.2 bt188.1 bt188.2).bind fun bt190 => ((dynamoref_SameSpan.f bt190.1 bt190.2 t144 t145).bind fun t192 => (some t192)))))) else (some false)))) else (some false)) = some true := H
                  have A215 := Aside0.mk A2150
                  clear A2150
                  by_cases c216 : t180 = true
                  · subst c216
                    have H1 : ((span_Widen.f kj136 t144 t145 (Int.tmod a6 1073741824)).bind fun bt181 => ((span_In.f t144 t145 bt181.1 bt181.2).bind fun t183 => (if t183 = true then ((dynamolaw2_at.f t151).bind fun bt184 => ((span_Add.f kj136 t144 t145 bt184.1 bt184.2).bind fun bt186 => ((dynamolaw2_at.f t151).bind fun bt188 => ((span_Sub.f kj136 bt186.1 bt186.2 bt188.1 bt188.2).bind fun bt190 => ((dynamoref_SameSpan.f bt190.1 bt190.2 t144 t145).bind fun t192 => (some t192)))))) else (some false)))) = some true := by first | (rw [if_pos rfl] at H; exact H) | exact H | rfl
                    clear H
                    have H := H1
                    clear H1
                    replace H := Option.bind_eq_some_iff.mp H
                    obtain ⟨⟨t181, t182⟩, A2170, H⟩ := H
                    replace H : ((span_In.f t144 t145 t181 t182).bind fun t183 => (if t183 = true then ((dynamolaw2_at.f t151).bind fun bt184 => ((span_Add.f kj136 t144 t145 bt184.1 bt184.2).bind fun bt186 => ((dynamolaw2_at.f t151).bind fun bt188 => ((span_Sub.f kj136 bt186.1 bt186.2 bt188.1 bt188.2).bind fun bt190 => ((dynamoref_SameSpan.f bt190.1 bt190.2 t144 t145).bind fun t192 => (some t192)))))) else (some false))) = some true := H
                    have A217 := Aside0.mk A2170
                    clear A2170
                    replace H := Option.bind_eq_some_iff.mp H
                    obtain ⟨t183, A2180, H⟩ := H
                    replace H : (if t183 = true then ((dynamolaw2_at.f t151).bind fun bt184 => ((span_Add.f kj136 t144 t145 bt184.1 bt184.2).bind fun bt186 => ((dynamolaw2_at.f t151).bind fun bt188 => ((span_Sub.f kj136 bt186.1 bt186.2 bt188.1 bt188.2).bind fun bt190 => ((dynamoref_SameSpan.f bt190.1 bt190.2 t144 t145).bind fun t192 => (some t192)))))) else (some false)) = some true := H
                    have A218 := Aside0.mk A2180
                    clear A2180
                    by_cases c219 : t183 = true
                    · subst c219
                      have H1 : ((dynamolaw2_at.f t151).bind fun bt184 => ((span_Add.f kj136 t144 t145 bt184.1 bt184.2).bind fun bt186 => ((dynamolaw2_at.f t151).bind fun bt188 => ((span_Sub.f kj136 bt186.1 bt186.2 bt188.1 bt188.2).bind fun bt190 => ((dynamoref_SameSpan.f bt190.1 bt190.2 t144 t145).bind fun t192 => (some t192)))))) = some true := by first | (rw [if_pos rfl] at H; exact H) | exact H | rfl
                      clear H
                      have H := H1
                      clear H1
                      replace H := Option.bind_eq_some_iff.mp H
                      obtain ⟨⟨t184, t185⟩, A2200, H⟩ := H
                      replace H : ((span_Add.f kj136 t144 t145 t184 t185).bind fun bt186 => ((dynamolaw2_at.f t151).bind fun bt188 => ((span_Sub.f kj136 bt186.1 bt186.2 bt188.1 bt188.2).bind fun bt190 => ((dynamoref_SameSpan.f bt190.1 bt190.2 t144 t145).bind fun t192 => (some t192))))) = some true := H
                      have A220 := Aside0.mk A2200
                      clear A2200
                      replace H := Option.bind_eq_some_iff.mp H
                      obtain ⟨⟨t186, t187⟩, A2210, H⟩ := H
                      replace H : ((dynamolaw2_at.f t151).bind fun bt188 => ((span_Sub.f kj136 t186 t187 bt188.1 bt188.2).bind fun bt190 => ((dynamoref_SameSpan.f bt190.1 bt190.2 t144 t145).bind fun t192 => (some t192)))) = some true := H
                      have A221 := Aside0.mk A2210
                      clear A2210
                      replace H := Option.bind_eq_some_iff.mp H
                      obtain ⟨⟨t188, t189⟩, A2220, H⟩ := H
                      have A2221 := Option.some.inj (A220.out.symm.trans A2220)
                      clear A2220
                      simp only [Prod.mk.injEq] at A2221
                      obtain ⟨rfl, rfl⟩ := A2221
                      replace H : ((span_Sub.f kj136 t186 t187 t184 t185).bind fun bt190 => ((dynamoref_SameSpan.f bt190.1 bt190.2 t144 t145).bind fun t192 => (some t192))) = some true := H
                      replace H := Option.bind_eq_some_iff.mp H
                      obtain ⟨⟨t190, t191⟩, A2230, H⟩ := H
                      replace H : ((dynamoref_SameSpan.f t190 t191 t144 t145).bind fun t192 => (some t192)) = some true := H
                      have A223 := Aside0.mk A2230
                      clear A2230
                      replace H := Option.bind_eq_some_iff.mp H
                      obtain ⟨t192, A2240, H⟩ := H
                      replace H : (some t192) = some true := H
                      have A224 := Aside0.mk A2240
                      clear A2240
                      have HLAST := Aside0.mk (Option.some.inj H)
                      clear H
                      have hnb225 := NB146_149.out
                      have hnc225 := NB149_146.out
                      have hnb226 := NB146_172.out
                      have hnc226 := NB172_146.out
                      have hcz227_0 : wc.cell? ⟨gb146, 0, none⟩ = some (.int .i64 t144) := (blk_cell BK146.out 0).trans rfl
                      have hcz227_1 : wc.cell? ⟨gb146, 1, none⟩ = some (.int .i64 t145) := (blk_cell BK146.out 1).trans rfl
                      have hfz227_0 := blk_frozen BK146.out 0
                      have hfz227_1 := blk_frozen BK146.out 1
                      try go_wp2_with (first | ((with_reducible refine gate_callee (f := 40) rfl ?_); refine goesL_ (some 140) rfl rfl Try.func40 (by kernel_rfl) rfl #[.agg #[.int .i64 t144, .int .i64 t145], .int .i64 ji212] rfl (by (try simp only [List.map_toArray, List.map_cons, List.map_nil]); first | done | (simp only [hji212]; rfl) | rfl | (simp only [List.length_drop, List.length_take]; rfl)) ?_; (with_reducible refine (span_Shrink.calls t144 t145 ji212 t177 t178 _ A213.out).mono ?_); rintro e w228 ⟨rfl, hb⟩; refine ⟨_, rfl, ?_⟩; have n0_ := Aside0.mk (blk_below (g := gb146) (o := .cells #[.int .i64 t144, .int .i64 t145] 24 (0, 0)) (by (with_reducible repeat (first | refine blk_drewN ?_ _ | refine blk_drew ?_ | refine blk_alloc ?_ _)); exact BK146.out) hb); have n1_ := Aside0.mk (blk_below (g := gb149) (o := .cells #[.int .i64 t147, .int .i64 t148] 24 (0, 0)) (by (with_reducible repeat (first | refine blk_drewN ?_ _ | refine blk_drew ?_ | refine blk_alloc ?_ _)); exact BK149.out) hb); have n2_ := Aside0.mk (blk_below (g := gb172) (o := .cells #[.int .i64 t169, .int .i64 t170] 24 (0, 0)) (by (with_reducible repeat (first | refine blk_drewN ?_ _ | refine blk_drew ?_ | refine blk_alloc ?_ _)); exact BK172.out) hb); have n3_ := Aside0.mk (below_step (by repeat (first | (with_reducible first | exact HB.out | apply below_alloc | apply pw_below_drewN | apply below_drew1 | refine below_set ?_ GE146.out | refine below_set ?_ GE149.out | refine below_set ?_ GE172.out) | exact HB.out)) hb); clear BK146; clear BK149; clear BK172; clear HB; have BK146 := n0_; have BK149 := n1_; have BK172 := n2_; have HB := n3_; clear n0_ n1_ n2_ n3_; (try clear hb); (try clear hb2); (try clear hk); (try clear hi)) | ((with_reducible refine gate_dst (N := 20) rfl ?_); (try (refine gate_guard (by rfl) ?_; dsimp only)); refine box_event ?hg (N := 20) ?hd (cs := #[.int .i64 0, .int .i64 0]) (t := 24) ?hr ?_; (case hd => rfl); (case hg => rfl); (case hr => first | (go_simp; done) | (go_simp; rfl)); intro gb179 hg w229 hbox hb; have n0_ := Aside0.mk (blk_below (g := gb146) (o := .cells #[.int .i64 t144, .int .i64 t145] 24 (0, 0)) (by (with_reducible repeat (first | refine blk_drewN ?_ _ | refine blk_drew ?_ | refine blk_alloc ?_ _)); exact BK146.out) hb); have n1_ := Aside0.mk (blk_below (g := gb149) (o := .cells #[.int .i64 t147, .int .i64 t148] 24 (0, 0)) (by (with_reducible repeat (first | refine blk_drewN ?_ _ | refine blk_drew ?_ | refine blk_alloc ?_ _)); exact BK149.out) hb); have n2_ := Aside0.mk (blk_below (g := gb172) (o := .cells #[.int .i64 t169, .int .i64 t170] 24 (0, 0)) (by (with_reducible repeat (first | refine blk_drewN ?_ _ | refine blk_drew ?_ | refine blk_alloc ?_ _)); exact BK172.out) hb); have n3_ := Aside0.mk (below_step (by repeat (first | (with_reducible first | exact HB.out | apply below_alloc | apply pw_below_drewN | apply below_drew1 | refine below_set ?_ GE146.out | refine below_set ?_ GE149.out | refine below_set ?_ GE172.out) | exact HB.out)) hb); have n4_ := Aside0.mk (hbox); have n5_ := Aside0.mk ((by rw [hg]; exact (below_size (by repeat (first | (with_reducible first | exact HB.out | apply below_alloc | apply pw_below_drewN | apply below_drew1 | refine below_set ?_ GE146.out | refine below_set ?_ GE149.out | refine below_set ?_ GE172.out) | exact HB.out))) : w.heap.size ≤ gb179)); have n6_ := Aside0.mk ((by rw [hg]; exact (below_size (by repeat (first | (with_reducible first | exact HB.out | apply below_alloc | apply pw_below_drewN | apply below_drew1 | refine below_set ?_ GE146.out | refine below_set ?_ GE149.out | refine below_set ?_ GE172.out) | exact HB.out))) : w.heap.size ≤ gb179)); have n7_ := Aside0.mk ((by rw [hg]; exact Nat.ne_of_lt (blk_lt (g := gb146) (o := .cells #[.int .i64 t144, .int .i64 t145] 24 (0, 0)) (by (with_reducible repeat (first | refine blk_drewN ?_ _ | refine blk_drew ?_ | refine blk_alloc ?_ _)); exact BK146.out)) : gb146 ≠ gb179)); have n8_ := Aside0.mk ((by rw [hg]; exact Nat.ne_of_gt (blk_lt (g := gb146) (o := .cells #[.int .i64 t144, .int .i64 t145] 24 (0, 0)) (by (with_reducible repeat (first | refine blk_drewN ?_ _ | refine blk_drew ?_ | refine blk_alloc ?_ _)); exact BK146.out)) : gb179 ≠ gb146)); have n9_ := Aside0.mk ((by rw [hg]; exact Nat.ne_of_lt (blk_lt (g := gb149) (o := .cells #[.int .i64 t147, .int .i64 t148] 24 (0, 0)) (by (with_reducible repeat (first | refine blk_drewN ?_ _ | refine blk_drew ?_ | refine blk_alloc ?_ _)); exact BK149.out)) : gb149 ≠ gb179)); have n10_ := Aside0.mk ((by rw [hg]; exact Nat.ne_of_gt (blk_lt (g := gb149) (o := .cells #[.int .i64 t147, .int .i64 t148] 24 (0, 0)) (by (with_reducible repeat (first | refine blk_drewN ?_ _ | refine blk_drew ?_ | refine blk_alloc ?_ _)); exact BK149.out)) : gb179 ≠ gb149)); have n11_ := Aside0.mk ((by rw [hg]; exact Nat.ne_of_lt (blk_lt (g := gb172) (o := .cells #[.int .i64 t169, .int .i64 t170] 24 (0, 0)) (by (with_reducible repeat (first | refine blk_drewN ?_ _ | refine blk_drew ?_ | refine blk_alloc ?_ _)); exact BK172.out)) : gb172 ≠ gb179)); have n12_ := Aside0.mk ((by rw [hg]; exact Nat.ne_of_gt (blk_lt (g := gb172) (o := .cells #[.int .i64 t169, .int .i64 t170] 24 (0, 0)) (by (with_reducible repeat (first | refine blk_drewN ?_ _ | refine blk_drew ?_ | refine blk_alloc ?_ _)); exact BK172.out)) : gb179 ≠ gb172)); clear BK146; clear BK149; clear BK172; clear HB; have BK146 := n0_; have BK149 := n1_; have BK172 := n2_; have HB := n3_; have BK179 := n4_; have GW179 := n5_; have GE179 := n6_; have NB146_179 := n7_; have NB179_146 := n8_; have NB149_179 := n9_; have NB179_149 := n10_; have NB172_179 := n11_; have NB179_172 := n12_; clear n0_ n1_ n2_ n3_ n4_ n5_ n6_ n7_ n8_ n9_ n10_ n11_ n12_; clear hb hbox hg; have hnb230 := NB179_146.out; have hnc230 := NB146_179.out; have hnb231 := NB179_149.out; have hnc231 := NB149_179.out; have hnb232 := NB179_172.out; have hnc232 := NB172_179.out; have hcz233_0 : w229.cell? ⟨gb179, 0, none⟩ = some (.int .i64 0) := (blk_cell BK179.out 0).trans rfl; have hcz233_1 : w229.cell? ⟨gb179, 1, none⟩ = some (.int .i64 0) := (blk_cell BK179.out 1).trans rfl; have hfz233_0 := blk_frozen BK179.out 0; have hfz233_1 := blk_frozen BK179.out 1))
                      have n0_ : Aside0 (((w229.setCell ⟨gb179, 0, none⟩ (.int .i64 t177)).setCell ⟨gb179, 1, none⟩ (.int .i64 t178)).heap[gb146]? = some (.cells #[.int .i64 t144, .int .i64 t145] 24 (0, 0))) := ⟨by (with_reducible repeat (first | refine blk_drewN ?_ _ | refine blk_drew ?_ | refine blk_alloc ?_ _)); refine blk_far ?_ NB146_179.out _; (with_reducible repeat (first | refine blk_drewN ?_ _ | refine blk_drew ?_ | refine blk_alloc ?_ _)); refine blk_far ?_ NB146_179.out _; (with_reducible repeat (first | refine blk_drewN ?_ _ | refine blk_drew ?_ | refine blk_alloc ?_ _)); exact BK146.out⟩
                      have n1_ : Aside0 (((w229.setCell ⟨gb179, 0, none⟩ (.int .i64 t177)).setCell ⟨gb179, 1, none⟩ (.int .i64 t178)).heap[gb149]? = some (.cells #[.int .i64 t147, .int .i64 t148] 24 (0, 0))) := ⟨by (with_reducible repeat (first | refine blk_drewN ?_ _ | refine blk_drew ?_ | refine blk_alloc ?_ _)); refine blk_far ?_ NB149_179.out _; (with_reducible repeat (first | refine blk_drewN ?_ _ | refine blk_drew ?_ | refine blk_alloc ?_ _)); refine blk_far ?_ NB149_179.out _; (with_reducible repeat (first | refine blk_drewN ?_ _ | refine blk_drew ?_ | refine blk_alloc ?_ _)); exact BK149.out⟩
                      have n2_ : Aside0 (((w229.setCell ⟨gb179, 0, none⟩ (.int .i64 t177)).setCell ⟨gb179, 1, none⟩ (.int .i64 t178)).heap[gb172]? = some (.cells #[.int .i64 t169, .int .i64 t170] 24 (0, 0))) := ⟨by (with_reducible repeat (first | refine blk_drewN ?_ _ | refine blk_drew ?_ | refine blk_alloc ?_ _)); refine blk_far ?_ NB172_179.out _; (with_reducible repeat (first | refine blk_drewN ?_ _ | refine blk_drew ?_ | refine blk_alloc ?_ _)); refine blk_far ?_ NB172_179.out _; (with_reducible repeat (first | refine blk_drewN ?_ _ | refine blk_drew ?_ | refine blk_alloc ?_ _)); exact BK172.out⟩
                      have n3_ : Aside0 (((w229.setCell ⟨gb179, 0, none⟩ (.int .i64 t177)).setCell ⟨gb179, 1, none⟩ (.int .i64 t178)).heap[gb179]? = some (.cells #[.int .i64 t177, .int .i64 t178] 24 (0, 0))) := ⟨by (with_reducible repeat (first | refine blk_drewN ?_ _ | refine blk_drew ?_ | refine blk_alloc ?_ _)); refine blk_put (cs := #[.int .i64 t177, .int .i64 0]) ?_ 1 _ rfl; (with_reducible repeat (first | refine blk_drewN ?_ _ | refine blk_drew ?_ | refine blk_alloc ?_ _)); refine blk_put (cs := #[.int .i64 0, .int .i64 0]) ?_ 0 _ rfl; (with_reducible repeat (first | refine blk_drewN ?_ _ | refine blk_drew ?_ | refine blk_alloc ?_ _)); exact BK179.out⟩
                      have n4_ : Aside0 (Below w.heap.size w ((w229.setCell ⟨gb179, 0, none⟩ (.int .i64 t177)).setCell ⟨gb179, 1, none⟩ (.int .i64 t178))) := ⟨by repeat (first | (with_reducible first | exact HB.out | apply below_alloc | apply pw_below_drewN | apply below_drew1 | refine below_set ?_ GE146.out | refine below_set ?_ GE149.out | refine below_set ?_ GE172.out | refine below_set ?_ GE179.out) | exact HB.out)⟩
                      (try clear BK146)
                      (try clear BK149)
                      (try clear BK172)
                      (try clear BK179)
                      (try clear HB)
                      generalize ((w229.setCell ⟨gb179, 0, none⟩ (.int .i64 t177)).setCell ⟨gb179, 1, none⟩ (.int .i64 t178)) = w234 at n0_ n1_ n2_ n3_ n4_ ⊢
                      have BK146 := n0_
                      have BK149 := n1_
                      have BK172 := n2_
                      have BK179 := n3_
                      have HB := n4_
                      clear n0_ n1_ n2_ n3_ n4_
                      have n0_ := Aside0.mk (blk_drew BK146.out)
                      have n1_ := Aside0.mk (blk_drew BK149.out)
                      have n2_ := Aside0.mk (blk_drew BK172.out)
                      have n3_ := Aside0.mk (blk_drew BK179.out)
                      have n4_ := Aside0.mk (below_drew1 HB.out)
                      clear BK146
                      clear BK149
                      clear BK172
                      clear BK179
                      clear HB
                      have BK146 := n0_
                      have BK149 := n1_
                      have BK172 := n2_
                      have BK179 := n3_
                      have HB := n4_
                      clear n0_ n1_ n2_ n3_ n4_
                      refine start_ (n := 28) (S := fun w' => w'.cell? ⟨gb179, 0, none⟩ = some (.int .i64 t177) ∧ w'.cell? ⟨gb179, 1, none⟩ = some (.int .i64 t178) ∧ w'.cell? ⟨gb146, 0, none⟩ = some (.int .i64 t144) ∧ w'.cell? ⟨gb146, 1, none⟩ = some (.int .i64 t145)) (ds := []) #[false, false, false, false, false, false, false, false, false, false, false, false, false, false, false, false, false, false, false, false, false, false, false, false, false, false, false, false] (by kernel_rfl) rfl rfl ⟨(blk_cell BK179.out 0).trans rfl, (blk_cell BK179.out 1).trans rfl, (blk_cell BK146.out 0).trans rfl, (blk_cell BK146.out 1).trans rfl⟩ (fun hHeld => ?_); refine with_tabW dynamolaw2_SpanHolds.tab19 dynamolaw2_SpanHolds.bits19 (fun HT_ HW_ => ?_)
                      generalize w234.drew = w235 at BK146 BK149 BK172 BK179 HB hHeld ⊢
                      refine pure_ (i := 0) (N := some 141) (v := ?_) (a' := ?_) #[true, false, false, false, false, false, false, false, false, false, false, false, false, false, false, false, false, false, false, false, false, false, false, false, false, false, false, false] rfl rfl (any_of HT_.out (by kernel_rfl)) (fun _ _ _ h => h) (Or.inl ⟨by rfl, ?_⟩) ?_ ?_
                      rotate_left
                      · intro w'
                        go_simp
                        with_reducible rfl
                      rotate_left
                      · simp only [Act.put, List.setIfInBounds_toArray, List.set_cons_zero, List.set_cons_succ, i64_w, i32_w]
                        rfl
                      refine pure_ (i := 1) (N := some 142) (v := ?_) (a' := ?_) #[true, true, false, false, false, false, false, false, false, false, false, false, false, false, false, false, false, false, false, false, false, false, false, false, false, false, false, false] rfl rfl (any_of HT_.out (by kernel_rfl)) (fun _ _ _ h => h) (Or.inl ⟨by rfl, ?_⟩) ?_ ?_
                      rotate_left
                      · intro w'
                        go_simp
                        with_reducible rfl
                      rotate_left
                      · simp only [Act.put, List.setIfInBounds_toArray, List.set_cons_zero, List.set_cons_succ, i64_w, i32_w]
                        rfl
                      refine pure_ (i := 3) (N := some 144) (v := ?_) (a' := ?_) #[true, true, false, true, false, false, false, false, false, false, false, false, false, false, false, false, false, false, false, false, false, false, false, false, false, false, false, false] rfl rfl (any_of HT_.out (by kernel_rfl)) (fun _ _ _ h => h) (Or.inl ⟨by rfl, ?_⟩) ?_ ?_
                      rotate_left
                      · intro w'
                        go_simp
                        with_reducible rfl
                      rotate_left
                      · simp only [Act.put, List.setIfInBounds_toArray, List.set_cons_zero, List.set_cons_succ, i64_w, i32_w]
                        rfl
                      refine pure_ (i := 4) (N := some 145) (v := ?_) (a' := ?_) #[true, true, false, true, true, false, false, false, false, false, false, false, false, false, false, false, false, false, false, false, false, false, false, false, false, false, false, false] rfl rfl (any_of HT_.out (by kernel_rfl)) (fun _ _ _ h => h) (Or.inl ⟨by rfl, ?_⟩) ?_ ?_
                      rotate_left
                      · intro w'
                        go_simp
                        with_reducible rfl
                      rotate_left
                      · simp only [Act.put, List.setIfInBounds_toArray, List.set_cons_zero, List.set_cons_succ, i64_w, i32_w]
                        rfl
                      refine pure_ (i := 5) (N := some 146) (v := ?_) (a' := ?_) #[true, true, false, true, true, true, false, false, false, false, false, false, false, false, false, false, false, false, false, false, false, false, false, false, false, false, false, false] rfl rfl (any_of HT_.out (by kernel_rfl)) (fun _ _ _ h => h) (Or.inl ⟨by rfl, ?_⟩) ?_ ?_
                      rotate_left
                      · intro w'
                        go_simp
                        with_reducible rfl
                      rotate_left
                      · simp only [Act.put, List.setIfInBounds_toArray, List.set_cons_zero, List.set_cons_succ, i64_w, i32_w]
                        rfl
                      refine pure_ (i := 6) (N := some 147) (v := ?_) (a' := ?_) #[true, true, false, true, true, true, true, false, false, false, false, false, false, false, false, false, false, false, false, false, false, false, false, false, false, false, false, false] rfl rfl (any_of HT_.out (by kernel_rfl)) (fun _ _ _ h => h) (Or.inl ⟨by rfl, ?_⟩) ?_ ?_
                      rotate_left
                      · intro w'
                        go_simp
                        with_reducible rfl
                      rotate_left
                      · simp only [Act.put, List.setIfInBounds_toArray, List.set_cons_zero, List.set_cons_succ, i64_w, i32_w]
                        rfl
                      refine take_ (i := 2) (N := some 143) (v := ?_) (a' := ?_) #[true, true, true, true, true, true, true, false, false, false, false, false, false, false, false, false, false, false, false, false, false, false, false, false, false, false, false, false] rfl rfl (take_ofW HT_.out HW_.out (by kernel_rfl)) (fun _ _ _ h => h) (Or.inl ⟨by rfl, ?_⟩) hHeld ?_ ?_
                      rotate_left
                      · rintro w' ⟨s0, s1, s2, s3⟩
                        go_simp
                        with_reducible rfl
                      rotate_left
                      · simp only [Act.put, List.setIfInBounds_toArray, List.set_cons_zero, List.set_cons_succ, i64_w, i32_w]
                        rfl
                      refine one_ (i := 7) (N := some 148) #[true, true, true, true, true, true, true, true, false, false, false, false, false, false, false, false, false, false, false, false, false, false, false, false, false, false, false, false] rfl rfl (one_of HT_.out (by kernel_rfl)) (by decide) (fun K hK => ?_)
                      refine goes_ Try.func15 (by kernel_rfl) rfl #[.agg #[.int .i64 t177, .int .i64 t178], .int .i64 (wrap64 (Int.tdiv t150 (ji212)))] (by rfl) rfl rfl (by (try simp only [List.map_toArray, List.map_cons, List.map_nil]); first | done | (simp only [hji212]; rfl) | rfl | (simp only [List.length_drop, List.length_take]; rfl)) ?_
                      with_reducible refine (span_Has.calls t177 t178 (wrap64 (Int.tdiv t150 (ji212))) true _ A215.out).mono ?_
                      rintro e w236 ⟨rfl, hb⟩
                      refine ⟨_, rfl, ?_⟩
                      have n0_ := Aside0.mk (blk_below (g := gb146) (o := .cells #[.int .i64 t144, .int .i64 t145] 24 (0, 0)) (by (with_reducible repeat (first | refine blk_drewN ?_ _ | refine blk_drew ?_ | refine blk_alloc ?_ _)); exact BK146.out) hb)
                      have n1_ := Aside0.mk (blk_below (g := gb149) (o := .cells #[.int .i64 t147, .int .i64 t148] 24 (0, 0)) (by (with_reducible repeat (first | refine blk_drewN ?_ _ | refine blk_drew ?_ | refine blk_alloc ?_ _)); exact BK149.out) hb)
                      have n2_ := Aside0.mk (blk_below (g := gb172) (o := .cells #[.int .i64 t169, .int .i64 t170] 24 (0, 0)) (by (with_reducible repeat (first | refine blk_drewN ?_ _ | refine blk_drew ?_ | refine blk_alloc ?_ _)); exact BK172.out) hb)
                      have n3_ := Aside0.mk (blk_below (g := gb179) (o := .cells #[.int .i64 t177, .int .i64 t178] 24 (0, 0)) (by (with_reducible repeat (first | refine blk_drewN ?_ _ | refine blk_drew ?_ | refine blk_alloc ?_ _)); exact BK179.out) hb)
                      have n4_ := Aside0.mk (below_step (by repeat (first | (with_reducible first | exact HB.out | apply below_alloc | apply pw_below_drewN | apply below_drew1 | refine below_set ?_ GE146.out | refine below_set ?_ GE149.out | refine below_set ?_ GE172.out | refine below_set ?_ GE179.out) | exact HB.out)) hb)
                      clear BK146
                      clear BK149
                      clear BK172
                      clear BK179
                      clear HB
                      have BK146 := n0_
                      have BK149 := n1_
                      have BK172 := n2_
                      have BK179 := n3_
                      have HB := n4_
                      clear n0_ n1_ n2_ n3_ n4_
                      (try clear hb)
                      (try clear hb2)
                      (try clear hk)
                      (try clear hi)
                      refine hK.out _ _ ⟨(blk_cell BK179.out 0).trans rfl, (blk_cell BK179.out 1).trans rfl, (blk_cell BK146.out 0).trans rfl, (blk_cell BK146.out 1).trans rfl⟩ (fun hHeld => ?_)
                      clear hK K
                      refine norm_ (a' := ?_) ?_ ?_
                      rotate_left
                      · show Act.put _ (some 148) _ = _
                        simp only [Act.put, List.setIfInBounds_toArray, List.set_cons_zero, List.set_cons_succ, i64_w, i32_w]
                        rfl
                      refine pure_ (i := 8) (N := some 149) (v := ?_) (a' := ?_) #[true, true, true, true, true, true, true, true, true, false, false, false, false, false, false, false, false, false, false, false, false, false, false, false, false, false, false, false] rfl rfl (any_of HT_.out (by kernel_rfl)) (fun _ _ _ h => h) (Or.inl ⟨by rfl, ?_⟩) ?_ ?_
                      rotate_left
                      · intro w'
                        go_simp
                        with_reducible rfl
                      rotate_left
                      · simp only [Act.put, List.setIfInBounds_toArray, List.set_cons_zero, List.set_cons_succ, i64_w, i32_w]
                        rfl
                      refine pure_ (i := 9) (N := some 150) (v := ?_) (a' := ?_) #[true, true, true, true, true, true, true, true, true, true, false, false, false, false, false, false, false, false, false, false, false, false, false, false, false, false, false, false] rfl rfl (any_of HT_.out (by kernel_rfl)) (fun _ _ _ h => h) (Or.inl ⟨by rfl, ?_⟩) ?_ ?_
                      rotate_left
                      · intro w'
                        go_simp
                        with_reducible rfl
                      rotate_left
                      · simp only [Act.put, List.setIfInBounds_toArray, List.set_cons_zero, List.set_cons_succ, i64_w, i32_w]
                        rfl
                      refine pure_ (i := 12) (N := some 153) (v := ?_) (a' := ?_) #[true, true, true, true, true, true, true, true, true, true, false, false, true, false, false, false, false, false, false, false, false, false, false, false, false, false, false, false] rfl rfl (any_of HT_.out (by kernel_rfl)) (fun _ _ _ h => h) (Or.inl ⟨by rfl, ?_⟩) ?_ ?_
                      rotate_left
                      · intro w'
                        go_simp
                        with_reducible rfl
                      rotate_left
                      · simp only [Act.put, List.setIfInBounds_toArray, List.set_cons_zero, List.set_cons_succ, i64_w, i32_w]
                        rfl
                      refine take_ (i := 10) (N := some 151) (v := ?_) (a' := ?_) #[true, true, true, true, true, true, true, true, true, true, true, false, true, false, false, false, false, false, false, false, false, false, false, false, false, false, false, false] rfl rfl (take_ofW HT_.out HW_.out (by kernel_rfl)) (fun _ _ _ h => h) (Or.inl ⟨by rfl, ?_⟩) hHeld ?_ ?_
                      rotate_left
                      · rintro w' ⟨s0, s1, s2, s3⟩
                        go_simp
                        with_reducible rfl
                      rotate_left
                      · simp only [Act.put, List.setIfInBounds_toArray, List.set_cons_zero, List.set_cons_succ, i64_w, i32_w]
                        rfl
                      refine take_ (i := 11) (N := some 152) (v := ?_) (a' := ?_) #[true, true, true, true, true, true, true, true, true, true, true, true, true, false, false, false, false, false, false, false, false, false, false, false, false, false, false, false] rfl rfl (take_ofW HT_.out HW_.out (by kernel_rfl)) (fun _ _ _ h => h) (Or.inl ⟨by rfl, ?_⟩) hHeld ?_ ?_
                      rotate_left
                      · rintro w' ⟨s0, s1, s2, s3⟩
                        go_simp
                        with_reducible rfl
                      rotate_left
                      · simp only [Act.put, List.setIfInBounds_toArray, List.set_cons_zero, List.set_cons_succ, i64_w, i32_w]
                        rfl
                      refine one_ (i := 13) (N := some 154) #[true, true, true, true, true, true, true, true, true, true, true, true, true, true, false, false, false, false, false, false, false, false, false, false, false, false, false, false] rfl rfl (one_of HT_.out (by kernel_rfl)) (by decide) (fun K hK => ?_)
                      refine goes_ Try.func23 (by kernel_rfl) rfl #[.agg #[.int .i64 t144, .int .i64 t145], .int .i64 (Int.tmod a6 1073741824)] (by rfl) rfl rfl (by (try simp only [List.map_toArray, List.map_cons, List.map_nil]); first | done | rfl | (simp only [List.length_drop, List.length_take]; rfl)) ?_
                      with_reducible refine (span_Widen.calls kj136 t144 t145 (Int.tmod a6 1073741824) t181 t182 _ A217.out).mono ?_
                      rintro e w237 ⟨rfl, hb⟩
                      refine ⟨_, rfl, ?_⟩
                      have n0_ := Aside0.mk (blk_below (g := gb146) (o := .cells #[.int .i64 t144, .int .i64 t145] 24 (0, 0)) (by (with_reducible repeat (first | refine blk_drewN ?_ _ | refine blk_drew ?_ | refine blk_alloc ?_ _)); exact BK146.out) hb)
                      have n1_ := Aside0.mk (blk_below (g := gb149) (o := .cells #[.int .i64 t147, .int .i64 t148] 24 (0, 0)) (by (with_reducible repeat (first | refine blk_drewN ?_ _ | refine blk_drew ?_ | refine blk_alloc ?_ _)); exact BK149.out) hb)
                      have n2_ := Aside0.mk (blk_below (g := gb172) (o := .cells #[.int .i64 t169, .int .i64 t170] 24 (0, 0)) (by (with_reducible repeat (first | refine blk_drewN ?_ _ | refine blk_drew ?_ | refine blk_alloc ?_ _)); exact BK172.out) hb)
                      have n3_ := Aside0.mk (blk_below (g := gb179) (o := .cells #[.int .i64 t177, .int .i64 t178] 24 (0, 0)) (by (with_reducible repeat (first | refine blk_drewN ?_ _ | refine blk_drew ?_ | refine blk_alloc ?_ _)); exact BK179.out) hb)
                      have n4_ := Aside0.mk (below_step (by repeat (first | (with_reducible first | exact HB.out | apply below_alloc | apply pw_below_drewN | apply below_drew1 | refine below_set ?_ GE146.out | refine below_set ?_ GE149.out | refine below_set ?_ GE172.out | refine below_set ?_ GE179.out) | exact HB.out)) hb)
                      clear BK146
                      clear BK149
                      clear BK172
                      clear BK179
                      clear HB
                      have BK146 := n0_
                      have BK149 := n1_
                      have BK172 := n2_
                      have BK179 := n3_
                      have HB := n4_
                      clear n0_ n1_ n2_ n3_ n4_
                      (try clear hb)
                      (try clear hb2)
                      (try clear hk)
                      (try clear hi)
                      refine hK.out _ _ ⟨(blk_cell BK179.out 0).trans rfl, (blk_cell BK179.out 1).trans rfl, (blk_cell BK146.out 0).trans rfl, (blk_cell BK146.out 1).trans rfl⟩ (fun hHeld => ?_)
                      clear hK K
                      refine norm_ (a' := ?_) ?_ ?_
                      rotate_left
                      · show Act.put _ (some 154) _ = _
                        simp only [Act.put, List.setIfInBounds_toArray, List.set_cons_zero, List.set_cons_succ, i64_w, i32_w]
                        rfl
                      refine one_ (i := 14) (N := some 155) #[true, true, true, true, true, true, true, true, true, true, true, true, true, true, true, false, false, false, false, false, false, false, false, false, false, false, false, false] rfl rfl (one_of HT_.out (by kernel_rfl)) (by decide) (fun K hK => ?_)
                      refine goes_ Try.func18 (by kernel_rfl) rfl #[.agg #[.int .i64 t144, .int .i64 t145], .agg #[.int .i64 t181, .int .i64 t182]] (by rfl) rfl rfl (by (try simp only [List.map_toArray, List.map_cons, List.map_nil]); first | done | rfl | (simp only [List.length_drop, List.length_take]; rfl)) ?_
                      with_reducible refine (span_In.calls t144 t145 t181 t182 true _ A218.out).mono ?_
                      rintro e w238 ⟨rfl, hb⟩
                      refine ⟨_, rfl, ?_⟩
                      have n0_ := Aside0.mk (blk_below (g := gb146) (o := .cells #[.int .i64 t144, .int .i64 t145] 24 (0, 0)) (by (with_reducible repeat (first | refine blk_drewN ?_ _ | refine blk_drew ?_ | refine blk_alloc ?_ _)); exact BK146.out) hb)
                      have n1_ := Aside0.mk (blk_below (g := gb149) (o := .cells #[.int .i64 t147, .int .i64 t148] 24 (0, 0)) (by (with_reducible repeat (first | refine blk_drewN ?_ _ | refine blk_drew ?_ | refine blk_alloc ?_ _)); exact BK149.out) hb)
                      have n2_ := Aside0.mk (blk_below (g := gb172) (o := .cells #[.int .i64 t169, .int .i64 t170] 24 (0, 0)) (by (with_reducible repeat (first | refine blk_drewN ?_ _ | refine blk_drew ?_ | refine blk_alloc ?_ _)); exact BK172.out) hb)
                      have n3_ := Aside0.mk (blk_below (g := gb179) (o := .cells #[.int .i64 t177, .int .i64 t178] 24 (0, 0)) (by (with_reducible repeat (first | refine blk_drewN ?_ _ | refine blk_drew ?_ | refine blk_alloc ?_ _)); exact BK179.out) hb)
                      have n4_ := Aside0.mk (below_step (by repeat (first | (with_reducible first | exact HB.out | apply below_alloc | apply pw_below_drewN | apply below_drew1 | refine below_set ?_ GE146.out | refine below_set ?_ GE149.out | refine below_set ?_ GE172.out | refine below_set ?_ GE179.out) | exact HB.out)) hb)
                      clear BK146
                      clear BK149
                      clear BK172
                      clear BK179
                      clear HB
                      have BK146 := n0_
                      have BK149 := n1_
                      have BK172 := n2_
                      have BK179 := n3_
                      have HB := n4_
                      clear n0_ n1_ n2_ n3_ n4_
                      (try clear hb)
                      (try clear hb2)
                      (try clear hk)
                      (try clear hi)
                      refine hK.out _ _ ⟨(blk_cell BK179.out 0).trans rfl, (blk_cell BK179.out 1).trans rfl, (blk_cell BK146.out 0).trans rfl, (blk_cell BK146.out 1).trans rfl⟩ (fun hHeld => ?_)
                      clear hK K
                      refine norm_ (a' := ?_) ?_ ?_
                      rotate_left
                      · show Act.put _ (some 155) _ = _
                        simp only [Act.put, List.setIfInBounds_toArray, List.set_cons_zero, List.set_cons_succ, i64_w, i32_w]
                        rfl
                      refine pure_ (i := 15) (N := some 156) (v := ?_) (a' := ?_) #[true, true, true, true, true, true, true, true, true, true, true, true, true, true, true, true, false, false, false, false, false, false, false, false, false, false, false, false] rfl rfl (any_of HT_.out (by kernel_rfl)) (fun _ _ _ h => h) (Or.inl ⟨by rfl, ?_⟩) ?_ ?_
                      rotate_left
                      · intro w'
                        go_simp
                        with_reducible rfl
                      rotate_left
                      · simp only [Act.put, List.setIfInBounds_toArray, List.set_cons_zero, List.set_cons_succ, i64_w, i32_w]
                        rfl
                      refine pure_ (i := 16) (N := some 157) (v := ?_) (a' := ?_) #[true, true, true, true, true, true, true, true, true, true, true, true, true, true, true, true, true, false, false, false, false, false, false, false, false, false, false, false] rfl rfl (any_of HT_.out (by kernel_rfl)) (fun _ _ _ h => h) (Or.inl ⟨by rfl, ?_⟩) ?_ ?_
                      rotate_left
                      · intro w'
                        go_simp
                        with_reducible rfl
                      rotate_left
                      · simp only [Act.put, List.setIfInBounds_toArray, List.set_cons_zero, List.set_cons_succ, i64_w, i32_w]
                        rfl
                      refine pure_ (i := 18) (N := some 159) (v := ?_) (a' := ?_) #[true, true, true, true, true, true, true, true, true, true, true, true, true, true, true, true, true, false, true, false, false, false, false, false, false, false, false, false] rfl rfl (any_of HT_.out (by kernel_rfl)) (fun _ _ _ h => h) (Or.inl ⟨by rfl, ?_⟩) ?_ ?_
                      rotate_left
                      · intro w'
                        go_simp
                        with_reducible rfl
                      rotate_left
                      · simp only [Act.put, List.setIfInBounds_toArray, List.set_cons_zero, List.set_cons_succ, i64_w, i32_w]
                        rfl
                      refine pure_ (i := 21) (N := some 162) (v := ?_) (a' := ?_) #[true, true, true, true, true, true, true, true, true, true, true, true, true, true, true, true, true, false, true, false, false, true, false, false, false, false, false, false] rfl rfl (any_of HT_.out (by kernel_rfl)) (fun _ _ _ h => h) (Or.inl ⟨by rfl, ?_⟩) ?_ ?_
                      rotate_left
                      · intro w'
                        go_simp
                        with_reducible rfl
                      rotate_left
                      · simp only [Act.put, List.setIfInBounds_toArray, List.set_cons_zero, List.set_cons_succ, i64_w, i32_w]
                        rfl
                      refine take_ (i := 17) (N := some 158) (v := ?_) (a' := ?_) #[true, true, true, true, true, true, true, true, true, true, true, true, true, true, true, true, true, true, true, false, false, true, false, false, false, false, false, false] rfl rfl (take_ofW HT_.out HW_.out (by kernel_rfl)) (fun _ _ _ h => h) (Or.inl ⟨by rfl, ?_⟩) hHeld ?_ ?_
                      rotate_left
                      · rintro w' ⟨s0, s1, s2, s3⟩
                        go_simp
                        with_reducible rfl
                      rotate_left
                      · simp only [Act.put, List.setIfInBounds_toArray, List.set_cons_zero, List.set_cons_succ, i64_w, i32_w]
                        rfl
                      refine take_ (i := 24) (N := some 165) (v := ?_) (a' := ?_) #[true, true, true, true, true, true, true, true, true, true, true, true, true, true, true, true, true, true, true, false, false, true, false, false, true, false, false, false] rfl rfl (take_ofW HT_.out HW_.out (by kernel_rfl)) (fun _ _ _ h => h) (Or.inl ⟨by rfl, ?_⟩) hHeld ?_ ?_
                      rotate_left
                      · rintro w' ⟨s0, s1, s2, s3⟩
                        go_simp
                        with_reducible rfl
                      rotate_left
                      · simp only [Act.put, List.setIfInBounds_toArray, List.set_cons_zero, List.set_cons_succ, i64_w, i32_w]
                        rfl
                      refine one_ (i := 19) (N := some 160) #[true, true, true, true, true, true, true, true, true, true, true, true, true, true, true, true, true, true, true, true, false, true, false, false, true, false, false, false] rfl rfl (one_of HT_.out (by kernel_rfl)) (by decide) (fun K hK => ?_)
                      refine goes_ Try.func41 (by kernel_rfl) rfl #[.int .i64 t151] (by rfl) rfl rfl (by (try simp only [List.map_toArray, List.map_cons, List.map_nil]); first | done | rfl | (simp only [List.length_drop, List.length_take]; rfl)) ?_
                      with_reducible refine (dynamolaw2_at.calls t151 t184 t185 _ A220.out).mono ?_
                      rintro e w239 ⟨rfl, hb⟩
                      refine ⟨_, rfl, ?_⟩
                      have n0_ := Aside0.mk (blk_below (g := gb146) (o := .cells #[.int .i64 t144, .int .i64 t145] 24 (0, 0)) (by (with_reducible repeat (first | refine blk_drewN ?_ _ | refine blk_drew ?_ | refine blk_alloc ?_ _)); exact BK146.out) hb)
                      have n1_ := Aside0.mk (blk_below (g := gb149) (o := .cells #[.int .i64 t147, .int .i64 t148] 24 (0, 0)) (by (with_reducible repeat (first | refine blk_drewN ?_ _ | refine blk_drew ?_ | refine blk_alloc ?_ _)); exact BK149.out) hb)
                      have n2_ := Aside0.mk (blk_below (g := gb172) (o := .cells #[.int .i64 t169, .int .i64 t170] 24 (0, 0)) (by (with_reducible repeat (first | refine blk_drewN ?_ _ | refine blk_drew ?_ | refine blk_alloc ?_ _)); exact BK172.out) hb)
                      have n3_ := Aside0.mk (blk_below (g := gb179) (o := .cells #[.int .i64 t177, .int .i64 t178] 24 (0, 0)) (by (with_reducible repeat (first | refine blk_drewN ?_ _ | refine blk_drew ?_ | refine blk_alloc ?_ _)); exact BK179.out) hb)
                      have n4_ := Aside0.mk (below_step (by repeat (first | (with_reducible first | exact HB.out | apply below_alloc | apply pw_below_drewN | apply below_drew1 | refine below_set ?_ GE146.out | refine below_set ?_ GE149.out | refine below_set ?_ GE172.out | refine below_set ?_ GE179.out) | exact HB.out)) hb)
                      clear BK146
                      clear BK149
                      clear BK172
                      clear BK179
                      clear HB
                      have BK146 := n0_
                      have BK149 := n1_
                      have BK172 := n2_
                      have BK179 := n3_
                      have HB := n4_
                      clear n0_ n1_ n2_ n3_ n4_
                      (try clear hb)
                      (try clear hb2)
                      (try clear hk)
                      (try clear hi)
                      refine hK.out _ _ ⟨(blk_cell BK179.out 0).trans rfl, (blk_cell BK179.out 1).trans rfl, (blk_cell BK146.out 0).trans rfl, (blk_cell BK146.out 1).trans rfl⟩ (fun hHeld => ?_)
                      clear hK K
                      refine norm_ (a' := ?_) ?_ ?_
                      rotate_left
                      · show Act.put _ (some 160) _ = _
                        simp only [Act.put, List.setIfInBounds_toArray, List.set_cons_zero, List.set_cons_succ, i64_w, i32_w]
                        rfl
                      refine one_ (i := 20) (N := some 161) #[true, true, true, true, true, true, true, true, true, true, true, true, true, true, true, true, true, true, true, true, true, true, false, false, true, false, false, false] rfl rfl (one_of HT_.out (by kernel_rfl)) (by decide) (fun K hK => ?_)
                      refine goes_ Try.func37 (by kernel_rfl) rfl #[.agg #[.int .i64 t144, .int .i64 t145], .agg #[.int .i64 t184, .int .i64 t185]] (by rfl) rfl rfl (by (try simp only [List.map_toArray, List.map_cons, List.map_nil]); first | done | rfl | (simp only [List.length_drop, List.length_take]; rfl)) ?_
                      with_reducible refine (span_Add.calls kj136 t144 t145 t184 t185 t186 t187 _ A221.out).mono ?_
                      rintro e w240 ⟨rfl, hb⟩
                      refine ⟨_, rfl, ?_⟩
                      have n0_ := Aside0.mk (blk_below (g := gb146) (o := .cells #[.int .i64 t144, .int .i64 t145] 24 (0, 0)) (by (with_reducible repeat (first | refine blk_drewN ?_ _ | refine blk_drew ?_ | refine blk_alloc ?_ _)); exact BK146.out) hb)
                      have n1_ := Aside0.mk (blk_below (g := gb149) (o := .cells #[.int .i64 t147, .int .i64 t148] 24 (0, 0)) (by (with_reducible repeat (first | refine blk_drewN ?_ _ | refine blk_drew ?_ | refine blk_alloc ?_ _)); exact BK149.out) hb)
                      have n2_ := Aside0.mk (blk_below (g := gb172) (o := .cells #[.int .i64 t169, .int .i64 t170] 24 (0, 0)) (by (with_reducible repeat (first | refine blk_drewN ?_ _ | refine blk_drew ?_ | refine blk_alloc ?_ _)); exact BK172.out) hb)
                      have n3_ := Aside0.mk (blk_below (g := gb179) (o := .cells #[.int .i64 t177, .int .i64 t178] 24 (0, 0)) (by (with_reducible repeat (first | refine blk_drewN ?_ _ | refine blk_drew ?_ | refine blk_alloc ?_ _)); exact BK179.out) hb)
                      have n4_ := Aside0.mk (below_step (by repeat (first | (with_reducible first | exact HB.out | apply below_alloc | apply pw_below_drewN | apply below_drew1 | refine below_set ?_ GE146.out | refine below_set ?_ GE149.out | refine below_set ?_ GE172.out | refine below_set ?_ GE179.out) | exact HB.out)) hb)
                      clear BK146
                      clear BK149
                      clear BK172
                      clear BK179
                      clear HB
                      have BK146 := n0_
                      have BK149 := n1_
                      have BK172 := n2_
                      have BK179 := n3_
                      have HB := n4_
                      clear n0_ n1_ n2_ n3_ n4_
                      (try clear hb)
                      (try clear hb2)
                      (try clear hk)
                      (try clear hi)
                      refine hK.out _ _ ⟨(blk_cell BK179.out 0).trans rfl, (blk_cell BK179.out 1).trans rfl, (blk_cell BK146.out 0).trans rfl, (blk_cell BK146.out 1).trans rfl⟩ (fun hHeld => ?_)
                      clear hK K
                      refine norm_ (a' := ?_) ?_ ?_
                      rotate_left
                      · show Act.put _ (some 161) _ = _
                        simp only [Act.put, List.setIfInBounds_toArray, List.set_cons_zero, List.set_cons_succ, i64_w, i32_w]
                        rfl
                      refine one_ (i := 22) (N := some 163) #[true, true, true, true, true, true, true, true, true, true, true, true, true, true, true, true, true, true, true, true, true, true, true, false, true, false, false, false] rfl rfl (one_of HT_.out (by kernel_rfl)) (by decide) (fun K hK => ?_)
                      refine goes_ Try.func41 (by kernel_rfl) rfl #[.int .i64 t151] (by rfl) rfl rfl (by (try simp only [List.map_toArray, List.map_cons, List.map_nil]); first | done | rfl | (simp only [List.length_drop, List.length_take]; rfl)) ?_
                      with_reducible refine (dynamolaw2_at.calls t151 t184 t185 _ A220.out).mono ?_
                      rintro e w241 ⟨rfl, hb⟩
                      refine ⟨_, rfl, ?_⟩
                      have n0_ := Aside0.mk (blk_below (g := gb146) (o := .cells #[.int .i64 t144, .int .i64 t145] 24 (0, 0)) (by (with_reducible repeat (first | refine blk_drewN ?_ _ | refine blk_drew ?_ | refine blk_alloc ?_ _)); exact BK146.out) hb)
                      have n1_ := Aside0.mk (blk_below (g := gb149) (o := .cells #[.int .i64 t147, .int .i64 t148] 24 (0, 0)) (by (with_reducible repeat (first | refine blk_drewN ?_ _ | refine blk_drew ?_ | refine blk_alloc ?_ _)); exact BK149.out) hb)
                      have n2_ := Aside0.mk (blk_below (g := gb172) (o := .cells #[.int .i64 t169, .int .i64 t170] 24 (0, 0)) (by (with_reducible repeat (first | refine blk_drewN ?_ _ | refine blk_drew ?_ | refine blk_alloc ?_ _)); exact BK172.out) hb)
                      have n3_ := Aside0.mk (blk_below (g := gb179) (o := .cells #[.int .i64 t177, .int .i64 t178] 24 (0, 0)) (by (with_reducible repeat (first | refine blk_drewN ?_ _ | refine blk_drew ?_ | refine blk_alloc ?_ _)); exact BK179.out) hb)
                      have n4_ := Aside0.mk (below_step (by repeat (first | (with_reducible first | exact HB.out | apply below_alloc | apply pw_below_drewN | apply below_drew1 | refine below_set ?_ GE146.out | refine below_set ?_ GE149.out | refine below_set ?_ GE172.out | refine below_set ?_ GE179.out) | exact HB.out)) hb)
                      clear BK146
                      clear BK149
                      clear BK172
                      clear BK179
                      clear HB
                      have BK146 := n0_
                      have BK149 := n1_
                      have BK172 := n2_
                      have BK179 := n3_
                      have HB := n4_
                      clear n0_ n1_ n2_ n3_ n4_
                      (try clear hb)
                      (try clear hb2)
                      (try clear hk)
                      (try clear hi)
                      refine hK.out _ _ ⟨(blk_cell BK179.out 0).trans rfl, (blk_cell BK179.out 1).trans rfl, (blk_cell BK146.out 0).trans rfl, (blk_cell BK146.out 1).trans rfl⟩ (fun hHeld => ?_)
                      clear hK K
                      refine norm_ (a' := ?_) ?_ ?_
                      rotate_left
                      · show Act.put _ (some 163) _ = _
                        simp only [Act.put, List.setIfInBounds_toArray, List.set_cons_zero, List.set_cons_succ, i64_w, i32_w]
                        rfl
                      refine one_ (i := 23) (N := some 164) #[true, true, true, true, true, true, true, true, true, true, true, true, true, true, true, true, true, true, true, true, true, true, true, true, true, false, false, false] rfl rfl (one_of HT_.out (by kernel_rfl)) (by decide) (fun K hK => ?_)
                      refine goes_ Try.func38 (by kernel_rfl) rfl #[.agg #[.int .i64 t186, .int .i64 t187], .agg #[.int .i64 t184, .int .i64 t185]] (by rfl) rfl rfl (by (try simp only [List.map_toArray, List.map_cons, List.map_nil]); first | done | rfl | (simp only [List.length_drop, List.length_take]; rfl)) ?_
                      with_reducible refine (span_Sub.calls kj136 t186 t187 t184 t185 t190 t191 _ A223.out).mono ?_
                      rintro e w242 ⟨rfl, hb⟩
                      refine ⟨_, rfl, ?_⟩
                      have n0_ := Aside0.mk (blk_below (g := gb146) (o := .cells #[.int .i64 t144, .int .i64 t145] 24 (0, 0)) (by (with_reducible repeat (first | refine blk_drewN ?_ _ | refine blk_drew ?_ | refine blk_alloc ?_ _)); exact BK146.out) hb)
                      have n1_ := Aside0.mk (blk_below (g := gb149) (o := .cells #[.int .i64 t147, .int .i64 t148] 24 (0, 0)) (by (with_reducible repeat (first | refine blk_drewN ?_ _ | refine blk_drew ?_ | refine blk_alloc ?_ _)); exact BK149.out) hb)
                      have n2_ := Aside0.mk (blk_below (g := gb172) (o := .cells #[.int .i64 t169, .int .i64 t170] 24 (0, 0)) (by (with_reducible repeat (first | refine blk_drewN ?_ _ | refine blk_drew ?_ | refine blk_alloc ?_ _)); exact BK172.out) hb)
                      have n3_ := Aside0.mk (blk_below (g := gb179) (o := .cells #[.int .i64 t177, .int .i64 t178] 24 (0, 0)) (by (with_reducible repeat (first | refine blk_drewN ?_ _ | refine blk_drew ?_ | refine blk_alloc ?_ _)); exact BK179.out) hb)
                      have n4_ := Aside0.mk (below_step (by repeat (first | (with_reducible first | exact HB.out | apply below_alloc | apply pw_below_drewN | apply below_drew1 | refine below_set ?_ GE146.out | refine below_set ?_ GE149.out | refine below_set ?_ GE172.out | refine below_set ?_ GE179.out) | exact HB.out)) hb)
                      clear BK146
                      clear BK149
                      clear BK172
                      clear BK179
                      clear HB
                      have BK146 := n0_
                      have BK149 := n1_
                      have BK172 := n2_
                      have BK179 := n3_
                      have HB := n4_
                      clear n0_ n1_ n2_ n3_ n4_
                      (try clear hb)
                      (try clear hb2)
                      (try clear hk)
                      (try clear hi)
                      refine hK.out _ _ ⟨(blk_cell BK179.out 0).trans rfl, (blk_cell BK179.out 1).trans rfl, (blk_cell BK146.out 0).trans rfl, (blk_cell BK146.out 1).trans rfl⟩ (fun hHeld => ?_)
                      clear hK K
                      refine norm_ (a' := ?_) ?_ ?_
                      rotate_left
                      · show Act.put _ (some 164) _ = _
                        simp only [Act.put, List.setIfInBounds_toArray, List.set_cons_zero, List.set_cons_succ, i64_w, i32_w]
                        rfl
                      refine one_ (i := 25) (N := some 166) #[true, true, true, true, true, true, true, true, true, true, true, true, true, true, true, true, true, true, true, true, true, true, true, true, true, true, false, false] rfl rfl (one_of HT_.out (by kernel_rfl)) (by decide) (fun K hK => ?_)
                      refine goes_ Try.func17 (by kernel_rfl) rfl #[.agg #[.int .i64 t190, .int .i64 t191], .agg #[.int .i64 t144, .int .i64 t145]] (by rfl) rfl rfl (by (try simp only [List.map_toArray, List.map_cons, List.map_nil]); first | done | rfl | (simp only [List.length_drop, List.length_take]; rfl)) ?_
                      with_reducible refine (dynamoref_SameSpan.calls t190 t191 t144 t145 t192 _ A224.out).mono ?_
                      rintro e w243 ⟨rfl, hb⟩
                      refine ⟨_, rfl, ?_⟩
                      have n0_ := Aside0.mk (blk_below (g := gb146) (o := .cells #[.int .i64 t144, .int .i64 t145] 24 (0, 0)) (by (with_reducible repeat (first | refine blk_drewN ?_ _ | refine blk_drew ?_ | refine blk_alloc ?_ _)); exact BK146.out) hb)
                      have n1_ := Aside0.mk (blk_below (g := gb149) (o := .cells #[.int .i64 t147, .int .i64 t148] 24 (0, 0)) (by (with_reducible repeat (first | refine blk_drewN ?_ _ | refine blk_drew ?_ | refine blk_alloc ?_ _)); exact BK149.out) hb)
                      have n2_ := Aside0.mk (blk_below (g := gb172) (o := .cells #[.int .i64 t169, .int .i64 t170] 24 (0, 0)) (by (with_reducible repeat (first | refine blk_drewN ?_ _ | refine blk_drew ?_ | refine blk_alloc ?_ _)); exact BK172.out) hb)
                      have n3_ := Aside0.mk (blk_below (g := gb179) (o := .cells #[.int .i64 t177, .int .i64 t178] 24 (0, 0)) (by (with_reducible repeat (first | refine blk_drewN ?_ _ | refine blk_drew ?_ | refine blk_alloc ?_ _)); exact BK179.out) hb)
                      have n4_ := Aside0.mk (below_step (by repeat (first | (with_reducible first | exact HB.out | apply below_alloc | apply pw_below_drewN | apply below_drew1 | refine below_set ?_ GE146.out | refine below_set ?_ GE149.out | refine below_set ?_ GE172.out | refine below_set ?_ GE179.out) | exact HB.out)) hb)
                      clear BK146
                      clear BK149
                      clear BK172
                      clear BK179
                      clear HB
                      have BK146 := n0_
                      have BK149 := n1_
                      have BK172 := n2_
                      have BK179 := n3_
                      have HB := n4_
                      clear n0_ n1_ n2_ n3_ n4_
                      (try clear hb)
                      (try clear hb2)
                      (try clear hk)
                      (try clear hi)
                      refine hK.out _ _ ⟨(blk_cell BK179.out 0).trans rfl, (blk_cell BK179.out 1).trans rfl, (blk_cell BK146.out 0).trans rfl, (blk_cell BK146.out 1).trans rfl⟩ (fun hHeld => ?_)
                      clear hK K
                      refine norm_ (a' := ?_) ?_ ?_
                      rotate_left
                      · show Act.put _ (some 166) _ = _
                        simp only [Act.put, List.setIfInBounds_toArray, List.set_cons_zero, List.set_cons_succ, i64_w, i32_w]
                        rfl
                      refine pure_ (i := 26) (N := some 167) (v := ?_) (a' := ?_) #[true, true, true, true, true, true, true, true, true, true, true, true, true, true, true, true, true, true, true, true, true, true, true, true, true, true, true, false] rfl rfl (any_of HT_.out (by kernel_rfl)) (fun _ _ _ h => h) (Or.inl ⟨by rfl, ?_⟩) ?_ ?_
                      rotate_left
                      · intro w'
                        go_simp
                        with_reducible rfl
                      rotate_left
                      · simp only [Act.put, List.setIfInBounds_toArray, List.set_cons_zero, List.set_cons_succ, i64_w, i32_w]
                        rfl
                      refine pure_ (i := 27) (N := some 14) (v := ?_) (a' := ?_) #[true, true, true, true, true, true, true, true, true, true, true, true, true, true, true, true, true, true, true, true, true, true, true, true, true, true, true, true] rfl rfl (any_of HT_.out (by kernel_rfl)) (fun _ _ _ h => h) (Or.inl ⟨by rfl, ?_⟩) ?_ ?_
                      rotate_left
                      · intro w'
                        go_simp
                        with_reducible rfl
                      rotate_left
                      · simp only [Act.put, List.setIfInBounds_toArray, List.set_cons_zero, List.set_cons_succ, i64_w, i32_w]
                        rfl
                      refine done_ (done_of HT_.out (by kernel_rfl)) ?_
                      try go_wp2
                      all_goals (try go_ret)
                      all_goals first | (exfalso; simp_all; done) | exact ⟨by first | rfl | (rw [HLAST.out]; done) | (simp [HLAST.out]; done) | (have HL_ := HLAST.out; simp_all; done) | (simp [errW_none, errW_some] <;> rfl) | (simp only [← hji212]; first | rfl | (simp [errW_none, errW_some] <;> rfl)) | (simp [*, errW_none, errW_some] <;> rfl), by repeat (first | (with_reducible first | exact HB.out | apply below_alloc | apply pw_below_drewN | apply below_drew1 | refine below_set ?_ GE146.out | refine below_set ?_ GE149.out | refine below_set ?_ GE172.out | refine below_set ?_ GE179.out) | exact HB.out)⟩
                    · replace c219 := Bool.eq_false_iff.mpr c219
                      subst c219
                      have H1 : (some false) = some true := by first | (rw [if_neg (show ¬ (false = true) by decide)] at H; exact H) | exact H | rfl
                      clear H
                      have H := H1
                      clear H1
                      exact absurd H (by simp)
                  · replace c216 := Bool.eq_false_iff.mpr c216
                    subst c216
                    have H1 : (some false) = some true := by first | (rw [if_neg (show ¬ (false = true) by decide)] at H; exact H) | exact H | rfl
                    clear H
                    have H := H1
                    clear H1
                    exact absurd H (by simp)
  · replace c9 := Bool.eq_false_iff.mpr c9
    subst c9
    have H1 : (some false) = some true := by first | (rw [if_neg (show ¬ (false = true) by decide)] at H; exact H) | exact H | rfl
    clear H
    have H := H1
    clear H1
    exact absurd H (by simp)

/-- THE ONE PURE STATEMENT of dynamolaw2_SpanHolds: yours. -/
def dynamolaw2_SpanHolds.Pure : Prop := ∀ (a0 : Int) (a1 : Int) (a2 : Int) (a3 : Int) (a4 : Int) (a5 : Int) (a6 : Int), (Lit.int .i64 a0).wf = true → (Lit.int .i64 a1).wf = true → (Lit.int .i64 a2).wf = true → (Lit.int .i64 a3).wf = true → (Lit.int .i64 a4).wf = true → (Lit.int .i64 a5).wf = true → (Lit.int .i64 a6).wf = true → ∃ k, dynamolaw2_SpanHolds.f k a0 a1 a2 a3 a4 a5 a6 = some true
theorem dynamolaw2_SpanHolds.walk (P : dynamolaw2_SpanHolds.Pure) (a0 : Int) (a1 : Int) (a2 : Int) (a3 : Int) (a4 : Int) (a5 : Int) (a6 : Int) (w : World) (w0 : (Lit.int .i64 a0).wf = true) (w1 : (Lit.int .i64 a1).wf = true) (w2 : (Lit.int .i64 a2).wf = true) (w3 : (Lit.int .i64 a3).wf = true) (w4 : (Lit.int .i64 a4).wf = true) (w5 : (Lit.int .i64 a5).wf = true) (w6 : (Lit.int .i64 a6).wf = true) :
    Calls Try.prog 10 #[.int .i64 a0, .int .i64 a1, .int .i64 a2, .int .i64 a3, .int .i64 a4, .int .i64 a5, .int .i64 a6] w fun e w' => e = .returned (.bool true) ∧ Below w.heap.size w w' := by
  obtain ⟨k, h⟩ := P a0 a1 a2 a3 a4 a5 a6 w0 w1 w2 w3 w4 w5 w6
  refine (dynamolaw2_SpanHolds.calls k a0 a1 a2 a3 a4 a5 a6 w h).mono ?_
  rintro e w' ⟨rfl, hd⟩
  exact ⟨rfl, hd⟩

end Go.Proofs.Ytjecaenloilkcaa.PSpanHolds
