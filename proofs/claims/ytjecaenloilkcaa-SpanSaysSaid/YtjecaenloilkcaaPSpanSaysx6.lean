-- written by this work with wip/mkprint2.py
import Derived.Test.YtjecaenloilkcaaPSpanSaysx0
import Derived.Test.YtjecaenloilkcaaPSpanSaysx1
import Derived.Test.YtjecaenloilkcaaPSpanSaysx2
import Derived.Test.YtjecaenloilkcaaPSpanSaysx3
import Derived.Test.YtjecaenloilkcaaPSpanSaysx4
import Derived.Test.YtjecaenloilkcaaPSpanSaysx5
namespace Go.Proofs.Ytjecaenloilkcaa.PSpanSays
open Go.RowKit Go.Proofs.YtjecaenloilkcaaW.PrintWords Go.Proofs.YtjecaenloilkcaaW.PrintLast Go.Proofs.YtjecaenloilkcaaW.PrintMore
attribute [local go_sem] max2_int min2_int max_two min_two max_three min_three max_four min_four   -- for this text's walks alone
set_option linter.unusedVariables false
set_option linter.unusedSimpArgs false

/-! ### dynamolaw2_SpanSays: function 11 -/
def dynamolaw2_SpanSays.f (k : Nat) (a0 : Int) (a1 : Int) (a2 : Int) (a3 : Int) (a4 : Int) (a5 : Int) : Option (Bool) := (dynamolaw2_first.f).bind fun t187 => (if t187 = true then ((dynamoref1_Of.f a0 a1).bind fun bt188 => ((dynamoref1_Of.f a2 a3).bind fun bt191 => ((span_Meet.f bt188.1 bt188.2 bt191.1 bt191.2).bind fun bt194 => ((dynamoref1_Meet.f bt188.1 bt188.2 bt191.1 bt191.2).bind fun bt198 => ((span_Of.f a0 a1).bind fun bt202 => ((dynamoref_SameSpan.f bt202.1 bt202.2 bt188.1 bt188.2).bind fun t204 => (if t204 = true then ((span_Add.f k bt188.1 bt188.2 bt191.1 bt191.2).bind fun bt205 => ((dynamoref1_AddSpan.f k bt188.1 bt188.2 bt191.1 bt191.2).bind fun bt207 => ((dynamoref_SameSpan.f bt205.1 bt205.2 bt207.1 bt207.2).bind fun t209 => (if t209 = true then ((span_Sub.f k bt188.1 bt188.2 bt191.1 bt191.2).bind fun bt210 => ((dynamoref1_SubSpan.f k bt188.1 bt188.2 bt191.1 bt191.2).bind fun bt212 => ((dynamoref_SameSpan.f bt210.1 bt210.2 bt212.1 bt212.2).bind fun t214 => (if t214 = true then ((span_Scale.f k bt188.1 bt188.2 a4).bind fun bt215 => ((dynamoref1_Scale.f k bt188.1 bt188.2 a4).bind fun bt217 => ((dynamoref_SameSpan.f bt215.1 bt215.2 bt217.1 bt217.2).bind fun t219 => (if t219 = true then ((span_Shrink.f bt188.1 bt188.2 a4).bind fun bt220 => ((dynamoref1_Shrink.f bt188.1 bt188.2 a4).bind fun bt222 => ((dynamoref_SameSpan.f bt220.1 bt220.2 bt222.1 bt222.2).bind fun t224 => (if t224 = true then ((span_Hull.f bt188.1 bt188.2 bt191.1 bt191.2).bind fun bt225 => ((dynamoref1_Hull.f bt188.1 bt188.2 bt191.1 bt191.2).bind fun bt227 => ((dynamoref_SameSpan.f bt225.1 bt225.2 bt227.1 bt227.2).bind fun t229 => (if t229 = true then ((dynamoref_SameSpan.f bt194.1 bt194.2.1 bt198.1 bt198.2.1).bind fun t230 => (if t230 = true then (if (bt194.2.2 == bt198.2.2) = true then ((span_Widen.f k bt188.1 bt188.2 a4).bind fun bt231 => ((dynamoref1_Widen.f k bt188.1 bt188.2 a4).bind fun bt233 => ((dynamoref_SameSpan.f bt231.1 bt231.2 bt233.1 bt233.2).bind fun t235 => (if t235 = true then ((span_Has.f bt188.1 bt188.2 a5).bind fun t236 => ((dynamoref1_Has.f bt188.1 bt188.2 a5).bind fun t237 => (if (t236 == t237) = true then ((span_In.f bt188.1 bt188.2 bt191.1 bt191.2).bind fun t238 => ((dynamoref1_In.f bt188.1 bt188.2 bt191.1 bt191.2).bind fun t239 => (if (t238 == t239) = true then ((span_Clamp.f bt188.1 bt188.2 a2 a3).bind fun bt240 => ((dynamoref1_ClampSpan.f bt188.1 bt188.2 a2 a3).bind fun bt242 => ((dynamoref_SameSpan.f bt240.1 bt240.2 bt242.1 bt242.2).bind fun t244 => (some t244)))) else (some false)))) else (some false)))) else (some false))))) else (some false)) else (some false))) else (some false))))) else (some false))))) else (some false))))) else (some false))))) else (some false))))) else (some false)))))))) else (some false))
theorem dynamolaw2_SpanSays.mono : ∀ a0 a1 a2 a3 a4 a5 k, LeO (dynamolaw2_SpanSays.f k a0 a1 a2 a3 a4 a5) (dynamolaw2_SpanSays.f (k + 1) a0 a1 a2 a3 a4 a5) := by
 intro a0 a1 a2 a3 a4 a5 k
 unfold dynamolaw2_SpanSays.f
 repeat' first
   | (with_reducible exact dynamoref1_AddSpan.mono _ _ _ _ _)
   | (with_reducible exact dynamoref1_Scale.mono _ _ _ _)
   | (with_reducible exact dynamoref1_SubSpan.mono _ _ _ _ _)
   | (with_reducible exact dynamoref1_Widen.mono _ _ _ _)
   | (with_reducible exact span_Add.mono _ _ _ _ _)
   | (with_reducible exact span_Scale.mono _ _ _ _)
   | (with_reducible exact span_Sub.mono _ _ _ _ _)
   | (with_reducible exact span_Widen.mono _ _ _ _)
   | (with_reducible exact LeO.refl _)
   | (with_reducible exact LeO.none _)
   | (with_reducible refine LeO.ite ?_ ?_)
   | (with_reducible refine LeO.bind ?_ (fun _ => ?_))
   | exact dynamoref1_AddSpan.mono _ _ _ _ _
   | exact dynamoref1_Scale.mono _ _ _ _
   | exact dynamoref1_SubSpan.mono _ _ _ _ _
   | exact dynamoref1_Widen.mono _ _ _ _
   | exact span_Add.mono _ _ _ _ _
   | exact span_Scale.mono _ _ _ _
   | exact span_Sub.mono _ _ _ _ _
   | exact span_Widen.mono _ _ _ _
   | exact LeO.none _
   | refine LeO.ite ?_ ?_
   | refine LeO.bind ?_ (fun _ => ?_)
def dynamolaw2_SpanSays.T8 : Bool × List (List Nat × List Nat) := (true, [([], []), ([0], [0]), ([1], [1]), ([1], [1]), ([2, 3, 1, 1], [1, 2, 3]), ([1], [1]), ([4, 5, 4, 1], [1, 4, 5]), ([1, 6], [1, 6]), ([7, 6], [7]), ([8], [8]), ([8], [8]), ([9, 10, 8, 8], [8, 9, 10]), ([8], [8]), ([8], [8]), ([12, 13, 11, 8], [8, 12, 13]), ([11, 14, 14, 8], [8, 11, 14]), ([8, 15], [8, 15]), ([16, 15], [16]), ([17], [17]), ([17], [17]), ([18, 19, 17, 17], [17, 18, 19]), ([17], [17]), ([17], [17]), ([21, 22, 20, 17], [17, 21, 22]), ([20, 23, 23, 17], [17, 20, 23]), ([17, 24], [17, 24]), ([25, 24], [25]), ([26], [26]), ([26], [26]), ([27, 28, 26, 26], [26, 27, 28]), ([26], [26]), ([26], [26]), ([30, 31, 29, 26], [26, 30, 31]), ([29, 32, 32, 26], [26, 29, 32]), ([26, 33], [26, 33]), ([34, 33], [34]), ([35], [35]), ([35], [35]), ([36, 37, 35, 35], [35, 36, 37]), ([35], [35]), ([35], [35]), ([39, 40, 38, 35], [35, 39, 40]), ([38, 41, 41, 35], [35, 38, 41]), ([35, 42], [35, 42]), ([43, 42], [43]), ([44], [44]), ([44], [44]), ([45, 46, 44, 44], [44, 45, 46]), ([44], [44]), ([44], [44]), ([48, 49, 47, 44], [44, 48, 49]), ([47, 50, 50, 44], [44, 47, 50]), ([44, 51], [44, 51]), ([52, 51], [52]), ([53], [53]), ([53], [53]), ([54, 55, 53, 53], [53, 54, 55]), ([53, 56], [53, 56]), ([57, 56], [57]), ([58], [58]), ([58], [58]), ([59, 60, 58], [58, 59, 60]), ([58, 61], [58, 61]), ([62, 58], [62]), ([63], [63]), ([63], [63]), ([64, 65, 63, 63], [63, 64, 65]), ([63], [63]), ([63], [63]), ([67, 68, 66, 63], [63, 67, 68]), ([66, 69, 69, 63], [63, 66, 69]), ([63, 70], [63, 70]), ([71, 70], [71]), ([72], [72]), ([72], [72]), ([73, 74, 72, 72], [72, 73, 74]), ([72], [72]), ([72], [72]), ([76, 77, 75, 72], [72, 76, 77]), ([75, 78, 72], [72, 75, 78]), ([72, 79], [72, 79]), ([80, 78], [80]), ([81], [81]), ([81], [81]), ([82, 83, 81, 81], [81, 82, 83]), ([81], [81]), ([81], [81]), ([85, 86, 84, 81], [81, 85, 86]), ([84, 87, 81], [81, 84, 87]), ([81, 88], [81, 88]), ([89, 87], [89]), ([90], [90]), ([90], [90]), ([90], [90]), ([91, 92, 93, 90, 90], [90, 91, 92, 93]), ([90], [90]), ([90], [90]), ([90], [90]), ([95, 96, 97, 94, 90], [90, 95, 96, 97]), ([94, 98, 98, 90], [90, 94, 98]), ([90, 99], [90, 99]), ([100, 99, 0, 1, 2, 3, 4, 5, 6, 7, 8, 9, 10, 11, 12, 13, 14, 15, 16, 17, 18, 19, 20, 21, 22, 23, 24, 25, 26, 27, 28, 29, 30, 31, 32, 33, 34, 35, 36, 37, 38, 39, 40, 41, 42, 43, 44, 45, 46, 47, 48, 49, 50, 51, 52, 53, 54, 55, 56, 57, 58, 59, 60, 61, 62, 63, 64, 65, 66, 67, 68, 69, 70, 71, 72, 73, 74, 75, 76, 77, 78, 79, 80, 81, 82, 83, 84, 85, 86, 87, 88, 89, 90, 91, 92, 93, 94, 95, 96, 97, 98, 99, 100], [100])])
def dynamolaw2_SpanSays.B8 : List Nat := [0, 1, 3, 3, 15, 3, 63, 127, 255, 511, 511, 2047, 511, 511, 16383, 32767, 65535, 131071, 262143, 262143, 1048575, 262143, 262143, 8388607, 16777215, 33554431, 67108863, 134217727, 134217727, 536870911, 134217727, 134217727, 4294967295, 8589934591, 17179869183, 34359738367, 68719476735, 68719476735, 274877906943, 68719476735, 68719476735, 2199023255551, 4398046511103, 8796093022207, 17592186044415, 35184372088831, 35184372088831, 140737488355327, 35184372088831, 35184372088831, 1125899906842623, 2251799813685247, 4503599627370495, 9007199254740991, 18014398509481983, 18014398509481983, 72057594037927935, 144115188075855871, 288230376151711743, 576460752303423487, 576460752303423487, 2305843009213693951, 4611686018427387903, 9223372036854775807, 18446744073709551615, 18446744073709551615, 73786976294838206463, 18446744073709551615, 18446744073709551615, 590295810358705651711, 1180591620717411303423, 2361183241434822606847, 4722366482869645213695, 9444732965739290427391, 9444732965739290427391, 37778931862957161709567, 9444732965739290427391, 9444732965739290427391, 302231454903657293676543, 604462909807314587353087, 1208925819614629174706175, 2417851639229258349412351, 4835703278458516698824703, 4835703278458516698824703, 19342813113834066795298815, 4835703278458516698824703, 4835703278458516698824703, 154742504910672534362390527, 309485009821345068724781055, 618970019642690137449562111, 1237940039285380274899124223, 2475880078570760549798248447, 2475880078570760549798248447, 2475880078570760549798248447, 19807040628566084398385987583, 2475880078570760549798248447, 2475880078570760549798248447, 2475880078570760549798248447, 316912650057057350374175801343, 633825300114114700748351602687, 1267650600228229401496703205375, 2535301200456458802993406410751]
theorem dynamolaw2_SpanSays.tab8 : rtab .any (opsOf Try.f11 8) = dynamolaw2_SpanSays.T8 := by kernel_rfl
theorem dynamolaw2_SpanSays.bits8 : waitsOk dynamolaw2_SpanSays.T8.2 dynamolaw2_SpanSays.B8 = true := by kernel_rfl
set_option maxHeartbeats 8000000 in
set_option maxRecDepth 100000 in
theorem dynamolaw2_SpanSays.calls (k : Nat) (a0 : Int) (a1 : Int) (a2 : Int) (a3 : Int) (a4 : Int) (a5 : Int) (w : World) (h : dynamolaw2_SpanSays.f k a0 a1 a2 a3 a4 a5 = some true) :
  Calls Try.prog 11 #[.int .i64 a0, .int .i64 a1, .int .i64 a2, .int .i64 a3, .int .i64 a4, .int .i64 a5] w fun e w' => e = .returned (.bool true) ∧ Below w.heap.size w w' := by
 have hu24 := Try.underlying24
 have HB := Aside0.mk (Below.refl w.heap.size w)
 have H : ((dynamolaw2_first.f).bind fun t187 => (if t187 = true then ((dynamoref1_Of.f a0 a1).bind fun bt188 => ((dynamoref1_Of.f a2 a3).bind fun bt191 => ((span_Meet.f bt188.1 bt188.2 bt191.1 bt191.2).bind fun bt194 => ((dynamoref1_Meet.f bt188.1 bt188.2 bt191.1 bt191.2).bind fun bt198 => ((span_Of.f a0 a1).bind fun bt202 => ((dynamoref_SameSpan.f bt202.1 bt202.2 bt188.1 bt188.2).bind fun t204 => (if t204 = true then ((span_Add.f k bt188.1 bt188.2 bt191.1 bt191.2).bind fun bt205 => ((dynamoref1_AddSpan.f k bt188.1 bt188.2 bt191.1 bt191.2).bind fun bt207 => ((dynamoref_SameSpan.f bt205.1 bt205.2 bt207.1 bt207.2).bind fun t209 => (if t209 = true then ((span_Sub.f k bt188.1 bt188.2 bt191.1 bt191.2).bind fun bt210 => ((dynamoref1_SubSpan.f k bt188.1 bt188.2 bt191.1 bt191.2).bind fun bt212 => ((dynamoref_SameSpan.f bt210.1 bt210.2 bt212.1 bt212.2).bind fun t214 => (if t214 = true then ((span_Scale.f k bt188.1 bt188.2 a4).bind fun bt215 => ((dynamoref1_Scale.f k bt188.1 bt188.2 a4).bind fun bt217 => ((dynamoref_SameSpan.f bt215.1 bt215.2 bt217.1 bt217.2).bind fun t219 => (if t219 = true then ((span_Shrink.f bt188.1 bt188.2 a4).bind fun bt220 => ((dynamoref1_Shrink.f bt188.1 bt188.2 a4).bind fun bt222 => ((dynamoref_SameSpan.f bt220.1 bt220.2 bt222.1 bt222.2).bind fun t224 => (if t224 = true then ((span_Hull.f bt188.1 bt188.2 bt191.1 bt191.2).bind fun bt225 => ((dynamoref1_Hull.f bt188.1 bt188.2 bt191.1 bt191.2).bind fun bt227 => ((dynamoref_SameSpan.f bt225.1 bt225.2 bt227.1 bt227.2).bind fun t229 => (if t229 = true then ((dynamoref_SameSpan.f bt194.1 bt194.2.1 bt198.1 bt198.2.1).bind fun t230 => (if t230 = true then (if (bt194.2.2 == bt198.2.2) = true then ((span_Widen.f k bt188.1 bt188.2 a4).bind fun bt231 => ((dynamoref1_Widen.f k bt188.1 bt188.2 a4).bind fun bt233 => ((dynamoref_SameSpan.f bt231.1 bt231.2 bt233.1 bt233.2).bind fun t235 => (if t235 = true then ((span_Has.f bt188.1 bt188.2 a5).bind fun t236 => ((dynamoref1_Has.f bt188.1 bt188.2 a5).bind fun t237 => (if (t236 == t237) = true then ((span_In.f bt188.1 bt188.2 bt191.1 bt191.2).bind fun t238 => ((dynamoref1_In.f bt188.1 bt188.2 bt191.1 bt191.2).bind fun t239 => (if (t238 == t239) = true then ((span_Clamp.f bt188.1 bt188.2 a2 a3).bind fun bt240 => ((dynamoref1_ClampSpan.f bt188.1 bt188.2 a2 a3).bind fun bt242 => ((dynamoref_SameSpan.f bt240.1 bt240.2 bt242.1 bt242.2).bind fun t244 => (some t244)))) else (some false)))) else (some false)))) else (some false))))) else (some false)) else (some false))) else (some false))))) else (some false))))) else (some false))))) else (some false))))) else (some false))))) else (some false)))))))) else (some false))) = some true := h
 clear h
 replace H := Option.bind_eq_some_iff.mp H
 obtain ⟨t187, A70, H⟩ := H
 replace H : (if t187 = true then ((dynamoref1_Of.f a0 a1).bind fun bt188 => ((dynamoref1_Of.f a2 a3).bind fun bt191 => ((span_Meet.f bt188.1 bt188.2 bt191.1 bt191.2).bind fun bt194 => ((dynamoref1_Meet.f bt188.1 bt188.2 bt191.1 bt191.2).bind fun bt198 => ((span_Of.f a0 a1).bind fun bt202 => ((dynamoref_SameSpan.f bt202.1 bt202.2 bt188.1 bt188.2).bind fun t204 => (if t204 = true then ((span_Add.f k bt188.1 bt188.2 bt191.1 bt191.2).bind fun bt205 => ((dynamoref1_AddSpan.f k bt188.1 bt188.2 bt191.1 bt191.2).bind fun bt207 => ((dynamoref_SameSpan.f bt205.1 bt205.2 bt207.1 bt207.2).bind fun t209 => (if t209 = true then ((span_Sub.f k bt188.1 bt188.2 bt191.1 bt191.2).bind fun bt210 => ((dynamoref1_SubSpan.f k bt188.1 bt188.2 bt191.1 bt191.2).bind fun bt212 => ((dynamoref_SameSpan.f bt210.1 bt210.2 bt212.1 bt212.2).bind fun t214 => (if t214 = true then ((span_Scale.f k bt188.1 bt188.2 a4).bind fun bt215 => ((dynamoref1_Scale.f k bt188.1 bt188.2 a4).bind fun bt217 => ((dynamoref_SameSpan.f bt215.1 bt215.2 bt217.1 bt217.2).bind fun t219 => (if t219 = true then ((span_Shrink.f bt188.1 bt188.2 a4).bind fun bt220 => ((dynamoref1_Shrink.f bt188.1 bt188.2 a4).bind fun bt222 => ((dynamoref_SameSpan.f bt220.1 bt220.2 bt222.1 bt222.2).bind fun t224 => (if t224 = true then ((span_Hull.f bt188.1 bt188.2 bt191.1 bt191.2).bind fun bt225 => ((dynamoref1_Hull.f bt188.1 bt188.2 bt191.1 bt191.2).bind fun bt227 => ((dynamoref_SameSpan.f bt225.1 bt225.2 bt227.1 bt227.2).bind fun t229 => (if t229 = true then ((dynamoref_SameSpan.f bt194.1 bt194.2.1 bt198.1 bt198.2.1).bind fun t230 => (if t230 = true then (if (bt194.2.2 == bt198.2.2) = true then ((span_Widen.f k bt188.1 bt188.2 a4).bind fun bt231 => ((dynamoref1_Widen.f k bt188.1 bt188.2 a4).bind fun bt233 => ((dynamoref_SameSpan.f bt231.1 bt231.2 bt233.1 bt233.2).bind fun t235 => (if t235 = true then ((span_Has.f bt188.1 bt188.2 a5).bind fun t236 => ((dynamoref1_Has.f bt188.1 bt188.2 a5).bind fun t237 => (if (t236 == t237) = true then ((span_In.f bt188.1 bt188.2 bt191.1 bt191.2).bind fun t238 => ((dynamoref1_In.f bt188.1 bt188.2 bt191.1 bt191.2).bind fun t239 => (if (t238 == t239) = true then ((span_Clamp.f bt188.1 bt188.2 a2 a3).bind fun bt240 => ((dynamoref1_ClampSpan.f bt188.1 bt188.2 a2 a3).bind fun bt242 => ((dynamoref_SameSpan.f bt240.1 bt240.2 bt242.1 bt242.2).bind fun t244 => (some t244)))) else (some false)))) else (some false)))) else (some false))))) else (some false)) else (some false))) else (some false))))) else (some false))))) else (some false))))) else (some false))))) else (some false))))) else (some false)))))))) else (some false)) = some true := H
 have A7 := Aside0.mk A70
 clear A70
 by_cases c8 : t187 = true
 ·subst c8
  have H1 : ((dynamoref1_Of.f a0 a1).bind fun bt188 => ((dynamoref1_Of.f a2 a3).bind fun bt191 => ((span_Meet.f bt188.1 bt188.2 bt191.1 bt191.2).bind fun bt194 => ((dynamoref1_Meet.f bt188.1 bt188.2 bt191.1 bt191.2).bind fun bt198 => ((span_Of.f a0 a1).bind fun bt202 => ((dynamoref_SameSpan.f bt202.1 bt202.2 bt188.1 bt188.2).bind fun t204 => (if t204 = true then ((span_Add.f k bt188.1 bt188.2 bt191.1 bt191.2).bind fun bt205 => ((dynamoref1_AddSpan.f k bt188.1 bt188.2 bt191.1 bt191.2).bind fun bt207 => ((dynamoref_SameSpan.f bt205.1 bt205.2 bt207.1 bt207.2).bind fun t209 => (if t209 = true then ((span_Sub.f k bt188.1 bt188.2 bt191.1 bt191.2).bind fun bt210 => ((dynamoref1_SubSpan.f k bt188.1 bt188.2 bt191.1 bt191.2).bind fun bt212 => ((dynamoref_SameSpan.f bt210.1 bt210.2 bt212.1 bt212.2).bind fun t214 => (if t214 = true then ((span_Scale.f k bt188.1 bt188.2 a4).bind fun bt215 => ((dynamoref1_Scale.f k bt188.1 bt188.2 a4).bind fun bt217 => ((dynamoref_SameSpan.f bt215.1 bt215.2 bt217.1 bt217.2).bind fun t219 => (if t219 = true then ((span_Shrink.f bt188.1 bt188.2 a4).bind fun bt220 => ((dynamoref1_Shrink.f bt188.1 bt188.2 a4).bind fun bt222 => ((dynamoref_SameSpan.f bt220.1 bt220.2 bt222.1 bt222.2).bind fun t224 => (if t224 = true then ((span_Hull.f bt188.1 bt188.2 bt191.1 bt191.2).bind fun bt225 => ((dynamoref1_Hull.f bt188.1 bt188.2 bt191.1 bt191.2).bind fun bt227 => ((dynamoref_SameSpan.f bt225.1 bt225.2 bt227.1 bt227.2).bind fun t229 => (if t229 = true then ((dynamoref_SameSpan.f bt194.1 bt194.2.1 bt198.1 bt198.2.1).bind fun t230 => (if t230 = true then (if (bt194.2.2 == bt198.2.2) = true then ((span_Widen.f k bt188.1 bt188.2 a4).bind fun bt231 => ((dynamoref1_Widen.f k bt188.1 bt188.2 a4).bind fun bt233 => ((dynamoref_SameSpan.f bt231.1 bt231.2 bt233.1 bt233.2).bind fun t235 => (if t235 = true then ((span_Has.f bt188.1 bt188.2 a5).bind fun t236 => ((dynamoref1_Has.f bt188.1 bt188.2 a5).bind fun t237 => (if (t236 == t237) = true then ((span_In.f bt188.1 bt188.2 bt191.1 bt191.2).bind fun t238 => ((dynamoref1_In.f bt188.1 bt188.2 bt191.1 bt191.2).bind fun t239 => (if (t238 == t239) = true then ((span_Clamp.f bt188.1 bt188.2 a2 a3).bind fun bt240 => ((dynamoref1_ClampSpan.f bt188.1 bt188.2 a2 a3).bind fun bt242 => ((dynamoref_SameSpan.f bt240.1 bt240.2 bt242.1 bt242.2).bind fun t244 => (some t244)))) else (some false)))) else (some false)))) else (some false))))) else (some false)) else (some false))) else (some false))))) else (some false))))) else (some false))))) else (some false))))) else (some false))))) else (some false)))))))) = some true := by first | (rw [if_pos rfl] at H; exact H) | exact H | rfl
  clear H
  have H := H1
  clear H1
  replace H := Option.bind_eq_some_iff.mp H
  obtain ⟨⟨t188, t189⟩, A90, H⟩ := H
  replace H : ((dynamoref1_Of.f a2 a3).bind fun bt191 => ((span_Meet.f t188 t189 bt191.1 bt191.2).bind fun bt194 => ((dynamoref1_Meet.f t188 t189 bt191.1 bt191.2).bind fun bt198 => ((span_Of.f a0 a1).bind fun bt202 => ((dynamoref_SameSpan.f bt202.1 bt202.2 t188 t189).bind fun t204 => (if t204 = true then ((span_Add.f k t188 t189 bt191.1 bt191.2).bind fun bt205 => ((dynamoref1_AddSpan.f k t188 t189 bt191.1 bt191.2).bind fun bt207 => ((dynamoref_SameSpan.f bt205.1 bt205.2 bt207.1 bt207.2).bind fun t209 => (if t209 = true then ((span_Sub.f k t188 t189 bt191.1 bt191.2).bind fun bt210 => ((dynamoref1_SubSpan.f k t188 t189 bt191.1 bt191.2).bind fun bt212 => ((dynamoref_SameSpan.f bt210.1 bt210.2 bt212.1 bt212.2).bind fun t214 => (if t214 = true then ((span_Scale.f k t188 t189 a4).bind fun bt215 => ((dynamoref1_Scale.f k t188 t189 a4).bind fun bt217 => ((dynamoref_SameSpan.f bt215.1 bt215.2 bt217.1 bt217.2).bind fun t219 => (if t219 = true then ((span_Shrink.f t188 t189 a4).bind fun bt220 => ((dynamoref1_Shrink.f t188 t189 a4).bind fun bt222 => ((dynamoref_SameSpan.f bt220.1 bt220.2 bt222.1 bt222.2).bind fun t224 => (if t224 = true then ((span_Hull.f t188 t189 bt191.1 bt191.2).bind fun bt225 => ((dynamoref1_Hull.f t188 t189 bt191.1 bt191.2).bind fun bt227 => ((dynamoref_SameSpan.f bt225.1 bt225.2 bt227.1 bt227.2).bind fun t229 => (if t229 = true then ((dynamoref_SameSpan.f bt194.1 bt194.2.1 bt198.1 bt198.2.1).bind fun t230 => (if t230 = true then (if (bt194.2.2 == bt198.2.2) = true then ((span_Widen.f k t188 t189 a4).bind fun bt231 => ((dynamoref1_Widen.f k t188 t189 a4).bind fun bt233 => ((dynamoref_SameSpan.f bt231.1 bt231.2 bt233.1 bt233.2).bind fun t235 => (if t235 = true then ((span_Has.f t188 t189 a5).bind fun t236 => ((dynamoref1_Has.f t188 t189 a5).bind fun t237 => (if (t236 == t237) = true then ((span_In.f t188 t189 bt191.1 bt191.2).bind fun t238 => ((dynamoref1_In.f t188 t189 bt191.1 bt191.2).bind fun t239 => (if (t238 == t239) = true then ((span_Clamp.f t188 t189 a2 a3).bind fun bt240 => ((dynamoref1_ClampSpan.f t188 t189 a2 a3).bind fun bt242 => ((dynamoref_SameSpan.f bt240.1 bt240.2 bt242.1 bt242.2).bind fun t244 => (some t244)))) else (some false)))) else (some false)))) else (some false))))) else (some false)) else (some false))) else (some false))))) else (some false))))) else (some false))))) else (some false))))) else (some false))))) else (some false))))))) = some true := H
  have A9 := Aside0.mk A90
  clear A90
  replace H := Option.bind_eq_some_iff.mp H
  obtain ⟨⟨t191, t192⟩, A100, H⟩ := H
  replace H : ((span_Meet.f t188 t189 t191 t192).bind fun bt194 => ((dynamoref1_Meet.f t188 t189 t191 t192).bind fun bt198 => ((span_Of.f a0 a1).bind fun bt202 => ((dynamoref_SameSpan.f bt202.1 bt202.2 t188 t189).bind fun t204 => (if t204 = true then ((span_Add.f k t188 t189 t191 t192).bind fun bt205 => ((dynamoref1_AddSpan.f k t188 t189 t191 t192).bind fun bt207 => ((dynamoref_SameSpan.f bt205.1 bt205.2 bt207.1 bt207.2).bind fun t209 => (if t209 = true then ((span_Sub.f k t188 t189 t191 t192).bind fun bt210 => ((dynamoref1_SubSpan.f k t188 t189 t191 t192).bind fun bt212 => ((dynamoref_SameSpan.f bt210.1 bt210.2 bt212.1 bt212.2).bind fun t214 => (if t214 = true then ((span_Scale.f k t188 t189 a4).bind fun bt215 => ((dynamoref1_Scale.f k t188 t189 a4).bind fun bt217 => ((dynamoref_SameSpan.f bt215.1 bt215.2 bt217.1 bt217.2).bind fun t219 => (if t219 = true then ((span_Shrink.f t188 t189 a4).bind fun bt220 => ((dynamoref1_Shrink.f t188 t189 a4).bind fun bt222 => ((dynamoref_SameSpan.f bt220.1 bt220.2 bt222.1 bt222.2).bind fun t224 => (if t224 = true then ((span_Hull.f t188 t189 t191 t192).bind fun bt225 => ((dynamoref1_Hull.f t188 t189 t191 t192).bind fun bt227 => ((dynamoref_SameSpan.f bt225.1 bt225.2 bt227.1 bt227.2).bind fun t229 => (if t229 = true then ((dynamoref_SameSpan.f bt194.1 bt194.2.1 bt198.1 bt198.2.1).bind fun t230 => (if t230 = true then (if (bt194.2.2 == bt198.2.2) = true then ((span_Widen.f k t188 t189 a4).bind fun bt231 => ((dynamoref1_Widen.f k t188 t189 a4).bind fun bt233 => ((dynamoref_SameSpan.f bt231.1 bt231.2 bt233.1 bt233.2).bind fun t235 => (if t235 = true then ((span_Has.f t188 t189 a5).bind fun t236 => ((dynamoref1_Has.f t188 t189 a5).bind fun t237 => (if (t236 == t237) = true then ((span_In.f t188 t189 t191 t192).bind fun t238 => ((dynamoref1_In.f t188 t189 t191 t192).bind fun t239 => (if (t238 == t239) = true then ((span_Clamp.f t188 t189 a2 a3).bind fun bt240 => ((dynamoref1_ClampSpan.f t188 t189 a2 a3).bind fun bt242 => ((dynamoref_SameSpan.f bt240.1 bt240.2 bt242.1 bt242.2).bind fun t244 => (some t244)))) else (some false)))) else (some false)))) else (some false))))) else (some false)) else (some false))) else (some false))))) else (some false))))) else (some false))))) else (some false))))) else (some false))))) else (some false)))))) = some true := H
  have A10 := Aside0.mk A100
  clear A100
  replace H := Option.bind_eq_some_iff.mp H
  obtain ⟨⟨t194, t195, t196⟩, A110, H⟩ := H
  replace H : ((dynamoref1_Meet.f t188 t189 t191 t192).bind fun bt198 => ((span_Of.f a0 a1).bind fun bt202 => ((dynamoref_SameSpan.f bt202.1 bt202.2 t188 t189).bind fun t204 => (if t204 = true then ((span_Add.f k t188 t189 t191 t192).bind fun bt205 => ((dynamoref1_AddSpan.f k t188 t189 t191 t192).bind fun bt207 => ((dynamoref_SameSpan.f bt205.1 bt205.2 bt207.1 bt207.2).bind fun t209 => (if t209 = true then ((span_Sub.f k t188 t189 t191 t192).bind fun bt210 => ((dynamoref1_SubSpan.f k t188 t189 t191 t192).bind fun bt212 => ((dynamoref_SameSpan.f bt210.1 bt210.2 bt212.1 bt212.2).bind fun t214 => (if t214 = true then ((span_Scale.f k t188 t189 a4).bind fun bt215 => ((dynamoref1_Scale.f k t188 t189 a4).bind fun bt217 => ((dynamoref_SameSpan.f bt215.1 bt215.2 bt217.1 bt217.2).bind fun t219 => (if t219 = true then ((span_Shrink.f t188 t189 a4).bind fun bt220 => ((dynamoref1_Shrink.f t188 t189 a4).bind fun bt222 => ((dynamoref_SameSpan.f bt220.1 bt220.2 bt222.1 bt222.2).bind fun t224 => (if t224 = true then ((span_Hull.f t188 t189 t191 t192).bind fun bt225 => ((dynamoref1_Hull.f t188 t189 t191 t192).bind fun bt227 => ((dynamoref_SameSpan.f bt225.1 bt225.2 bt227.1 bt227.2).bind fun t229 => (if t229 = true then ((dynamoref_SameSpan.f t194 t195 bt198.1 bt198.2.1).bind fun t230 => (if t230 = true then (if (t196 == bt198.2.2) = true then ((span_Widen.f k t188 t189 a4).bind fun bt231 => ((dynamoref1_Widen.f k t188 t189 a4).bind fun bt233 => ((dynamoref_SameSpan.f bt231.1 bt231.2 bt233.1 bt233.2).bind fun t235 => (if t235 = true then ((span_Has.f t188 t189 a5).bind fun t236 => ((dynamoref1_Has.f t188 t189 a5).bind fun t237 => (if (t236 == t237) = true then ((span_In.f t188 t189 t191 t192).bind fun t238 => ((dynamoref1_In.f t188 t189 t191 t192).bind fun t239 => (if (t238 == t239) = true then ((span_Clamp.f t188 t189 a2 a3).bind fun bt240 => ((dynamoref1_ClampSpan.f t188 t189 a2 a3).bind fun bt242 => ((dynamoref_SameSpan.f bt240.1 bt240.2 bt242.1 bt242.2).bind fun t244 => (some t244)))) else (some false)))) else (some false)))) else (some false))))) else (some false)) else (some false))) else (some false))))) else (some false))))) else (some false))))) else (some false))))) else (some false))))) else (some false))))) = some true := H
  have A11 := Aside0.mk A110
  clear A110
  replace H := Option.bind_eq_some_iff.mp H
  obtain ⟨⟨t198, t199, t200⟩, A120, H⟩ := H
  replace H : ((span_Of.f a0 a1).bind fun bt202 => ((dynamoref_SameSpan.f bt202.1 bt202.2 t188 t189).bind fun t204 => (if t204 = true then ((span_Add.f k t188 t189 t191 t192).bind fun bt205 => ((dynamoref1_AddSpan.f k t188 t189 t191 t192).bind fun bt207 => ((dynamoref_SameSpan.f bt205.1 bt205.2 bt207.1 bt207.2).bind fun t209 => (if t209 = true then ((span_Sub.f k t188 t189 t191 t192).bind fun bt210 => ((dynamoref1_SubSpan.f k t188 t189 t191 t192).bind fun bt212 => ((dynamoref_SameSpan.f bt210.1 bt210.2 bt212.1 bt212.2).bind fun t214 => (if t214 = true then ((span_Scale.f k t188 t189 a4).bind fun bt215 => ((dynamoref1_Scale.f k t188 t189 a4).bind fun bt217 => ((dynamoref_SameSpan.f bt215.1 bt215.2 bt217.1 bt217.2).bind fun t219 => (if t219 = true then ((span_Shrink.f t188 t189 a4).bind fun bt220 => ((dynamoref1_Shrink.f t188 t189 a4).bind fun bt222 => ((dynamoref_SameSpan.f bt220.1 bt220.2 bt222.1 bt222.2).bind fun t224 => (if t224 = true then ((span_Hull.f t188 t189 t191 t192).bind fun bt225 => ((dynamoref1_Hull.f t188 t189 t191 t192).bind fun bt227 => ((dynamoref_SameSpan.f bt225.1 bt225.2 bt227.1 bt227.2).bind fun t229 => (if t229 = true then ((dynamoref_SameSpan.f t194 t195 t198 t199).bind fun t230 => (if t230 = true then (if (t196 == t200) = true then ((span_Widen.f k t188 t189 a4).bind fun bt231 => ((dynamoref1_Widen.f k t188 t189 a4).bind fun bt233 => ((dynamoref_SameSpan.f bt231.1 bt231.2 bt233.1 bt233.2).bind fun t235 => (if t235 = true then ((span_Has.f t188 t189 a5).bind fun t236 => ((dynamoref1_Has.f t188 t189 a5).bind fun t237 => (if (t236 == t237) = true then ((span_In.f t188 t189 t191 t192).bind fun t238 => ((dynamoref1_In.f t188 t189 t191 t192).bind fun t239 => (if (t238 == t239) = true then ((span_Clamp.f t188 t189 a2 a3).bind fun bt240 => ((dynamoref1_ClampSpan.f t188 t189 a2 a3).bind fun bt242 => ((dynamoref_SameSpan.f bt240.1 bt240.2 bt242.1 bt242.2).bind fun t244 => (some t244)))) else (some false)))) else (some false)))) else (some false))))) else (some false)) else (some false))) else (some false))))) else (some false))))) else (some false))))) else (some false))))) else (some false))))) else (some false)))) = some true := H
  have A12 := Aside0.mk A120
  clear A120
  replace H := Option.bind_eq_some_iff.mp H
  obtain ⟨⟨t202, t203⟩, A130, H⟩ := H
  replace H : ((dynamoref_SameSpan.f t202 t203 t188 t189).bind fun t204 => (if t204 = true then ((span_Add.f k t188 t189 t191 t192).bind fun bt205 => ((dynamoref1_AddSpan.f k t188 t189 t191 t192).bind fun bt207 => ((dynamoref_SameSpan.f bt205.1 bt205.2 bt207.1 bt207.2).bind fun t209 => (if t209 = true then ((span_Sub.f k t188 t189 t191 t192).bind fun bt210 => ((dynamoref1_SubSpan.f k t188 t189 t191 t192).bind fun bt212 => ((dynamoref_SameSpan.f bt210.1 bt210.2 bt212.1 bt212.2).bind fun t214 => (if t214 = true then ((span_Scale.f k t188 t189 a4).bind fun bt215 => ((dynamoref1_Scale.f k t188 t189 a4).bind fun bt217 => ((dynamoref_SameSpan.f bt215.1 bt215.2 bt217.1 bt217.2).bind fun t219 => (if t219 = true then ((span_Shrink.f t188 t189 a4).bind fun bt220 => ((dynamoref1_Shrink.f t188 t189 a4).bind fun bt222 => ((dynamoref_SameSpan.f bt220.1 bt220.2 bt222.1 bt222.2).bind fun t224 => (if t224 = true then ((span_Hull.f t188 t189 t191 t192).bind fun bt225 => ((dynamoref1_Hull.f t188 t189 t191 t192).bind fun bt227 => ((dynamoref_SameSpan.f bt225.1 bt225.2 bt227.1 bt227.2).bind fun t229 => (if t229 = true then ((dynamoref_SameSpan.f t194 t195 t198 t199).bind fun t230 => (if t230 = true then (if (t196 == t200) = true then ((span_Widen.f k t188 t189 a4).bind fun bt231 => ((dynamoref1_Widen.f k t188 t189 a4).bind fun bt233 => ((dynamoref_SameSpan.f bt231.1 bt231.2 bt233.1 bt233.2).bind fun t235 => (if t235 = true then ((span_Has.f t188 t189 a5).bind fun t236 => ((dynamoref1_Has.f t188 t189 a5).bind fun t237 => (if (t236 == t237) = true then ((span_In.f t188 t189 t191 t192).bind fun t238 => ((dynamoref1_In.f t188 t189 t191 t192).bind fun t239 => (if (t238 == t239) = true then ((span_Clamp.f t188 t189 a2 a3).bind fun bt240 => ((dynamoref1_ClampSpan.f t188 t189 a2 a3).bind fun bt242 => ((dynamoref_SameSpan.f bt240.1 bt240.2 bt242.1 bt242.2).bind fun t244 => (some t244)))) else (some false)))) else (some false)))) else (some false))))) else (some false)) else (some false))) else (some false))))) else (some false))))) else (some false))))) else (some false))))) else (some false))))) else (some false))) = some true := H
  have A13 := Aside0.mk A130
  clear A130
  replace H := Option.bind_eq_some_iff.mp H
  obtain ⟨t204, A140, H⟩ := H
  replace H : (if t204 = true then ((span_Add.f k t188 t189 t191 t192).bind fun bt205 => ((dynamoref1_AddSpan.f k t188 t189 t191 t192).bind fun bt207 => ((dynamoref_SameSpan.f bt205.1 bt205.2 bt207.1 bt207.2).bind fun t209 => (if t209 = true then ((span_Sub.f k t188 t189 t191 t192).bind fun bt210 => ((dynamoref1_SubSpan.f k t188 t189 t191 t192).bind fun bt212 => ((dynamoref_SameSpan.f bt210.1 bt210.2 bt212.1 bt212.2).bind fun t214 => (if t214 = true then ((span_Scale.f k t188 t189 a4).bind fun bt215 => ((dynamoref1_Scale.f k t188 t189 a4).bind fun bt217 => ((dynamoref_SameSpan.f bt215.1 bt215.2 bt217.1 bt217.2).bind fun t219 => (if t219 = true then ((span_Shrink.f t188 t189 a4).bind fun bt220 => ((dynamoref1_Shrink.f t188 t189 a4).bind fun bt222 => ((dynamoref_SameSpan.f bt220.1 bt220.2 bt222.1 bt222.2).bind fun t224 => (if t224 = true then ((span_Hull.f t188 t189 t191 t192).bind fun bt225 => ((dynamoref1_Hull.f t188 t189 t191 t192).bind fun bt227 => ((dynamoref_SameSpan.f bt225.1 bt225.2 bt227.1 bt227.2).bind fun t229 => (if t229 = true then ((dynamoref_SameSpan.f t194 t195 t198 t199).bind fun t230 => (if t230 = true then (if (t196 == t200) = true then ((span_Widen.f k t188 t189 a4).bind fun bt231 => ((dynamoref1_Widen.f k t188 t189 a4).bind fun bt233 => ((dynamoref_SameSpan.f bt231.1 bt231.2 bt233.1 bt233.2).bind fun t235 => (if t235 = true then ((span_Has.f t188 t189 a5).bind fun t236 => ((dynamoref1_Has.f t188 t189 a5).bind fun t237 => (if (t236 == t237) = true then ((span_In.f t188 t189 t191 t192).bind fun t238 => ((dynamoref1_In.f t188 t189 t191 t192).bind fun t239 => (if (t238 == t239) = true then ((span_Clamp.f t188 t189 a2 a3).bind fun bt240 => ((dynamoref1_ClampSpan.f t188 t189 a2 a3).bind fun bt242 => ((dynamoref_SameSpan.f bt240.1 bt240.2 bt242.1 bt242.2).bind fun t244 => (some t244)))) else (some false)))) else (some false)))) else (some false))))) else (some false)) else (some false))) else (some false))))) else (some false))))) else (some false))))) else (some false))))) else (some false))))) else (some false)) = some true := H
  have A14 := Aside0.mk A140
  clear A140
  by_cases c15 : t204 = true
  ·subst c15
   have H1 : ((span_Add.f k t188 t189 t191 t192).bind fun bt205 => ((dynamoref1_AddSpan.f k t188 t189 t191 t192).bind fun bt207 => ((dynamoref_SameSpan.f bt205.1 bt205.2 bt207.1 bt207.2).bind fun t209 => (if t209 = true then ((span_Sub.f k t188 t189 t191 t192).bind fun bt210 => ((dynamoref1_SubSpan.f k t188 t189 t191 t192).bind fun bt212 => ((dynamoref_SameSpan.f bt210.1 bt210.2 bt212.1 bt212.2).bind fun t214 => (if t214 = true then ((span_Scale.f k t188 t189 a4).bind fun bt215 => ((dynamoref1_Scale.f k t188 t189 a4).bind fun bt217 => ((dynamoref_SameSpan.f bt215.1 bt215.2 bt217.1 bt217.2).bind fun t219 => (if t219 = true then ((span_Shrink.f t188 t189 a4).bind fun bt220 => ((dynamoref1_Shrink.f t188 t189 a4).bind fun bt222 => ((dynamoref_SameSpan.f bt220.1 bt220.2 bt222.1 bt222.2).bind fun t224 => (if t224 = true then ((span_Hull.f t188 t189 t191 t192).bind fun bt225 => ((dynamoref1_Hull.f t188 t189 t191 t192).bind fun bt227 => ((dynamoref_SameSpan.f bt225.1 bt225.2 bt227.1 bt227.2).bind fun t229 => (if t229 = true then ((dynamoref_SameSpan.f t194 t195 t198 t199).bind fun t230 => (if t230 = true then (if (t196 == t200) = true then ((span_Widen.f k t188 t189 a4).bind fun bt231 => ((dynamoref1_Widen.f k t188 t189 a4).bind fun bt233 => ((dynamoref_SameSpan.f bt231.1 bt231.2 bt233.1 bt233.2).bind fun t235 => (if t235 = true then ((span_Has.f t188 t189 a5).bind fun t236 => ((dynamoref1_Has.f t188 t189 a5).bind fun t237 => (if (t236 == t237) = true then ((span_In.f t188 t189 t191 t192).bind fun t238 => ((dynamoref1_In.f t188 t189 t191 t192).bind fun t239 => (if (t238 == t239) = true then ((span_Clamp.f t188 t189 a2 a3).bind fun bt240 => ((dynamoref1_ClampSpan.f t188 t189 a2 a3).bind fun bt242 => ((dynamoref_SameSpan.f bt240.1 bt240.2 bt242.1 bt242.2).bind fun t244 => (some t244)))) else (some false)))) else (some false)))) else (some false))))) else (some false)) else (some false))) else (some false))))) else (some false))))) else (some false))))) else (some false))))) else (some false))))) = some true := by first | (rw [if_pos rfl] at H; exact H) | exact H | rfl
   clear H
   have H := H1
   clear H1
   replace H := Option.bind_eq_some_iff.mp H
   obtain ⟨⟨t205, t206⟩, A160, H⟩ := H
   replace H : ((dynamoref1_AddSpan.f k t188 t189 t191 t192).bind fun bt207 => ((dynamoref_SameSpan.f t205 t206 bt207.1 bt207.2).bind fun t209 => (if t209 = true then ((span_Sub.f k t188 t189 t191 t192).bind fun bt210 => ((dynamoref1_SubSpan.f k t188 t189 t191 t192).bind fun bt212 => ((dynamoref_SameSpan.f bt210.1 bt210.2 bt212.1 bt212.2).bind fun t214 => (if t214 = true then ((span_Scale.f k t188 t189 a4).bind fun bt215 => ((dynamoref1_Scale.f k t188 t189 a4).bind fun bt217 => ((dynamoref_SameSpan.f bt215.1 bt215.2 bt217.1 bt217.2).bind fun t219 => (if t219 = true then ((span_Shrink.f t188 t189 a4).bind fun bt220 => ((dynamoref1_Shrink.f t188 t189 a4).bind fun bt222 => ((dynamoref_SameSpan.f bt220.1 bt220.2 bt222.1 bt222.2).bind fun t224 => (if t224 = true then ((span_Hull.f t188 t189 t191 t192).bind fun bt225 => ((dynamoref1_Hull.f t188 t189 t191 t192).bind fun bt227 => ((dynamoref_SameSpan.f bt225.1 bt225.2 bt227.1 bt227.2).bind fun t229 => (if t229 = true then ((dynamoref_SameSpan.f t194 t195 t198 t199).bind fun t230 => (if t230 = true then (if (t196 == t200) = true then ((span_Widen.f k t188 t189 a4).bind fun bt231 => ((dynamoref1_Widen.f k t188 t189 a4).bind fun bt233 => ((dynamoref_SameSpan.f bt231.1 bt231.2 bt233.1 bt233.2).bind fun t235 => (if t235 = true then ((span_Has.f t188 t189 a5).bind fun t236 => ((dynamoref1_Has.f t188 t189 a5).bind fun t237 => (if (t236 == t237) = true then ((span_In.f t188 t189 t191 t192).bind fun t238 => ((dynamoref1_In.f t188 t189 t191 t192).bind fun t239 => (if (t238 == t239) = true then ((span_Clamp.f t188 t189 a2 a3).bind fun bt240 => ((dynamoref1_ClampSpan.f t188 t189 a2 a3).bind fun bt242 => ((dynamoref_SameSpan.f bt240.1 bt240.2 bt242.1 bt242.2).bind fun t244 => (some t244)))) else (some false)))) else (some false)))) else (some false))))) else (some false)) else (some false))) else (some false))))) else (some false))))) else (some false))))) else (some false))))) else (some false)))) = some true := H
   have A16 := Aside0.mk A160
   clear A160
   replace H := Option.bind_eq_some_iff.mp H
   obtain ⟨⟨t207, t208⟩, A170, H⟩ := H
   replace H : ((dynamoref_SameSpan.f t205 t206 t207 t208).bind fun t209 => (if t209 = true then ((span_Sub.f k t188 t189 t191 t192).bind fun bt210 => ((dynamoref1_SubSpan.f k t188 t189 t191 t192).bind fun bt212 => ((dynamoref_SameSpan.f bt210.1 bt210.2 bt212.1 bt212.2).bind fun t214 => (if t214 = true then ((span_Scale.f k t188 t189 a4).bind fun bt215 => ((dynamoref1_Scale.f k t188 t189 a4).bind fun bt217 => ((dynamoref_SameSpan.f bt215.1 bt215.2 bt217.1 bt217.2).bind fun t219 => (if t219 = true then ((span_Shrink.f t188 t189 a4).bind fun bt220 => ((dynamoref1_Shrink.f t188 t189 a4).bind fun bt222 => ((dynamoref_SameSpan.f bt220.1 bt220.2 bt222.1 bt222.2).bind fun t224 => (if t224 = true then ((span_Hull.f t188 t189 t191 t192).bind fun bt225 => ((dynamoref1_Hull.f t188 t189 t191 t192).bind fun bt227 => ((dynamoref_SameSpan.f bt225.1 bt225.2 bt227.1 bt227.2).bind fun t229 => (if t229 = true then ((dynamoref_SameSpan.f t194 t195 t198 t199).bind fun t230 => (if t230 = true then (if (t196 == t200) = true then ((span_Widen.f k t188 t189 a4).bind fun bt231 => ((dynamoref1_Widen.f k t188 t189 a4).bind fun bt233 => ((dynamoref_SameSpan.f bt231.1 bt231.2 bt233.1 bt233.2).bind fun t235 => (if t235 = true then ((span_Has.f t188 t189 a5).bind fun t236 => ((dynamoref1_Has.f t188 t189 a5).bind fun t237 => (if (t236 == t237) = true then ((span_In.f t188 t189 t191 t192).bind fun t238 => ((dynamoref1_In.f t188 t189 t191 t192).bind fun t239 => (if (t238 == t239) = true then ((span_Clamp.f t188 t189 a2 a3).bind fun bt240 => ((dynamoref1_ClampSpan.f t188 t189 a2 a3).bind fun bt242 => ((dynamoref_SameSpan.f bt240.1 bt240.2 bt242.1 bt242.2).bind fun t244 => (some t244)))) else (some false)))) else (some false)))) else (some false))))) else (some false)) else (some false))) else (some false))))) else (some false))))) else (some false))))) else (some false))))) else (some false))) = some true := H
   have A17 := Aside0.mk A170
   clear A170
   replace H := Option.bind_eq_some_iff.mp H
   obtain ⟨t209, A180, H⟩ := H
   replace H : (if t209 = true then ((span_Sub.f k t188 t189 t191 t192).bind fun bt210 => ((dynamoref1_SubSpan.f k t188 t189 t191 t192).bind fun bt212 => ((dynamoref_SameSpan.f bt210.1 bt210.2 bt212.1 bt212.2).bind fun t214 => (if t214 = true then ((span_Scale.f k t188 t189 a4).bind fun bt215 => ((dynamoref1_Scale.f k t188 t189 a4).bind fun bt217 => ((dynamoref_SameSpan.f bt215.1 bt215.2 bt217.1 bt217.2).bind fun t219 => (if t219 = true then ((span_Shrink.f t188 t189 a4).bind fun bt220 => ((dynamoref1_Shrink.f t188 t189 a4).bind fun bt222 => ((dynamoref_SameSpan.f bt220.1 bt220.2 bt222.1 bt222.2).bind fun t224 => (if t224 = true then ((span_Hull.f t188 t189 t191 t192).bind fun bt225 => ((dynamoref1_Hull.f t188 t189 t191 t192).bind fun bt227 => ((dynamoref_SameSpan.f bt225.1 bt225.2 bt227.1 bt227.2).bind fun t229 => (if t229 = true then ((dynamoref_SameSpan.f t194 t195 t198 t199).bind fun t230 => (if t230 = true then (if (t196 == t200) = true then ((span_Widen.f k t188 t189 a4).bind fun bt231 => ((dynamoref1_Widen.f k t188 t189 a4).bind fun bt233 => ((dynamoref_SameSpan.f bt231.1 bt231.2 bt233.1 bt233.2).bind fun t235 => (if t235 = true then ((span_Has.f t188 t189 a5).bind fun t236 => ((dynamoref1_Has.f t188 t189 a5).bind fun t237 => (if (t236 == t237) = true then ((span_In.f t188 t189 t191 t192).bind fun t238 => ((dynamoref1_In.f t188 t189 t191 t192).bind fun t239 => (if (t238 == t239) = true then ((span_Clamp.f t188 t189 a2 a3).bind fun bt240 => ((dynamoref1_ClampSpan.f t188 t189 a2 a3).bind fun bt242 => ((dynamoref_SameSpan.f bt240.1 bt240.2 bt242.1 bt242.2).bind fun t244 => (some t244)))) else (some false)))) else (some false)))) else (some false))))) else (some false)) else (some false))) else (some false))))) else (some false))))) else (some false))))) else (some false))))) else (some false)) = some true := H
   have A18 := Aside0.mk A180
   clear A180
   by_cases c19 : t209 = true
   ·subst c19
    have H1 : ((span_Sub.f k t188 t189 t191 t192).bind fun bt210 => ((dynamoref1_SubSpan.f k t188 t189 t191 t192).bind fun bt212 => ((dynamoref_SameSpan.f bt210.1 bt210.2 bt212.1 bt212.2).bind fun t214 => (if t214 = true then ((span_Scale.f k t188 t189 a4).bind fun bt215 => ((dynamoref1_Scale.f k t188 t189 a4).bind fun bt217 => ((dynamoref_SameSpan.f bt215.1 bt215.2 bt217.1 bt217.2).bind fun t219 => (if t219 = true then ((span_Shrink.f t188 t189 a4).bind fun bt220 => ((dynamoref1_Shrink.f t188 t189 a4).bind fun bt222 => ((dynamoref_SameSpan.f bt220.1 bt220.2 bt222.1 bt222.2).bind fun t224 => (if t224 = true then ((span_Hull.f t188 t189 t191 t192).bind fun bt225 => ((dynamoref1_Hull.f t188 t189 t191 t192).bind fun bt227 => ((dynamoref_SameSpan.f bt225.1 bt225.2 bt227.1 bt227.2).bind fun t229 => (if t229 = true then ((dynamoref_SameSpan.f t194 t195 t198 t199).bind fun t230 => (if t230 = true then (if (t196 == t200) = true then ((span_Widen.f k t188 t189 a4).bind fun bt231 => ((dynamoref1_Widen.f k t188 t189 a4).bind fun bt233 => ((dynamoref_SameSpan.f bt231.1 bt231.2 bt233.1 bt233.2).bind fun t235 => (if t235 = true then ((span_Has.f t188 t189 a5).bind fun t236 => ((dynamoref1_Has.f t188 t189 a5).bind fun t237 => (if (t236 == t237) = true then ((span_In.f t188 t189 t191 t192).bind fun t238 => ((dynamoref1_In.f t188 t189 t191 t192).bind fun t239 => (if (t238 == t239) = true then ((span_Clamp.f t188 t189 a2 a3).bind fun bt240 => ((dynamoref1_ClampSpan.f t188 t189 a2 a3).bind fun bt242 => ((dynamoref_SameSpan.f bt240.1 bt240.2 bt242.1 bt242.2).bind fun t244 => (some t244)))) else (some false)))) else (some false)))) else (some false))))) else (some false)) else (some false))) else (some false))))) else (some false))))) else (some false))))) else (some false))))) = some true := by first | (rw [if_pos rfl] at H; exact H) | exact H | rfl
    clear H
    have H := H1
    clear H1
    replace H := Option.bind_eq_some_iff.mp H
    obtain ⟨⟨t210, t211⟩, A200, H⟩ := H
    replace H : ((dynamoref1_SubSpan.f k t188 t189 t191 t192).bind fun bt212 => ((dynamoref_SameSpan.f t210 t211 bt212.1 bt212.2).bind fun t214 => (if t214 = true then ((span_Scale.f k t188 t189 a4).bind fun bt215 => ((dynamoref1_Scale.f k t188 t189 a4).bind fun bt217 => ((dynamoref_SameSpan.f bt215.1 bt215.2 bt217.1 bt217.2).bind fun t219 => (if t219 = true then ((span_Shrink.f t188 t189 a4).bind fun bt220 => ((dynamoref1_Shrink.f t188 t189 a4).bind fun bt222 => ((dynamoref_SameSpan.f bt220.1 bt220.2 bt222.1 bt222.2).bind fun t224 => (if t224 = true then ((span_Hull.f t188 t189 t191 t192).bind fun bt225 => ((dynamoref1_Hull.f t188 t189 t191 t192).bind fun bt227 => ((dynamoref_SameSpan.f bt225.1 bt225.2 bt227.1 bt227.2).bind fun t229 => (if t229 = true then ((dynamoref_SameSpan.f t194 t195 t198 t199).bind fun t230 => (if t230 = true then (if (t196 == t200) = true then ((span_Widen.f k t188 t189 a4).bind fun bt231 => ((dynamoref1_Widen.f k t188 t189 a4).bind fun bt233 => ((dynamoref_SameSpan.f bt231.1 bt231.2 bt233.1 bt233.2).bind fun t235 => (if t235 = true then ((span_Has.f t188 t189 a5).bind fun t236 => ((dynamoref1_Has.f t188 t189 a5).bind fun t237 => (if (t236 == t237) = true then ((span_In.f t188 t189 t191 t192).bind fun t238 => ((dynamoref1_In.f t188 t189 t191 t192).bind fun t239 => (if (t238 == t239) = true then ((span_Clamp.f t188 t189 a2 a3).bind fun bt240 => ((dynamoref1_ClampSpan.f t188 t189 a2 a3).bind fun bt242 => ((dynamoref_SameSpan.f bt240.1 bt240.2 bt242.1 bt242.2).bind fun t244 => (some t244)))) else (some false)))) else (some false)))) else (some false))))) else (some false)) else (some false))) else (some false))))) else (some false))))) else (some false))))) else (some false)))) = some true := H
    have A20 := Aside0.mk A200
    clear A200
    replace H := Option.bind_eq_some_iff.mp H
    obtain ⟨⟨t212, t213⟩, A210, H⟩ := H
    replace H : ((dynamoref_SameSpan.f t210 t211 t212 t213).bind fun t214 => (if t214 = true then ((span_Scale.f k t188 t189 a4).bind fun bt215 => ((dynamoref1_Scale.f k t188 t189 a4).bind fun bt217 => ((dynamoref_SameSpan.f bt215.1 bt215.2 bt217.1 bt217.2).bind fun t219 => (if t219 = true then ((span_Shrink.f t188 t189 a4).bind fun bt220 => ((dynamoref1_Shrink.f t188 t189 a4).bind fun bt222 => ((dynamoref_SameSpan.f bt220.1 bt220.2 bt222.1 bt222.2).bind fun t224 => (if t224 = true then ((span_Hull.f t188 t189 t191 t192).bind fun bt225 => ((dynamoref1_Hull.f t188 t189 t191 t192).bind fun bt227 => ((dynamoref_SameSpan.f bt225.1 bt225.2 bt227.1 bt227.2).bind fun t229 => (if t229 = true then ((dynamoref_SameSpan.f t194 t195 t198 t199).bind fun t230 => (if t230 = true then (if (t196 == t200) = true then ((span_Widen.f k t188 t189 a4).bind fun bt231 => ((dynamoref1_Widen.f k t188 t189 a4).bind fun bt233 => ((dynamoref_SameSpan.f bt231.1 bt231.2 bt233.1 bt233.2).bind fun t235 => (if t235 = true then ((span_Has.f t188 t189 a5).bind fun t236 => ((dynamoref1_Has.f t188 t189 a5).bind fun t237 => (if (t236 == t237) = true then ((span_In.f t188 t189 t191 t192).bind fun t238 => ((dynamoref1_In.f t188 t189 t191 t192).bind fun t239 => (if (t238 == t239) = true then ((span_Clamp.f t188 t189 a2 a3).bind fun bt240 => ((dynamoref1_ClampSpan.f t188 t189 a2 a3).bind fun bt242 => ((dynamoref_SameSpan.f bt240.1 bt240.2 bt242.1 bt242.2).bind fun t244 => (some t244)))) else (some false)))) else (some false)))) else (some false))))) else (some false)) else (some false))) else (some false))))) else (some false))))) else (some false))))) else (some false))) = some true := H
    have A21 := Aside0.mk A210
    clear A210
    replace H := Option.bind_eq_some_iff.mp H
    obtain ⟨t214, A220, H⟩ := H
    replace H : (if t214 = true then ((span_Scale.f k t188 t189 a4).bind fun bt215 => ((dynamoref1_Scale.f k t188 t189 a4).bind fun bt217 => ((dynamoref_SameSpan.f bt215.1 bt215.2 bt217.1 bt217.2).bind fun t219 => (if t219 = true then ((span_Shrink.f t188 t189 a4).bind fun bt220 => ((dynamoref1_Shrink.f t188 t189 a4).bind fun bt222 => ((dynamoref_SameSpan.f bt220.1 bt220.2 bt222.1 bt222.2).bind fun t224 => (if t224 = true then ((span_Hull.f t188 t189 t191 t192).bind fun bt225 => ((dynamoref1_Hull.f t188 t189 t191 t192).bind fun bt227 => ((dynamoref_SameSpan.f bt225.1 bt225.2 bt227.1 bt227.2).bind fun t229 => (if t229 = true then ((dynamoref_SameSpan.f t194 t195 t198 t199).bind fun t230 => (if t230 = true then (if (t196 == t200) = true then ((span_Widen.f k t188 t189 a4).bind fun bt231 => ((dynamoref1_Widen.f k t188 t189 a4).bind fun bt233 => ((dynamoref_SameSpan.f bt231.1 bt231.2 bt233.1 bt233.2).bind fun t235 => (if t235 = true then ((span_Has.f t188 t189 a5).bind fun t236 => ((dynamoref1_Has.f t188 t189 a5).bind fun t237 => (if (t236 == t237) = true then ((span_In.f t188 t189 t191 t192).bind fun t238 => ((dynamoref1_In.f t188 t189 t191 t192).bind fun t239 => (if (t238 == t239) = true then ((span_Clamp.f t188 t189 a2 a3).bind fun bt240 => ((dynamoref1_ClampSpan.f t188 t189 a2 a3).bind fun bt242 => ((dynamoref_SameSpan.f bt240.1 bt240.2 bt242.1 bt242.2).bind fun t244 => (some t244)))) else (some false)))) else (some false)))) else (some false))))) else (some false)) else (some false))) else (some false))))) else (some false))))) else (some false))))) else (some false)) = some true := H
    have A22 := Aside0.mk A220
    clear A220
    by_cases c23 : t214 = true
    ·subst c23
     have H1 : ((span_Scale.f k t188 t189 a4).bind fun bt215 => ((dynamoref1_Scale.f k t188 t189 a4).bind fun bt217 => ((dynamoref_SameSpan.f bt215.1 bt215.2 bt217.1 bt217.2).bind fun t219 => (if t219 = true then ((span_Shrink.f t188 t189 a4).bind fun bt220 => ((dynamoref1_Shrink.f t188 t189 a4).bind fun bt222 => ((dynamoref_SameSpan.f bt220.1 bt220.2 bt222.1 bt222.2).bind fun t224 => (if t224 = true then ((span_Hull.f t188 t189 t191 t192).bind fun bt225 => ((dynamoref1_Hull.f t188 t189 t191 t192).bind fun bt227 => ((dynamoref_SameSpan.f bt225.1 bt225.2 bt227.1 bt227.2).bind fun t229 => (if t229 = true then ((dynamoref_SameSpan.f t194 t195 t198 t199).bind fun t230 => (if t230 = true then (if (t196 == t200) = true then ((span_Widen.f k t188 t189 a4).bind fun bt231 => ((dynamoref1_Widen.f k t188 t189 a4).bind fun bt233 => ((dynamoref_SameSpan.f bt231.1 bt231.2 bt233.1 bt233.2).bind fun t235 => (if t235 = true then ((span_Has.f t188 t189 a5).bind fun t236 => ((dynamoref1_Has.f t188 t189 a5).bind fun t237 => (if (t236 == t237) = true then ((span_In.f t188 t189 t191 t192).bind fun t238 => ((dynamoref1_In.f t188 t189 t191 t192).bind fun t239 => (if (t238 == t239) = true then ((span_Clamp.f t188 t189 a2 a3).bind fun bt240 => ((dynamoref1_ClampSpan.f t188 t189 a2 a3).bind fun bt242 => ((dynamoref_SameSpan.f bt240.1 bt240.2 bt242.1 bt242.2).bind fun t244 => (some t244)))) else (some false)))) else (some false)))) else (some false))))) else (some false)) else (some false))) else (some false))))) else (some false))))) else (some false))))) = some true := by first | (rw [if_pos rfl] at H; exact H) | exact H | rfl
     clear H
     have H := H1
     clear H1
     replace H := Option.bind_eq_some_iff.mp H
     obtain ⟨⟨t215, t216⟩, A240, H⟩ := H
     replace H : ((dynamoref1_Scale.f k t188 t189 a4).bind fun bt217 => ((dynamoref_SameSpan.f t215 t216 bt217.1 bt217.2).bind fun t219 => (if t219 = true then ((span_Shrink.f t188 t189 a4).bind fun bt220 => ((dynamoref1_Shrink.f t188 t189 a4).bind fun bt222 => ((dynamoref_SameSpan.f bt220.1 bt220.2 bt222.1 bt222.2).bind fun t224 => (if t224 = true then ((span_Hull.f t188 t189 t191 t192).bind fun bt225 => ((dynamoref1_Hull.f t188 t189 t191 t192).bind fun bt227 => ((dynamoref_SameSpan.f bt225.1 bt225.2 bt227.1 bt227.2).bind fun t229 => (if t229 = true then ((dynamoref_SameSpan.f t194 t195 t198 t199).bind fun t230 => (if t230 = true then (if (t196 == t200) = true then ((span_Widen.f k t188 t189 a4).bind fun bt231 => ((dynamoref1_Widen.f k t188 t189 a4).bind fun bt233 => ((dynamoref_SameSpan.f bt231.1 bt231.2 bt233.1 bt233.2).bind fun t235 => (if t235 = true then ((span_Has.f t188 t189 a5).bind fun t236 => ((dynamoref1_Has.f t188 t189 a5).bind fun t237 => (if (t236 == t237) = true then ((span_In.f t188 t189 t191 t192).bind fun t238 => ((dynamoref1_In.f t188 t189 t191 t192).bind fun t239 => (if (t238 == t239) = true then ((span_Clamp.f t188 t189 a2 a3).bind fun bt240 => ((dynamoref1_ClampSpan.f t188 t189 a2 a3).bind fun bt242 => ((dynamoref_SameSpan.f bt240.1 bt240.2 bt242.1 bt242.2).bind fun t244 => (some t244)))) else (some false)))) else (some false)))) else (some false))))) else (some false)) else (some false))) else (some false))))) else (some false))))) else (some false)))) = some true := H
     have A24 := Aside0.mk A240
     clear A240
     replace H := Option.bind_eq_some_iff.mp H
     obtain ⟨⟨t217, t218⟩, A250, H⟩ := H
     replace H : ((dynamoref_SameSpan.f t215 t216 t217 t218).bind fun t219 => (if t219 = true then ((span_Shrink.f t188 t189 a4).bind fun bt220 => ((dynamoref1_Shrink.f t188 t189 a4).bind fun bt222 => ((dynamoref_SameSpan.f bt220.1 bt220.2 bt222.1 bt222.2).bind fun t224 => (if t224 = true then ((span_Hull.f t188 t189 t191 t192).bind fun bt225 => ((dynamoref1_Hull.f t188 t189 t191 t192).bind fun bt227 => ((dynamoref_SameSpan.f bt225.1 bt225.2 bt227.1 bt227.2).bind fun t229 => (if t229 = true then ((dynamoref_SameSpan.f t194 t195 t198 t199).bind fun t230 => (if t230 = true then (if (t196 == t200) = true then ((span_Widen.f k t188 t189 a4).bind fun bt231 => ((dynamoref1_Widen.f k t188 t189 a4).bind fun bt233 => ((dynamoref_SameSpan.f bt231.1 bt231.2 bt233.1 bt233.2).bind fun t235 => (if t235 = true then ((span_Has.f t188 t189 a5).bind fun t236 => ((dynamoref1_Has.f t188 t189 a5).bind fun t237 => (if (t236 == t237) = true then ((span_In.f t188 t189 t191 t192).bind fun t238 => ((dynamoref1_In.f t188 t189 t191 t192).bind fun t239 => (if (t238 == t239) = true then ((span_Clamp.f t188 t189 a2 a3).bind fun bt240 => ((dynamoref1_ClampSpan.f t188 t189 a2 a3).bind fun bt242 => ((dynamoref_SameSpan.f bt240.1 bt240.2 bt242.1 bt242.2).bind fun t244 => (some t244)))) else (some false)))) else (some false)))) else (some false))))) else (some false)) else (some false))) else (some false))))) else (some false))))) else (some false))) = some true := H
     have A25 := Aside0.mk A250
     clear A250
     replace H := Option.bind_eq_some_iff.mp H
     obtain ⟨t219, A260, H⟩ := H
     replace H : (if t219 = true then ((span_Shrink.f t188 t189 a4).bind fun bt220 => ((dynamoref1_Shrink.f t188 t189 a4).bind fun bt222 => ((dynamoref_SameSpan.f bt220.1 bt220.2 bt222.1 bt222.2).bind fun t224 => (if t224 = true then ((span_Hull.f t188 t189 t191 t192).bind fun bt225 => ((dynamoref1_Hull.f t188 t189 t191 t192).bind fun bt227 => ((dynamoref_SameSpan.f bt225.1 bt225.2 bt227.1 bt227.2).bind fun t229 => (if t229 = true then ((dynamoref_SameSpan.f t194 t195 t198 t199).bind fun t230 => (if t230 = true then (if (t196 == t200) = true then ((span_Widen.f k t188 t189 a4).bind fun bt231 => ((dynamoref1_Widen.f k t188 t189 a4).bind fun bt233 => ((dynamoref_SameSpan.f bt231.1 bt231.2 bt233.1 bt233.2).bind fun t235 => (if t235 = true then ((span_Has.f t188 t189 a5).bind fun t236 => ((dynamoref1_Has.f t188 t189 a5).bind fun t237 => (if (t236 == t237) = true then ((span_In.f t188 t189 t191 t192).bind fun t238 => ((dynamoref1_In.f t188 t189 t191 t192).bind fun t239 => (if (t238 == t239) = true then ((span_Clamp.f t188 t189 a2 a3).bind fun bt240 => ((dynamoref1_ClampSpan.f t188 t189 a2 a3).bind fun bt242 => ((dynamoref_SameSpan.f bt240.1 bt240.2 bt242.1 bt242.2).bind fun t244 => (some t244)))) else (some false)))) else (some false)))) else (some false))))) else (some false)) else (some false))) else (some false))))) else (some false))))) else (some false)) = some true := H
     have A26 := Aside0.mk A260
     clear A260
     by_cases c27 : t219 = true
     ·subst c27
      have H1 : ((span_Shrink.f t188 t189 a4).bind fun bt220 => ((dynamoref1_Shrink.f t188 t189 a4).bind fun bt222 => ((dynamoref_SameSpan.f bt220.1 bt220.2 bt222.1 bt222.2).bind fun t224 => (if t224 = true then ((span_Hull.f t188 t189 t191 t192).bind fun bt225 => ((dynamoref1_Hull.f t188 t189 t191 t192).bind fun bt227 => ((dynamoref_SameSpan.f bt225.1 bt225.2 bt227.1 bt227.2).bind fun t229 => (if t229 = true then ((dynamoref_SameSpan.f t194 t195 t198 t199).bind fun t230 => (if t230 = true then (if (t196 == t200) = true then ((span_Widen.f k t188 t189 a4).bind fun bt231 => ((dynamoref1_Widen.f k t188 t189 a4).bind fun bt233 => ((dynamoref_SameSpan.f bt231.1 bt231.2 bt233.1 bt233.2).bind fun t235 => (if t235 = true then ((span_Has.f t188 t189 a5).bind fun t236 => ((dynamoref1_Has.f t188 t189 a5).bind fun t237 => (if (t236 == t237) = true then ((span_In.f t188 t189 t191 t192).bind fun t238 => ((dynamoref1_In.f t188 t189 t191 t192).bind fun t239 => (if (t238 == t239) = true then ((span_Clamp.f t188 t189 a2 a3).bind fun bt240 => ((dynamoref1_ClampSpan.f t188 t189 a2 a3).bind fun bt242 => ((dynamoref_SameSpan.f bt240.1 bt240.2 bt242.1 bt242.2).bind fun t244 => (some t244)))) else (some false)))) else (some false)))) else (some false))))) else (some false)) else (some false))) else (some false))))) else (some false))))) = some true := by first | (rw [if_pos rfl] at H; exact H) | exact H | rfl
      clear H
      have H := H1
      clear H1
      replace H := Option.bind_eq_some_iff.mp H
      obtain ⟨⟨t220, t221⟩, A280, H⟩ := H
      replace H : ((dynamoref1_Shrink.f t188 t189 a4).bind fun bt222 => ((dynamoref_SameSpan.f t220 t221 bt222.1 bt222.2).bind fun t224 => (if t224 = true then ((span_Hull.f t188 t189 t191 t192).bind fun bt225 => ((dynamoref1_Hull.f t188 t189 t191 t192).bind fun bt227 => ((dynamoref_SameSpan.f bt225.1 bt225.2 bt227.1 bt227.2).bind fun t229 => (if t229 = true then ((dynamoref_SameSpan.f t194 t195 t198 t199).bind fun t230 => (if t230 = true then (if (t196 == t200) = true then ((span_Widen.f k t188 t189 a4).bind fun bt231 => ((dynamoref1_Widen.f k t188 t189 a4).bind fun bt233 => ((dynamoref_SameSpan.f bt231.1 bt231.2 bt233.1 bt233.2).bind fun t235 => (if t235 = true then ((span_Has.f t188 t189 a5).bind fun t236 => ((dynamoref1_Has.f t188 t189 a5).bind fun t237 => (if (t236 == t237) = true then ((span_In.f t188 t189 t191 t192).bind fun t238 => ((dynamoref1_In.f t188 t189 t191 t192).bind fun t239 => (if (t238 == t239) = true then ((span_Clamp.f t188 t189 a2 a3).bind fun bt240 => ((dynamoref1_ClampSpan.f t188 t189 a2 a3).bind fun bt242 => ((dynamoref_SameSpan.f bt240.1 bt240.2 bt242.1 bt242.2).bind fun t244 => (some t244)))) else (some false)))) else (some false)))) else (some false))))) else (some false)) else (some false))) else (some false))))) else (some false)))) = some true := H
      have A28 := Aside0.mk A280
      clear A280
      replace H := Option.bind_eq_some_iff.mp H
      obtain ⟨⟨t222, t223⟩, A290, H⟩ := H
      replace H : ((dynamoref_SameSpan.f t220 t221 t222 t223).bind fun t224 => (if t224 = true then ((span_Hull.f t188 t189 t191 t192).bind fun bt225 => ((dynamoref1_Hull.f t188 t189 t191 t192).bind fun bt227 => ((dynamoref_SameSpan.f bt225.1 bt225.2 bt227.1 bt227.2).bind fun t229 => (if t229 = true then ((dynamoref_SameSpan.f t194 t195 t198 t199).bind fun t230 => (if t230 = true then (if (t196 == t200) = true then ((span_Widen.f k t188 t189 a4).bind fun bt231 => ((dynamoref1_Widen.f k t188 t189 a4).bind fun bt233 => ((dynamoref_SameSpan.f bt231.1 bt231.2 bt233.1 bt233.2).bind fun t235 => (if t235 = true then ((span_Has.f t188 t189 a5).bind fun t236 => ((dynamoref1_Has.f t188 t189 a5).bind fun t237 => (if (t236 == t237) = true then ((span_In.f t188 t189 t191 t192).bind fun t238 => ((dynamoref1_In.f t188 t189 t191 t192).bind fun t239 => (if (t238 == t239) = true then ((span_Clamp.f t188 t189 a2 a3).bind fun bt240 => ((dynamoref1_ClampSpan.f t188 t189 a2 a3).bind fun bt242 => ((dynamoref_SameSpan.f bt240.1 bt240.2 bt242.1 bt242.2).bind fun t244 => (some t244)))) else (some false)))) else (some false)))) else (some false))))) else (some false)) else (some false))) else (some false))))) else (some false))) = some true := H
      have A29 := Aside0.mk A290
      clear A290
      replace H := Option.bind_eq_some_iff.mp H
      obtain ⟨t224, A300, H⟩ := H
      replace H : (if t224 = true then ((span_Hull.f t188 t189 t191 t192).bind fun bt225 => ((dynamoref1_Hull.f t188 t189 t191 t192).bind fun bt227 => ((dynamoref_SameSpan.f bt225.1 bt225.2 bt227.1 bt227.2).bind fun t229 => (if t229 = true then ((dynamoref_SameSpan.f t194 t195 t198 t199).bind fun t230 => (if t230 = true then (if (t196 == t200) = true then ((span_Widen.f k t188 t189 a4).bind fun bt231 => ((dynamoref1_Widen.f k t188 t189 a4).bind fun bt233 => ((dynamoref_SameSpan.f bt231.1 bt231.2 bt233.1 bt233.2).bind fun t235 => (if t235 = true then ((span_Has.f t188 t189 a5).bind fun t236 => ((dynamoref1_Has.f t188 t189 a5).bind fun t237 => (if (t236 == t237) = true then ((span_In.f t188 t189 t191 t192).bind fun t238 => ((dynamoref1_In.f t188 t189 t191 t192).bind fun t239 => (if (t238 == t239) = true then ((span_Clamp.f t188 t189 a2 a3).bind fun bt240 => ((dynamoref1_ClampSpan.f t188 t189 a2 a3).bind fun bt242 => ((dynamoref_SameSpan.f bt240.1 bt240.2 bt242.1 bt242.2).bind fun t244 => (some t244)))) else (some false)))) else (some false)))) else (some false))))) else (some false)) else (some false))) else (some false))))) else (some false)) = some true := H
      have A30 := Aside0.mk A300
      clear A300
      by_cases c31 : t224 = true
      ·subst c31
       have H1 : ((span_Hull.f t188 t189 t191 t192).bind fun bt225 => ((dynamoref1_Hull.f t188 t189 t191 t192).bind fun bt227 => ((dynamoref_SameSpan.f bt225.1 bt225.2 bt227.1 bt227.2).bind fun t229 => (if t229 = true then ((dynamoref_SameSpan.f t194 t195 t198 t199).bind fun t230 => (if t230 = true then (if (t196 == t200) = true then ((span_Widen.f k t188 t189 a4).bind fun bt231 => ((dynamoref1_Widen.f k t188 t189 a4).bind fun bt233 => ((dynamoref_SameSpan.f bt231.1 bt231.2 bt233.1 bt233.2).bind fun t235 => (if t235 = true then ((span_Has.f t188 t189 a5).bind fun t236 => ((dynamoref1_Has.f t188 t189 a5).bind fun t237 => (if (t236 == t237) = true then ((span_In.f t188 t189 t191 t192).bind fun t238 => ((dynamoref1_In.f t188 t189 t191 t192).bind fun t239 => (if (t238 == t239) = true then ((span_Clamp.f t188 t189 a2 a3).bind fun bt240 => ((dynamoref1_ClampSpan.f t188 t189 a2 a3).bind fun bt242 => ((dynamoref_SameSpan.f bt240.1 bt240.2 bt242.1 bt242.2).bind fun t244 => (some t244)))) else (some false)))) else (some false)))) else (some false))))) else (some false)) else (some false))) else (some false))))) = some true := by first | (rw [if_pos rfl] at H; exact H) | exact H | rfl
       clear H
       have H := H1
       clear H1
       replace H := Option.bind_eq_some_iff.mp H
       obtain ⟨⟨t225, t226⟩, A320, H⟩ := H
       replace H : ((dynamoref1_Hull.f t188 t189 t191 t192).bind fun bt227 => ((dynamoref_SameSpan.f t225 t226 bt227.1 bt227.2).bind fun t229 => (if t229 = true then ((dynamoref_SameSpan.f t194 t195 t198 t199).bind fun t230 => (if t230 = true then (if (t196 == t200) = true then ((span_Widen.f k t188 t189 a4).bind fun bt231 => ((dynamoref1_Widen.f k t188 t189 a4).bind fun bt233 => ((dynamoref_SameSpan.f bt231.1 bt231.2 bt233.1 bt233.2).bind fun t235 => (if t235 = true then ((span_Has.f t188 t189 a5).bind fun t236 => ((dynamoref1_Has.f t188 t189 a5).bind fun t237 => (if (t236 == t237) = true then ((span_In.f t188 t189 t191 t192).bind fun t238 => ((dynamoref1_In.f t188 t189 t191 t192).bind fun t239 => (if (t238 == t239) = true then ((span_Clamp.f t188 t189 a2 a3).bind fun bt240 => ((dynamoref1_ClampSpan.f t188 t189 a2 a3).bind fun bt242 => ((dynamoref_SameSpan.f bt240.1 bt240.2 bt242.1 bt242.2).bind fun t244 => (some t244)))) else (some false)))) else (some false)))) else (some false))))) else (some false)) else (some false))) else (some false)))) = some true := H
       have A32 := Aside0.mk A320
       clear A320
       replace H := Option.bind_eq_some_iff.mp H
       obtain ⟨⟨t227, t228⟩, A330, H⟩ := H
       replace H : ((dynamoref_SameSpan.f t225 t226 t227 t228).bind fun t229 => (if t229 = true then ((dynamoref_SameSpan.f t194 t195 t198 t199).bind fun t230 => (if t230 = true then (if (t196 == t200) = true then ((span_Widen.f k t188 t189 a4).bind fun bt231 => ((dynamoref1_Widen.f k t188 t189 a4).bind fun bt233 => ((dynamoref_SameSpan.f bt231.1 bt231.2 bt233.1 bt233.2).bind fun t235 => (if t235 = true then ((span_Has.f t188 t189 a5).bind fun t236 => ((dynamoref1_Has.f t188 t189 a5).bind fun t237 => (if (t236 == t237) = true then ((span_In.f t188 t189 t191 t192).bind fun t238 => ((dynamoref1_In.f t188 t189 t191 t192).bind fun t239 => (if (t238 == t239) = true then ((span_Clamp.f t188 t189 a2 a3).bind fun bt240 => ((dynamoref1_ClampSpan.f t188 t189 a2 a3).bind fun bt242 => ((dynamoref_SameSpan.f bt240.1 bt240.2 bt242.1 bt242.2).bind fun t244 => (some t244)))) else (some false)))) else (some false)))) else (some false))))) else (some false)) else (some false))) else (some false))) = some true := H
       have A33 := Aside0.mk A330
       clear A330
       replace H := Option.bind_eq_some_iff.mp H
       obtain ⟨t229, A340, H⟩ := H
       replace H : (if t229 = true then ((dynamoref_SameSpan.f t194 t195 t198 t199).bind fun t230 => (if t230 = true then (if (t196 == t200) = true then ((span_Widen.f k t188 t189 a4).bind fun bt231 => ((dynamoref1_Widen.f k t188 t189 a4).bind fun bt233 => ((dynamoref_SameSpan.f bt231.1 bt231.2 bt233.1 bt233.2).bind fun t235 => (if t235 = true then ((span_Has.f t188 t189 a5).bind fun t236 => ((dynamoref1_Has.f t188 t189 a5).bind fun t237 => (if (t236 == t237) = true then ((span_In.f t188 t189 t191 t192).bind fun t238 => ((dynamoref1_In.f t188 t189 t191 t192).bind fun t239 => (if (t238 == t239) = true then ((span_Clamp.f t188 t189 a2 a3).bind fun bt240 => ((dynamoref1_ClampSpan.f t188 t189 a2 a3).bind fun bt242 => ((dynamoref_SameSpan.f bt240.1 bt240.2 bt242.1 bt242.2).bind fun t244 => (some t244)))) else (some false)))) else (some false)))) else (some false))))) else (some false)) else (some false))) else (some false)) = some true := H
       have A34 := Aside0.mk A340
       clear A340
       by_cases c35 : t229 = true
       ·subst c35
        have H1 : ((dynamoref_SameSpan.f t194 t195 t198 t199).bind fun t230 => (if t230 = true then (if (t196 == t200) = true then ((span_Widen.f k t188 t189 a4).bind fun bt231 => ((dynamoref1_Widen.f k t188 t189 a4).bind fun bt233 => ((dynamoref_SameSpan.f bt231.1 bt231.2 bt233.1 bt233.2).bind fun t235 => (if t235 = true then ((span_Has.f t188 t189 a5).bind fun t236 => ((dynamoref1_Has.f t188 t189 a5).bind fun t237 => (if (t236 == t237) = true then ((span_In.f t188 t189 t191 t192).bind fun t238 => ((dynamoref1_In.f t188 t189 t191 t192).bind fun t239 => (if (t238 == t239) = true then ((span_Clamp.f t188 t189 a2 a3).bind fun bt240 => ((dynamoref1_ClampSpan.f t188 t189 a2 a3).bind fun bt242 => ((dynamoref_SameSpan.f bt240.1 bt240.2 bt242.1 bt242.2).bind fun t244 => (some t244)))) else (some false)))) else (some false)))) else (some false))))) else (some false)) else (some false))) = some true := by first | (rw [if_pos rfl] at H; exact H) | exact H | rfl
        clear H
        have H := H1
        clear H1
        replace H := Option.bind_eq_some_iff.mp H
        obtain ⟨t230, A360, H⟩ := H
        replace H : (if t230 = true then (if (t196 == t200) = true then ((span_Widen.f k t188 t189 a4).bind fun bt231 => ((dynamoref1_Widen.f k t188 t189 a4).bind fun bt233 => ((dynamoref_SameSpan.f bt231.1 bt231.2 bt233.1 bt233.2).bind fun t235 => (if t235 = true then ((span_Has.f t188 t189 a5).bind fun t236 => ((dynamoref1_Has.f t188 t189 a5).bind fun t237 => (if (t236 == t237) = true then ((span_In.f t188 t189 t191 t192).bind fun t238 => ((dynamoref1_In.f t188 t189 t191 t192).bind fun t239 => (if (t238 == t239) = true then ((span_Clamp.f t188 t189 a2 a3).bind fun bt240 => ((dynamoref1_ClampSpan.f t188 t189 a2 a3).bind fun bt242 => ((dynamoref_SameSpan.f bt240.1 bt240.2 bt242.1 bt242.2).bind fun t244 => (some t244)))) else (some false)))) else (some false)))) else (some false))))) else (some false)) else (some false)) = some true := H
        have A36 := Aside0.mk A360
        clear A360
        by_cases c37 : t230 = true
        ·subst c37
         have H1 : (if (t196 == t200) = true then ((span_Widen.f k t188 t189 a4).bind fun bt231 => ((dynamoref1_Widen.f k t188 t189 a4).bind fun bt233 => ((dynamoref_SameSpan.f bt231.1 bt231.2 bt233.1 bt233.2).bind fun t235 => (if t235 = true then ((span_Has.f t188 t189 a5).bind fun t236 => ((dynamoref1_Has.f t188 t189 a5).bind fun t237 => (if (t236 == t237) = true then ((span_In.f t188 t189 t191 t192).bind fun t238 => ((dynamoref1_In.f t188 t189 t191 t192).bind fun t239 => (if (t238 == t239) = true then ((span_Clamp.f t188 t189 a2 a3).bind fun bt240 => ((dynamoref1_ClampSpan.f t188 t189 a2 a3).bind fun bt242 => ((dynamoref_SameSpan.f bt240.1 bt240.2 bt242.1 bt242.2).bind fun t244 => (some t244)))) else (some false)))) else (some false)))) else (some false))))) else (some false)) = some true := by first | (rw [if_pos rfl] at H; exact H) | exact H | rfl
         clear H
         have H := H1
         clear H1
         by_cases c38 : (t196 == t200) = true
         ·rw [if_pos c38] at H
          have c38b0 : (t196 == t200) = true := c38
          (try (have c38b1 : decide (t196 = t200) = true := by simpa using c38))
          (try (have c38b2 : (t196 == t200) = true := by simpa using c38))
          clear c38
          replace H := Option.bind_eq_some_iff.mp H
          obtain ⟨⟨t231, t232⟩, A390, H⟩ := H
          replace H : ((dynamoref1_Widen.f k t188 t189 a4).bind fun bt233 => ((dynamoref_SameSpan.f t231 t232 bt233.1 bt233.2).bind fun t235 => (if t235 = true then ((span_Has.f t188 t189 a5).bind fun t236 => ((dynamoref1_Has.f t188 t189 a5).bind fun t237 => (if (t236 == t237) = true then ((span_In.f t188 t189 t191 t192).bind fun t238 => ((dynamoref1_In.f t188 t189 t191 t192).bind fun t239 => (if (t238 == t239) = true then ((span_Clamp.f t188 t189 a2 a3).bind fun bt240 => ((dynamoref1_ClampSpan.f t188 t189 a2 a3).bind fun bt242 => ((dynamoref_SameSpan.f bt240.1 bt240.2 bt242.1 bt242.2).bind fun t244 => (some t244)))) else (some false)))) else (some false)))) else (some false)))) = some true := H
          have A39 := Aside0.mk A390
          clear A390
          replace H := Option.bind_eq_some_iff.mp H
          obtain ⟨⟨t233, t234⟩, A400, H⟩ := H
          replace H : ((dynamoref_SameSpan.f t231 t232 t233 t234).bind fun t235 => (if t235 = true then ((span_Has.f t188 t189 a5).bind fun t236 => ((dynamoref1_Has.f t188 t189 a5).bind fun t237 => (if (t236 == t237) = true then ((span_In.f t188 t189 t191 t192).bind fun t238 => ((dynamoref1_In.f t188 t189 t191 t192).bind fun t239 => (if (t238 == t239) = true then ((span_Clamp.f t188 t189 a2 a3).bind fun bt240 => ((dynamoref1_ClampSpan.f t188 t189 a2 a3).bind fun bt242 => ((dynamoref_SameSpan.f bt240.1 bt240.2 bt242.1 bt242.2).bind fun t244 => (some t244)))) else (some false)))) else (some false)))) else (some false))) = some true := H
          have A40 := Aside0.mk A400
          clear A400
          replace H := Option.bind_eq_some_iff.mp H
          obtain ⟨t235, A410, H⟩ := H
          replace H : (if t235 = true then ((span_Has.f t188 t189 a5).bind fun t236 => ((dynamoref1_Has.f t188 t189 a5).bind fun t237 => (if (t236 == t237) = true then ((span_In.f t188 t189 t191 t192).bind fun t238 => ((dynamoref1_In.f t188 t189 t191 t192).bind fun t239 => (if (t238 == t239) = true then ((span_Clamp.f t188 t189 a2 a3).bind fun bt240 => ((dynamoref1_ClampSpan.f t188 t189 a2 a3).bind fun bt242 => ((dynamoref_SameSpan.f bt240.1 bt240.2 bt242.1 bt242.2).bind fun t244 => (some t244)))) else (some false)))) else (some false)))) else (some false)) = some true := H
          have A41 := Aside0.mk A410
          clear A410
          by_cases c42 : t235 = true
          ·subst c42
           have H1 : ((span_Has.f t188 t189 a5).bind fun t236 => ((dynamoref1_Has.f t188 t189 a5).bind fun t237 => (if (t236 == t237) = true then ((span_In.f t188 t189 t191 t192).bind fun t238 => ((dynamoref1_In.f t188 t189 t191 t192).bind fun t239 => (if (t238 == t239) = true then ((span_Clamp.f t188 t189 a2 a3).bind fun bt240 => ((dynamoref1_ClampSpan.f t188 t189 a2 a3).bind fun bt242 => ((dynamoref_SameSpan.f bt240.1 bt240.2 bt242.1 bt242.2).bind fun t244 => (some t244)))) else (some false)))) else (some false)))) = some true := by first | (rw [if_pos rfl] at H; exact H) | exact H | rfl
           clear H
           have H := H1
           clear H1
           replace H := Option.bind_eq_some_iff.mp H
           obtain ⟨t236, A430, H⟩ := H
           replace H : ((dynamoref1_Has.f t188 t189 a5).bind fun t237 => (if (t236 == t237) = true then ((span_In.f t188 t189 t191 t192).bind fun t238 => ((dynamoref1_In.f t188 t189 t191 t192).bind fun t239 => (if (t238 == t239) = true then ((span_Clamp.f t188 t189 a2 a3).bind fun bt240 => ((dynamoref1_ClampSpan.f t188 t189 a2 a3).bind fun bt242 => ((dynamoref_SameSpan.f bt240.1 bt240.2 bt242.1 bt242.2).bind fun t244 => (some t244)))) else (some false)))) else (some false))) = some true := H
           have A43 := Aside0.mk A430
           clear A430
           replace H := Option.bind_eq_some_iff.mp H
           obtain ⟨t237, A440, H⟩ := H
           replace H : (if (t236 == t237) = true then ((span_In.f t188 t189 t191 t192).bind fun t238 => ((dynamoref1_In.f t188 t189 t191 t192).bind fun t239 => (if (t238 == t239) = true then ((span_Clamp.f t188 t189 a2 a3).bind fun bt240 => ((dynamoref1_ClampSpan.f t188 t189 a2 a3).bind fun bt242 => ((dynamoref_SameSpan.f bt240.1 bt240.2 bt242.1 bt242.2).bind fun t244 => (some t244)))) else (some false)))) else (some false)) = some true := H
           have A44 := Aside0.mk A440
           clear A440
           by_cases c45 : (t236 == t237) = true
           ·rw [if_pos c45] at H
            have c45b0 : (t236 == t237) = true := c45
            (try (have c45b1 : decide (t236 = t237) = true := by simpa using c45))
            (try (have c45b2 : (t236 == t237) = true := by simpa using c45))
            clear c45
            replace H := Option.bind_eq_some_iff.mp H
            obtain ⟨t238, A460, H⟩ := H
            replace H : ((dynamoref1_In.f t188 t189 t191 t192).bind fun t239 => (if (t238 == t239) = true then ((span_Clamp.f t188 t189 a2 a3).bind fun bt240 => ((dynamoref1_ClampSpan.f t188 t189 a2 a3).bind fun bt242 => ((dynamoref_SameSpan.f bt240.1 bt240.2 bt242.1 bt242.2).bind fun t244 => (some t244)))) else (some false))) = some true := H
            have A46 := Aside0.mk A460
            clear A460
            replace H := Option.bind_eq_some_iff.mp H
            obtain ⟨t239, A470, H⟩ := H
            replace H : (if (t238 == t239) = true then ((span_Clamp.f t188 t189 a2 a3).bind fun bt240 => ((dynamoref1_ClampSpan.f t188 t189 a2 a3).bind fun bt242 => ((dynamoref_SameSpan.f bt240.1 bt240.2 bt242.1 bt242.2).bind fun t244 => (some t244)))) else (some false)) = some true := H
            have A47 := Aside0.mk A470
            clear A470
            by_cases c48 : (t238 == t239) = true
            ·rw [if_pos c48] at H
             have c48b0 : (t238 == t239) = true := c48
             (try (have c48b1 : decide (t238 = t239) = true := by simpa using c48))
             (try (have c48b2 : (t238 == t239) = true := by simpa using c48))
             clear c48
             replace H := Option.bind_eq_some_iff.mp H
             obtain ⟨⟨t240, t241⟩, A490, H⟩ := H
             replace H : ((dynamoref1_ClampSpan.f t188 t189 a2 a3).bind fun bt242 => ((dynamoref_SameSpan.f t240 t241 bt242.1 bt242.2).bind fun t244 => (some t244))) = some true := H
             have A49 := Aside0.mk A490
             clear A490
             replace H := Option.bind_eq_some_iff.mp H
             obtain ⟨⟨t242, t243⟩, A500, H⟩ := H
             replace H : ((dynamoref_SameSpan.f t240 t241 t242 t243).bind fun t244 => (some t244)) = some true := H
             have A50 := Aside0.mk A500
             clear A500
             replace H := Option.bind_eq_some_iff.mp H
             obtain ⟨t244, A510, H⟩ := H
             replace H : (some t244) = some true := H
             have A51 := Aside0.mk A510
             clear A510
             have HLAST := Aside0.mk (Option.some.inj H)
             clear H
             go_enter Try.func11, Try.ntmps11
             try go_wp2_with (first | ((with_reducible refine gate_callee (f := 12) rfl ?_); refine goesL_ (some 20) rfl rfl Try.func12 (by kernel_rfl) rfl #[] rfl (by (try simp only [List.map_toArray, List.map_cons, List.map_nil]); first | done | rfl | (simp only [List.length_drop, List.length_take]; rfl)) ?_; (with_reducible refine (dynamolaw2_first.calls  true _ A7.out).mono ?_); rintro e w52 ⟨rfl, hb⟩; refine ⟨_, rfl, ?_⟩; have n0_ := Aside0.mk (below_step (by repeat (first | (with_reducible first | exact HB.out | apply below_alloc | apply pw_below_drewN | apply below_drew1) | exact HB.out)) hb); clear HB; have HB := n0_; clear n0_; (try clear hb); (try clear hb2); (try clear hk); (try clear hi)) | ((with_reducible refine gate_callee (f := 42) rfl ?_); refine goesL_ (some 25) rfl rfl Try.func42 (by kernel_rfl) rfl #[.int .i64 a0, .int .i64 a1] rfl (by (try simp only [List.map_toArray, List.map_cons, List.map_nil]); first | done | rfl | (simp only [List.length_drop, List.length_take]; rfl)) ?_; (with_reducible refine (dynamoref1_Of.calls a0 a1 t188 t189 _ A9.out).mono ?_); rintro e w53 ⟨rfl, hb⟩; refine ⟨_, rfl, ?_⟩; have n0_ := Aside0.mk (below_step (by repeat (first | (with_reducible first | exact HB.out | apply below_alloc | apply pw_below_drewN | apply below_drew1) | exact HB.out)) hb); clear HB; have HB := n0_; clear n0_; (try clear hb); (try clear hb2); (try clear hk); (try clear hi)) | ((with_reducible refine gate_dst (N := 14) rfl ?_); refine box_event ?hg (N := 14) ?hd (cs := #[.int .i64 0, .int .i64 0]) (t := 24) ?hr ?_; (case hd => rfl); (case hg => rfl); (case hr => first | (go_simp; done) | (go_simp; rfl)); intro gb190 hg w54 hbox hb; have n0_ := Aside0.mk (below_step (by repeat (first | (with_reducible first | exact HB.out | apply below_alloc | apply pw_below_drewN | apply below_drew1) | exact HB.out)) hb); have n1_ := Aside0.mk (hbox); have n2_ := Aside0.mk ((by rw [hg]; exact (below_size (by repeat (first | (with_reducible first | exact HB.out | apply below_alloc | apply pw_below_drewN | apply below_drew1) | exact HB.out))) : w.heap.size ≤ gb190)); have n3_ := Aside0.mk ((by rw [hg]; exact (below_size (by repeat (first | (with_reducible first | exact HB.out | apply below_alloc | apply pw_below_drewN | apply below_drew1) | exact HB.out))) : w.heap.size ≤ gb190)); clear HB; have HB := n0_; have BK190 := n1_; have GW190 := n2_; have GE190 := n3_; clear n0_ n1_ n2_ n3_; clear hb hbox hg; have hcz55_0 : w54.cell? ⟨gb190, 0, none⟩ = some (.int .i64 0) := (blk_cell BK190.out 0).trans rfl; have hcz55_1 : w54.cell? ⟨gb190, 1, none⟩ = some (.int .i64 0) := (blk_cell BK190.out 1).trans rfl; have hfz55_0 := blk_frozen BK190.out 0; have hfz55_1 := blk_frozen BK190.out 1) | ((with_reducible refine gate_callee (f := 42) rfl ?_); refine goesL_ (some 28) rfl rfl Try.func42 (by kernel_rfl) rfl #[.int .i64 a2, .int .i64 a3] rfl (by (try simp only [List.map_toArray, List.map_cons, List.map_nil]); first | done | rfl | (simp only [List.length_drop, List.length_take]; rfl)) ?_; (with_reducible refine (dynamoref1_Of.calls a2 a3 t191 t192 _ A10.out).mono ?_); rintro e w56 ⟨rfl, hb⟩; refine ⟨_, rfl, ?_⟩; have n0_ := Aside0.mk (blk_below (g := gb190) (o := .cells #[.int .i64 t188, .int .i64 t189] 24 (0, 0)) (by (with_reducible repeat (first | refine blk_drewN ?_ _ | refine blk_drew ?_ | refine blk_alloc ?_ _)); refine blk_put (cs := #[.int .i64 t188, .int .i64 0]) ?_ 1 _ rfl; (with_reducible repeat (first | refine blk_drewN ?_ _ | refine blk_drew ?_ | refine blk_alloc ?_ _)); refine blk_put (cs := #[.int .i64 0, .int .i64 0]) ?_ 0 _ rfl; (with_reducible repeat (first | refine blk_drewN ?_ _ | refine blk_drew ?_ | refine blk_alloc ?_ _)); exact BK190.out) hb); have n1_ := Aside0.mk (below_step (by repeat (first | (with_reducible first | exact HB.out | apply below_alloc | apply pw_below_drewN | apply below_drew1 | refine below_set ?_ GE190.out) | exact HB.out)) hb); clear BK190; clear HB; have BK190 := n0_; have HB := n1_; clear n0_ n1_; (try clear hb); (try clear hb2); (try clear hk); (try clear hi)) | ((with_reducible refine gate_dst (N := 15) rfl ?_); refine box_event ?hg (N := 15) ?hd (cs := #[.int .i64 0, .int .i64 0]) (t := 24) ?hr ?_; (case hd => rfl); (case hg => rfl); (case hr => first | (go_simp; done) | (go_simp; rfl)); intro gb193 hg w57 hbox hb; have n0_ := Aside0.mk (blk_below (g := gb190) (o := .cells #[.int .i64 t188, .int .i64 t189] 24 (0, 0)) (by (with_reducible repeat (first | refine blk_drewN ?_ _ | refine blk_drew ?_ | refine blk_alloc ?_ _)); exact BK190.out) hb); have n1_ := Aside0.mk (below_step (by repeat (first | (with_reducible first | exact HB.out | apply below_alloc | apply pw_below_drewN | apply below_drew1 | refine below_set ?_ GE190.out) | exact HB.out)) hb); have n2_ := Aside0.mk (hbox); have n3_ := Aside0.mk ((by rw [hg]; exact (below_size (by repeat (first | (with_reducible first | exact HB.out | apply below_alloc | apply pw_below_drewN | apply below_drew1 | refine below_set ?_ GE190.out) | exact HB.out))) : w.heap.size ≤ gb193)); have n4_ := Aside0.mk ((by rw [hg]; exact (below_size (by repeat (first | (with_reducible first | exact HB.out | apply below_alloc | apply pw_below_drewN | apply below_drew1 | refine below_set ?_ GE190.out) | exact HB.out))) : w.heap.size ≤ gb193)); have n5_ := Aside0.mk ((by rw [hg]; exact Nat.ne_of_lt (blk_lt (g := gb190) (o := .cells #[.int .i64 t188, .int .i64 t189] 24 (0, 0)) (by (with_reducible repeat (first | refine blk_drewN ?_ _ | refine blk_drew ?_ | refine blk_alloc ?_ _)); exact BK190.out)) : gb190 ≠ gb193)); have n6_ := Aside0.mk ((by rw [hg]; exact Nat.ne_of_gt (blk_lt (g := gb190) (o := .cells #[.int .i64 t188, .int .i64 t189] 24 (0, 0)) (by (with_reducible repeat (first | refine blk_drewN ?_ _ | refine blk_drew ?_ | refine blk_alloc ?_ _)); exact BK190.out)) : gb193 ≠ gb190)); clear BK190; clear HB; have BK190 := n0_; have HB := n1_; have BK193 := n2_; have GW193 := n3_; have GE193 := n4_; have NB190_193 := n5_; have NB193_190 := n6_; clear n0_ n1_ n2_ n3_ n4_ n5_ n6_; clear hb hbox hg; have hnb58 := NB193_190.out; have hnc58 := NB190_193.out; have hcz59_0 : w57.cell? ⟨gb193, 0, none⟩ = some (.int .i64 0) := (blk_cell BK193.out 0).trans rfl; have hcz59_1 : w57.cell? ⟨gb193, 1, none⟩ = some (.int .i64 0) := (blk_cell BK193.out 1).trans rfl; have hfz59_0 := blk_frozen BK193.out 0; have hfz59_1 := blk_frozen BK193.out 1; have hcz60_0 : w57.cell? ⟨gb190, 0, none⟩ = some (.int .i64 t188) := (blk_cell BK190.out 0).trans rfl; have hcz60_1 : w57.cell? ⟨gb190, 1, none⟩ = some (.int .i64 t189) := (blk_cell BK190.out 1).trans rfl; have hfz60_0 := blk_frozen BK190.out 0; have hfz60_1 := blk_frozen BK190.out 1) | ((with_reducible refine gate_callee (f := 14) rfl ?_); refine goesL_ (some 32) rfl rfl Try.func14 (by kernel_rfl) rfl #[.agg #[.int .i64 t188, .int .i64 t189], .agg #[.int .i64 t191, .int .i64 t192]] rfl (by (try simp only [List.map_toArray, List.map_cons, List.map_nil]); first | done | rfl | (simp only [List.length_drop, List.length_take]; rfl)) ?_; (with_reducible refine (span_Meet.calls t188 t189 t191 t192 t194 t195 t196 _ A11.out).mono ?_); rintro e w61 ⟨rfl, hb⟩; refine ⟨_, rfl, ?_⟩; have n0_ := Aside0.mk (blk_below (g := gb190) (o := .cells #[.int .i64 t188, .int .i64 t189] 24 (0, 0)) (by (with_reducible repeat (first | refine blk_drewN ?_ _ | refine blk_drew ?_ | refine blk_alloc ?_ _)); refine blk_far ?_ NB190_193.out _; (with_reducible repeat (first | refine blk_drewN ?_ _ | refine blk_drew ?_ | refine blk_alloc ?_ _)); refine blk_far ?_ NB190_193.out _; (with_reducible repeat (first | refine blk_drewN ?_ _ | refine blk_drew ?_ | refine blk_alloc ?_ _)); exact BK190.out) hb); have n1_ := Aside0.mk (blk_below (g := gb193) (o := .cells #[.int .i64 t191, .int .i64 t192] 24 (0, 0)) (by (with_reducible repeat (first | refine blk_drewN ?_ _ | refine blk_drew ?_ | refine blk_alloc ?_ _)); refine blk_put (cs := #[.int .i64 t191, .int .i64 0]) ?_ 1 _ rfl; (with_reducible repeat (first | refine blk_drewN ?_ _ | refine blk_drew ?_ | refine blk_alloc ?_ _)); refine blk_put (cs := #[.int .i64 0, .int .i64 0]) ?_ 0 _ rfl; (with_reducible repeat (first | refine blk_drewN ?_ _ | refine blk_drew ?_ | refine blk_alloc ?_ _)); exact BK193.out) hb); have n2_ := Aside0.mk (below_step (by repeat (first | (with_reducible first | exact HB.out | apply below_alloc | apply pw_below_drewN | apply below_drew1 | refine below_set ?_ GE190.out | refine below_set ?_ GE193.out) | exact HB.out)) hb); clear BK190; clear BK193; clear HB; have BK190 := n0_; have BK193 := n1_; have HB := n2_; clear n0_ n1_ n2_; (try clear hb); (try clear hb2); (try clear hk); (try clear hi)) | ((with_reducible refine gate_dst (N := 16) rfl ?_); refine box_event ?hg (N := 16) ?hd (cs := #[.int .i64 0, .int .i64 0]) (t := 24) ?hr ?_; (case hd => rfl); (case hg => rfl); (case hr => first | (go_simp; done) | (go_simp; rfl)); intro gb197 hg w62 hbox hb; have n0_ := Aside0.mk (blk_below (g := gb190) (o := .cells #[.int .i64 t188, .int .i64 t189] 24 (0, 0)) (by (with_reducible repeat (first | refine blk_drewN ?_ _ | refine blk_drew ?_ | refine blk_alloc ?_ _)); exact BK190.out) hb); have n1_ := Aside0.mk (blk_below (g := gb193) (o := .cells #[.int .i64 t191, .int .i64 t192] 24 (0, 0)) (by (with_reducible repeat (first | refine blk_drewN ?_ _ | refine blk_drew ?_ | refine blk_alloc ?_ _)); exact BK193.out) hb); have n2_ := Aside0.mk (below_step (by repeat (first | (with_reducible first | exact HB.out | apply below_alloc | apply pw_below_drewN | apply below_drew1 | refine below_set ?_ GE190.out | refine below_set ?_ GE193.out) | exact HB.out)) hb); have n3_ := Aside0.mk (hbox); have n4_ := Aside0.mk ((by rw [hg]; exact (below_size (by repeat (first | (with_reducible first | exact HB.out | apply below_alloc | apply pw_below_drewN | apply below_drew1 | refine below_set ?_ GE190.out | refine below_set ?_ GE193.out) | exact HB.out))) : w.heap.size ≤ gb197)); have n5_ := Aside0.mk ((by rw [hg]; exact (below_size (by repeat (first | (with_reducible first | exact HB.out | apply below_alloc | apply pw_below_drewN | apply below_drew1 | refine below_set ?_ GE190.out | refine below_set ?_ GE193.out) | exact HB.out))) : w.heap.size ≤ gb197)); have n6_ := Aside0.mk ((by rw [hg]; exact Nat.ne_of_lt (blk_lt (g := gb190) (o := .cells #[.int .i64 t188, .int .i64 t189] 24 (0, 0)) (by (with_reducible repeat (first | refine blk_drewN ?_ _ | refine blk_drew ?_ | refine blk_alloc ?_ _)); exact BK190.out)) : gb190 ≠ gb197)); have n7_ := Aside0.mk ((by rw [hg]; exact Nat.ne_of_gt (blk_lt (g := gb190) (o := .cells #[.int .i64 t188, .int .i64 t189] 24 (0, 0)) (by (with_reducible repeat (first | refine blk_drewN ?_ _ | refine blk_drew ?_ | refine blk_alloc ?_ _)); exact BK190.out)) : gb197 ≠ gb190)); have n8_ := Aside0.mk ((by rw [hg]; exact Nat.ne_of_lt (blk_lt (g := gb193) (o := .cells #[.int .i64 t191, .int .i64 t192] 24 (0, 0)) (by (with_reducible repeat (first | refine blk_drewN ?_ _ | refine blk_drew ?_ | refine blk_alloc ?_ _)); exact BK193.out)) : gb193 ≠ gb197)); have n9_ := Aside0.mk ((by rw [hg]; exact Nat.ne_of_gt (blk_lt (g := gb193) (o := .cells #[.int .i64 t191, .int .i64 t192] 24 (0, 0)) (by (with_reducible repeat (first | refine blk_drewN ?_ _ | refine blk_drew ?_ | refine blk_alloc ?_ _)); exact BK193.out)) : gb197 ≠ gb193)); clear BK190; clear BK193; clear HB; have BK190 := n0_; have BK193 := n1_; have HB := n2_; have BK197 := n3_; have GW197 := n4_; have GE197 := n5_; have NB190_197 := n6_; have NB197_190 := n7_; have NB193_197 := n8_; have NB197_193 := n9_; clear n0_ n1_ n2_ n3_ n4_ n5_ n6_ n7_ n8_ n9_; clear hb hbox hg; have hnb63 := NB197_190.out; have hnc63 := NB190_197.out; have hnb64 := NB197_193.out; have hnc64 := NB193_197.out; have hcz65_0 : w62.cell? ⟨gb197, 0, none⟩ = some (.int .i64 0) := (blk_cell BK197.out 0).trans rfl; have hcz65_1 : w62.cell? ⟨gb197, 1, none⟩ = some (.int .i64 0) := (blk_cell BK197.out 1).trans rfl; have hfz65_0 := blk_frozen BK197.out 0; have hfz65_1 := blk_frozen BK197.out 1; have hcz66_0 : w62.cell? ⟨gb190, 0, none⟩ = some (.int .i64 t188) := (blk_cell BK190.out 0).trans rfl; have hcz66_1 : w62.cell? ⟨gb190, 1, none⟩ = some (.int .i64 t189) := (blk_cell BK190.out 1).trans rfl; have hfz66_0 := blk_frozen BK190.out 0; have hfz66_1 := blk_frozen BK190.out 1; have hcz67_0 : w62.cell? ⟨gb193, 0, none⟩ = some (.int .i64 t191) := (blk_cell BK193.out 0).trans rfl; have hcz67_1 : w62.cell? ⟨gb193, 1, none⟩ = some (.int .i64 t192) := (blk_cell BK193.out 1).trans rfl; have hfz67_0 := blk_frozen BK193.out 0; have hfz67_1 := blk_frozen BK193.out 1) | ((with_reducible refine gate_callee (f := 43) rfl ?_); refine goesL_ (some 38) rfl rfl Try.func43 (by kernel_rfl) rfl #[.agg #[.int .i64 t188, .int .i64 t189], .agg #[.int .i64 t191, .int .i64 t192]] rfl (by (try simp only [List.map_toArray, List.map_cons, List.map_nil]); first | done | rfl | (simp only [List.length_drop, List.length_take]; rfl)) ?_; (with_reducible refine (dynamoref1_Meet.calls t188 t189 t191 t192 t198 t199 t200 _ A12.out).mono ?_); rintro e w68 ⟨rfl, hb⟩; refine ⟨_, rfl, ?_⟩; have n0_ := Aside0.mk (blk_below (g := gb190) (o := .cells #[.int .i64 t188, .int .i64 t189] 24 (0, 0)) (by (with_reducible repeat (first | refine blk_drewN ?_ _ | refine blk_drew ?_ | refine blk_alloc ?_ _)); refine blk_far ?_ NB190_197.out _; (with_reducible repeat (first | refine blk_drewN ?_ _ | refine blk_drew ?_ | refine blk_alloc ?_ _)); refine blk_far ?_ NB190_197.out _; (with_reducible repeat (first | refine blk_drewN ?_ _ | refine blk_drew ?_ | refine blk_alloc ?_ _)); exact BK190.out) hb); have n1_ := Aside0.mk (blk_below (g := gb193) (o := .cells #[.int .i64 t191, .int .i64 t192] 24 (0, 0)) (by (with_reducible repeat (first | refine blk_drewN ?_ _ | refine blk_drew ?_ | refine blk_alloc ?_ _)); refine blk_far ?_ NB193_197.out _; (with_reducible repeat (first | refine blk_drewN ?_ _ | refine blk_drew ?_ | refine blk_alloc ?_ _)); refine blk_far ?_ NB193_197.out _; (with_reducible repeat (first | refine blk_drewN ?_ _ | refine blk_drew ?_ | refine blk_alloc ?_ _)); exact BK193.out) hb); have n2_ := Aside0.mk (blk_below (g := gb197) (o := .cells #[.int .i64 t194, .int .i64 t195] 24 (0, 0)) (by (with_reducible repeat (first | refine blk_drewN ?_ _ | refine blk_drew ?_ | refine blk_alloc ?_ _)); refine blk_put (cs := #[.int .i64 t194, .int .i64 0]) ?_ 1 _ rfl; (with_reducible repeat (first | refine blk_drewN ?_ _ | refine blk_drew ?_ | refine blk_alloc ?_ _)); refine blk_put (cs := #[.int .i64 0, .int .i64 0]) ?_ 0 _ rfl; (with_reducible repeat (first | refine blk_drewN ?_ _ | refine blk_drew ?_ | refine blk_alloc ?_ _)); exact BK197.out) hb); have n3_ := Aside0.mk (below_step (by repeat (first | (with_reducible first | exact HB.out | apply below_alloc | apply pw_below_drewN | apply below_drew1 | refine below_set ?_ GE190.out | refine below_set ?_ GE193.out | refine below_set ?_ GE197.out) | exact HB.out)) hb); clear BK190; clear BK193; clear BK197; clear HB; have BK190 := n0_; have BK193 := n1_; have BK197 := n2_; have HB := n3_; clear n0_ n1_ n2_ n3_; (try clear hb); (try clear hb2); (try clear hk); (try clear hi)) | ((with_reducible refine gate_dst (N := 18) rfl ?_); refine box_event ?hg (N := 18) ?hd (cs := #[.int .i64 0, .int .i64 0]) (t := 24) ?hr ?_; (case hd => rfl); (case hg => rfl); (case hr => first | (go_simp; done) | (go_simp; rfl)); intro gb201 hg w69 hbox hb; have n0_ := Aside0.mk (blk_below (g := gb190) (o := .cells #[.int .i64 t188, .int .i64 t189] 24 (0, 0)) (by (with_reducible repeat (first | refine blk_drewN ?_ _ | refine blk_drew ?_ | refine blk_alloc ?_ _)); exact BK190.out) hb); have n1_ := Aside0.mk (blk_below (g := gb193) (o := .cells #[.int .i64 t191, .int .i64 t192] 24 (0, 0)) (by (with_reducible repeat (first | refine blk_drewN ?_ _ | refine blk_drew ?_ | refine blk_alloc ?_ _)); exact BK193.out) hb); have n2_ := Aside0.mk (blk_below (g := gb197) (o := .cells #[.int .i64 t194, .int .i64 t195] 24 (0, 0)) (by (with_reducible repeat (first | refine blk_drewN ?_ _ | refine blk_drew ?_ | refine blk_alloc ?_ _)); exact BK197.out) hb); have n3_ := Aside0.mk (below_step (by repeat (first | (with_reducible first | exact HB.out | apply below_alloc | apply pw_below_drewN | apply below_drew1 | refine below_set ?_ GE190.out | refine below_set ?_ GE193.out | refine below_set ?_ GE197.out) | exact HB.out)) hb); have n4_ := Aside0.mk (hbox); have n5_ := Aside0.mk ((by rw [hg]; exact (below_size (by repeat (first | (with_reducible first | exact HB.out | apply below_alloc | apply pw_below_drewN | apply below_drew1 | refine below_set ?_ GE190.out | refine below_set ?_ GE193.out | refine below_set ?_ GE197.out) | exact HB.out))) : w.heap.size ≤ gb201)); have n6_ := Aside0.mk ((by rw [hg]; exact (below_size (by repeat (first | (with_reducible first | exact HB.out | apply below_alloc | apply pw_below_drewN | apply below_drew1 | refine below_set ?_ GE190.out | refine below_set ?_ GE193.out | refine below_set ?_ GE197.out) | exact HB.out))) : w.heap.size ≤ gb201)); have n7_ := Aside0.mk ((by rw [hg]; exact Nat.ne_of_lt (blk_lt (g := gb190) (o := .cells #[.int .i64 t188, .int .i64 t189] 24 (0, 0)) (by (with_reducible repeat (first | refine blk_drewN ?_ _ | refine blk_drew ?_ | refine blk_alloc ?_ _)); exact BK190.out)) : gb190 ≠ gb201)); have n8_ := Aside0.mk ((by rw [hg]; exact Nat.ne_of_gt (blk_lt (g := gb190) (o := .cells #[.int .i64 t188, .int .i64 t189] 24 (0, 0)) (by (with_reducible repeat (first | refine blk_drewN ?_ _ | refine blk_drew ?_ | refine blk_alloc ?_ _)); exact BK190.out)) : gb201 ≠ gb190)); have n9_ := Aside0.mk ((by rw [hg]; exact Nat.ne_of_lt (blk_lt (g := gb193) (o := .cells #[.int .i64 t191, .int .i64 t192] 24 (0, 0)) (by (with_reducible repeat (first | refine blk_drewN ?_ _ | refine blk_drew ?_ | refine blk_alloc ?_ _)); exact BK193.out)) : gb193 ≠ gb201)); have n10_ := Aside0.mk ((by rw [hg]; exact Nat.ne_of_gt (blk_lt (g := gb193) (o := .cells #[.int .i64 t191, .int .i64 t192] 24 (0, 0)) (by (with_reducible repeat (first | refine blk_drewN ?_ _ | refine blk_drew ?_ | refine blk_alloc ?_ _)); exact BK193.out)) : gb201 ≠ gb193)); have n11_ := Aside0.mk ((by rw [hg]; exact Nat.ne_of_lt (blk_lt (g := gb197) (o := .cells #[.int .i64 t194, .int .i64 t195] 24 (0, 0)) (by (with_reducible repeat (first | refine blk_drewN ?_ _ | refine blk_drew ?_ | refine blk_alloc ?_ _)); exact BK197.out)) : gb197 ≠ gb201)); have n12_ := Aside0.mk ((by rw [hg]; exact Nat.ne_of_gt (blk_lt (g := gb197) (o := .cells #[.int .i64 t194, .int .i64 t195] 24 (0, 0)) (by (with_reducible repeat (first | refine blk_drewN ?_ _ | refine blk_drew ?_ | refine blk_alloc ?_ _)); exact BK197.out)) : gb201 ≠ gb197)); clear BK190; clear BK193; clear BK197; clear HB; have BK190 := n0_; have BK193 := n1_; have BK197 := n2_; have HB := n3_; have BK201 := n4_; have GW201 := n5_; have GE201 := n6_; have NB190_201 := n7_; have NB201_190 := n8_; have NB193_201 := n9_; have NB201_193 := n10_; have NB197_201 := n11_; have NB201_197 := n12_; clear n0_ n1_ n2_ n3_ n4_ n5_ n6_ n7_ n8_ n9_ n10_ n11_ n12_; clear hb hbox hg; have hnb70 := NB201_190.out; have hnc70 := NB190_201.out; have hnb71 := NB201_193.out; have hnc71 := NB193_201.out; have hnb72 := NB201_197.out; have hnc72 := NB197_201.out; have hcz73_0 : w69.cell? ⟨gb201, 0, none⟩ = some (.int .i64 0) := (blk_cell BK201.out 0).trans rfl; have hcz73_1 : w69.cell? ⟨gb201, 1, none⟩ = some (.int .i64 0) := (blk_cell BK201.out 1).trans rfl; have hfz73_0 := blk_frozen BK201.out 0; have hfz73_1 := blk_frozen BK201.out 1))
             have n0_ : Aside0 (((w69.setCell ⟨gb201, 0, none⟩ (.int .i64 t198)).setCell ⟨gb201, 1, none⟩ (.int .i64 t199)).heap[gb190]? = some (.cells #[.int .i64 t188, .int .i64 t189] 24 (0, 0))) := ⟨by (with_reducible repeat (first | refine blk_drewN ?_ _ | refine blk_drew ?_ | refine blk_alloc ?_ _)); refine blk_far ?_ NB190_201.out _; (with_reducible repeat (first | refine blk_drewN ?_ _ | refine blk_drew ?_ | refine blk_alloc ?_ _)); refine blk_far ?_ NB190_201.out _; (with_reducible repeat (first | refine blk_drewN ?_ _ | refine blk_drew ?_ | refine blk_alloc ?_ _)); exact BK190.out⟩
             have n1_ : Aside0 (((w69.setCell ⟨gb201, 0, none⟩ (.int .i64 t198)).setCell ⟨gb201, 1, none⟩ (.int .i64 t199)).heap[gb193]? = some (.cells #[.int .i64 t191, .int .i64 t192] 24 (0, 0))) := ⟨by (with_reducible repeat (first | refine blk_drewN ?_ _ | refine blk_drew ?_ | refine blk_alloc ?_ _)); refine blk_far ?_ NB193_201.out _; (with_reducible repeat (first | refine blk_drewN ?_ _ | refine blk_drew ?_ | refine blk_alloc ?_ _)); refine blk_far ?_ NB193_201.out _; (with_reducible repeat (first | refine blk_drewN ?_ _ | refine blk_drew ?_ | refine blk_alloc ?_ _)); exact BK193.out⟩
             have n2_ : Aside0 (((w69.setCell ⟨gb201, 0, none⟩ (.int .i64 t198)).setCell ⟨gb201, 1, none⟩ (.int .i64 t199)).heap[gb197]? = some (.cells #[.int .i64 t194, .int .i64 t195] 24 (0, 0))) := ⟨by (with_reducible repeat (first | refine blk_drewN ?_ _ | refine blk_drew ?_ | refine blk_alloc ?_ _)); refine blk_far ?_ NB197_201.out _; (with_reducible repeat (first | refine blk_drewN ?_ _ | refine blk_drew ?_ | refine blk_alloc ?_ _)); refine blk_far ?_ NB197_201.out _; (with_reducible repeat (first | refine blk_drewN ?_ _ | refine blk_drew ?_ | refine blk_alloc ?_ _)); exact BK197.out⟩
             have n3_ : Aside0 (((w69.setCell ⟨gb201, 0, none⟩ (.int .i64 t198)).setCell ⟨gb201, 1, none⟩ (.int .i64 t199)).heap[gb201]? = some (.cells #[.int .i64 t198, .int .i64 t199] 24 (0, 0))) := ⟨by (with_reducible repeat (first | refine blk_drewN ?_ _ | refine blk_drew ?_ | refine blk_alloc ?_ _)); refine blk_put (cs := #[.int .i64 t198, .int .i64 0]) ?_ 1 _ rfl; (with_reducible repeat (first | refine blk_drewN ?_ _ | refine blk_drew ?_ | refine blk_alloc ?_ _)); refine blk_put (cs := #[.int .i64 0, .int .i64 0]) ?_ 0 _ rfl; (with_reducible repeat (first | refine blk_drewN ?_ _ | refine blk_drew ?_ | refine blk_alloc ?_ _)); exact BK201.out⟩
             have n4_ : Aside0 (Below w.heap.size w ((w69.setCell ⟨gb201, 0, none⟩ (.int .i64 t198)).setCell ⟨gb201, 1, none⟩ (.int .i64 t199))) := ⟨by repeat (first | (with_reducible first | exact HB.out | apply below_alloc | apply pw_below_drewN | apply below_drew1 | refine below_set ?_ GE190.out | refine below_set ?_ GE193.out | refine below_set ?_ GE197.out | refine below_set ?_ GE201.out) | exact HB.out)⟩
             (try clear BK190)
             (try clear BK193)
             (try clear BK197)
             (try clear BK201)
             (try clear HB)
             generalize ((w69.setCell ⟨gb201, 0, none⟩ (.int .i64 t198)).setCell ⟨gb201, 1, none⟩ (.int .i64 t199)) = w74 at n0_ n1_ n2_ n3_ n4_ ⊢
             have BK190 := n0_
             have BK193 := n1_
             have BK197 := n2_
             have BK201 := n3_
             have HB := n4_
             clear n0_ n1_ n2_ n3_ n4_
             have n0_ := Aside0.mk (blk_drew BK190.out)
             have n1_ := Aside0.mk (blk_drew BK193.out)
             have n2_ := Aside0.mk (blk_drew BK197.out)
             have n3_ := Aside0.mk (blk_drew BK201.out)
             have n4_ := Aside0.mk (below_drew1 HB.out)
             clear BK190
             clear BK193
             clear BK197
             clear BK201
             clear HB
             have BK190 := n0_
             have BK193 := n1_
             have BK197 := n2_
             have BK201 := n3_
             have HB := n4_
             clear n0_ n1_ n2_ n3_ n4_
             refine start_ (n := 102) (S := fun w' => w'.cell? ⟨gb190, 0, none⟩ = some (.int .i64 t188) ∧ w'.cell? ⟨gb190, 1, none⟩ = some (.int .i64 t189) ∧ w'.cell? ⟨gb193, 0, none⟩ = some (.int .i64 t191) ∧ w'.cell? ⟨gb193, 1, none⟩ = some (.int .i64 t192) ∧ w'.cell? ⟨gb197, 0, none⟩ = some (.int .i64 t194) ∧ w'.cell? ⟨gb197, 1, none⟩ = some (.int .i64 t195) ∧ w'.cell? ⟨gb201, 0, none⟩ = some (.int .i64 t198) ∧ w'.cell? ⟨gb201, 1, none⟩ = some (.int .i64 t199)) (ds := []) #[false, false, false, false, false, false, false, false, false, false, false, false, false, false, false, false, false, false, false, false, false, false, false, false, false, false, false, false, false, false, false, false, false, false, false, false, false, false, false, false, false, false, false, false, false, false, false, false, false, false, false, false, false, false, false, false, false, false, false, false, false, false, false, false, false, false, false, false, false, false, false, false, false, false, false, false, false, false, false, false, false, false, false, false, false, false, false, false, false, false, false, false, false, false, false, false, false, false, false, false, false, false] (by kernel_rfl) rfl rfl ⟨(blk_cell BK190.out 0).trans rfl, (blk_cell BK190.out 1).trans rfl, (blk_cell BK193.out 0).trans rfl, (blk_cell BK193.out 1).trans rfl, (blk_cell BK197.out 0).trans rfl, (blk_cell BK197.out 1).trans rfl, (blk_cell BK201.out 0).trans rfl, (blk_cell BK201.out 1).trans rfl⟩ (fun hHeld => ?_); refine with_tabW dynamolaw2_SpanSays.tab8 dynamolaw2_SpanSays.bits8 (fun HT_ HW_ => ?_)
             generalize w74.drew = w75 at BK190 BK193 BK197 BK201 HB hHeld ⊢
             refine pure_ (i := 0) (N := some 41) (v := ?_) (a' := ?_) #[true, false, false, false, false, false, false, false, false, false, false, false, false, false, false, false, false, false, false, false, false, false, false, false, false, false, false, false, false, false, false, false, false, false, false, false, false, false, false, false, false, false, false, false, false, false, false, false, false, false, false, false, false, false, false, false, false, false, false, false, false, false, false, false, false, false, false, false, false, false, false, false, false, false, false, false, false, false, false, false, false, false, false, false, false, false, false, false, false, false, false, false, false, false, false, false, false, false, false, false, false, false] rfl rfl (any_of HT_.out (by kernel_rfl)) (fun _ _ _ h => h) (Or.inl ⟨by rfl, ?_⟩) ?_ ?_
             rotate_left
             ·intro w'
              go_simp
              with_reducible rfl
             rotate_left
             ·simp only [Act.put, List.setIfInBounds_toArray, List.set_cons_zero, List.set_cons_succ, i64_w, i32_w]
              rfl
             refine pure_ (i := 1) (N := some 42) (v := ?_) (a' := ?_) #[true, true, false, false, false, false, false, false, false, false, false, false, false, false, false, false, false, false, false, false, false, false, false, false, false, false, false, false, false, false, false, false, false, false, false, false, false, false, false, false, false, false, false, false, false, false, false, false, false, false, false, false, false, false, false, false, false, false, false, false, false, false, false, false, false, false, false, false, false, false, false, false, false, false, false, false, false, false, false, false, false, false, false, false, false, false, false, false, false, false, false, false, false, false, false, false, false, false, false, false, false, false] rfl rfl (any_of HT_.out (by kernel_rfl)) (fun _ _ _ h => h) (Or.inl ⟨by rfl, ?_⟩) ?_ ?_
             rotate_left
             ·intro w'
              go_simp
              with_reducible rfl
             rotate_left
             ·simp only [Act.put, List.setIfInBounds_toArray, List.set_cons_zero, List.set_cons_succ, i64_w, i32_w]
              rfl
             refine pure_ (i := 2) (N := some 43) (v := ?_) (a' := ?_) #[true, true, true, false, false, false, false, false, false, false, false, false, false, false, false, false, false, false, false, false, false, false, false, false, false, false, false, false, false, false, false, false, false, false, false, false, false, false, false, false, false, false, false, false, false, false, false, false, false, false, false, false, false, false, false, false, false, false, false, false, false, false, false, false, false, false, false, false, false, false, false, false, false, false, false, false, false, false, false, false, false, false, false, false, false, false, false, false, false, false, false, false, false, false, false, false, false, false, false, false, false, false] rfl rfl (any_of HT_.out (by kernel_rfl)) (fun _ _ _ h => h) (Or.inl ⟨by rfl, ?_⟩) ?_ ?_
             rotate_left
             ·intro w'
              go_simp
              with_reducible rfl
             rotate_left
             ·simp only [Act.put, List.setIfInBounds_toArray, List.set_cons_zero, List.set_cons_succ, i64_w, i32_w]
              rfl
             refine pure_ (i := 3) (N := some 44) (v := ?_) (a' := ?_) #[true, true, true, true, false, false, false, false, false, false, false, false, false, false, false, false, false, false, false, false, false, false, false, false, false, false, false, false, false, false, false, false, false, false, false, false, false, false, false, false, false, false, false, false, false, false, false, false, false, false, false, false, false, false, false, false, false, false, false, false, false, false, false, false, false, false, false, false, false, false, false, false, false, false, false, false, false, false, false, false, false, false, false, false, false, false, false, false, false, false, false, false, false, false, false, false, false, false, false, false, false, false] rfl rfl (any_of HT_.out (by kernel_rfl)) (fun _ _ _ h => h) (Or.inl ⟨by rfl, ?_⟩) ?_ ?_
             rotate_left
             ·intro w'
              go_simp
              with_reducible rfl
             rotate_left
             ·simp only [Act.put, List.setIfInBounds_toArray, List.set_cons_zero, List.set_cons_succ, i64_w, i32_w]
              rfl
             refine take_ (i := 5) (N := some 46) (v := ?_) (a' := ?_) #[true, true, true, true, false, true, false, false, false, false, false, false, false, false, false, false, false, false, false, false, false, false, false, false, false, false, false, false, false, false, false, false, false, false, false, false, false, false, false, false, false, false, false, false, false, false, false, false, false, false, false, false, false, false, false, false, false, false, false, false, false, false, false, false, false, false, false, false, false, false, false, false, false, false, false, false, false, false, false, false, false, false, false, false, false, false, false, false, false, false, false, false, false, false, false, false, false, false, false, false, false, false] rfl rfl (take_ofW HT_.out HW_.out (by kernel_rfl)) (fun _ _ _ h => h) (Or.inl ⟨by rfl, ?_⟩) hHeld ?_ ?_
             rotate_left
             ·rintro w' ⟨s0, s1, s2, s3, s4, s5, s6, s7⟩
              go_simp
              with_reducible rfl
             rotate_left
             ·simp only [Act.put, List.setIfInBounds_toArray, List.set_cons_zero, List.set_cons_succ, i64_w, i32_w]
              rfl
             refine one_ (i := 4) (N := some 45) #[true, true, true, true, true, true, false, false, false, false, false, false, false, false, false, false, false, false, false, false, false, false, false, false, false, false, false, false, false, false, false, false, false, false, false, false, false, false, false, false, false, false, false, false, false, false, false, false, false, false, false, false, false, false, false, false, false, false, false, false, false, false, false, false, false, false, false, false, false, false, false, false, false, false, false, false, false, false, false, false, false, false, false, false, false, false, false, false, false, false, false, false, false, false, false, false, false, false, false, false, false, false] rfl rfl (one_of HT_.out (by kernel_rfl)) (by decide) (fun K hK => ?_)
             refine goes_ Try.func13 (by kernel_rfl) rfl #[.int .i64 a0, .int .i64 a1] (by rfl) rfl rfl (by (try simp only [List.map_toArray, List.map_cons, List.map_nil]); first | done | rfl | (simp only [List.length_drop, List.length_take]; rfl)) ?_
             with_reducible refine (span_Of.calls a0 a1 t202 t203 _ A13.out).mono ?_
             rintro e w76 ⟨rfl, hb⟩
             refine ⟨_, rfl, ?_⟩
             have n0_ := Aside0.mk (blk_below (g := gb190) (o := .cells #[.int .i64 t188, .int .i64 t189] 24 (0, 0)) (by (with_reducible repeat (first | refine blk_drewN ?_ _ | refine blk_drew ?_ | refine blk_alloc ?_ _)); exact BK190.out) hb)
             have n1_ := Aside0.mk (blk_below (g := gb193) (o := .cells #[.int .i64 t191, .int .i64 t192] 24 (0, 0)) (by (with_reducible repeat (first | refine blk_drewN ?_ _ | refine blk_drew ?_ | refine blk_alloc ?_ _)); exact BK193.out) hb)
             have n2_ := Aside0.mk (blk_below (g := gb197) (o := .cells #[.int .i64 t194, .int .i64 t195] 24 (0, 0)) (by (with_reducible repeat (first | refine blk_drewN ?_ _ | refine blk_drew ?_ | refine blk_alloc ?_ _)); exact BK197.out) hb)
             have n3_ := Aside0.mk (blk_below (g := gb201) (o := .cells #[.int .i64 t198, .int .i64 t199] 24 (0, 0)) (by (with_reducible repeat (first | refine blk_drewN ?_ _ | refine blk_drew ?_ | refine blk_alloc ?_ _)); exact BK201.out) hb)
             have n4_ := Aside0.mk (below_step (by repeat (first | (with_reducible first | exact HB.out | apply below_alloc | apply pw_below_drewN | apply below_drew1 | refine below_set ?_ GE190.out | refine below_set ?_ GE193.out | refine below_set ?_ GE197.out | refine below_set ?_ GE201.out) | exact HB.out)) hb)
             clear BK190
             clear BK193
             clear BK197
             clear BK201
             clear HB
             have BK190 := n0_
             have BK193 := n1_
             have BK197 := n2_
             have BK201 := n3_
             have HB := n4_
             clear n0_ n1_ n2_ n3_ n4_
             (try clear hb)
             (try clear hb2)
             (try clear hk)
             (try clear hi)
             refine hK.out _ _ ⟨(blk_cell BK190.out 0).trans rfl, (blk_cell BK190.out 1).trans rfl, (blk_cell BK193.out 0).trans rfl, (blk_cell BK193.out 1).trans rfl, (blk_cell BK197.out 0).trans rfl, (blk_cell BK197.out 1).trans rfl, (blk_cell BK201.out 0).trans rfl, (blk_cell BK201.out 1).trans rfl⟩ (fun hHeld => ?_)
             clear hK K
             refine norm_ (a' := ?_) ?_ ?_
             rotate_left
             ·show Act.put _ (some 45) _ = _
              simp only [Act.put, List.setIfInBounds_toArray, List.set_cons_zero, List.set_cons_succ, i64_w, i32_w]
              rfl
             refine one_ (i := 6) (N := some 47) #[true, true, true, true, true, true, true, false, false, false, false, false, false, false, false, false, false, false, false, false, false, false, false, false, false, false, false, false, false, false, false, false, false, false, false, false, false, false, false, false, false, false, false, false, false, false, false, false, false, false, false, false, false, false, false, false, false, false, false, false, false, false, false, false, false, false, false, false, false, false, false, false, false, false, false, false, false, false, false, false, false, false, false, false, false, false, false, false, false, false, false, false, false, false, false, false, false, false, false, false, false, false] rfl rfl (one_of HT_.out (by kernel_rfl)) (by decide) (fun K hK => ?_)
             refine goes_ Try.func17 (by kernel_rfl) rfl #[.agg #[.int .i64 t202, .int .i64 t203], .agg #[.int .i64 t188, .int .i64 t189]] (by rfl) rfl rfl (by (try simp only [List.map_toArray, List.map_cons, List.map_nil]); first | done | rfl | (simp only [List.length_drop, List.length_take]; rfl)) ?_
             with_reducible refine (dynamoref_SameSpan.calls t202 t203 t188 t189 true _ A14.out).mono ?_
             rintro e w77 ⟨rfl, hb⟩
             refine ⟨_, rfl, ?_⟩
             have n0_ := Aside0.mk (blk_below (g := gb190) (o := .cells #[.int .i64 t188, .int .i64 t189] 24 (0, 0)) (by (with_reducible repeat (first | refine blk_drewN ?_ _ | refine blk_drew ?_ | refine blk_alloc ?_ _)); exact BK190.out) hb)
             have n1_ := Aside0.mk (blk_below (g := gb193) (o := .cells #[.int .i64 t191, .int .i64 t192] 24 (0, 0)) (by (with_reducible repeat (first | refine blk_drewN ?_ _ | refine blk_drew ?_ | refine blk_alloc ?_ _)); exact BK193.out) hb)
             have n2_ := Aside0.mk (blk_below (g := gb197) (o := .cells #[.int .i64 t194, .int .i64 t195] 24 (0, 0)) (by (with_reducible repeat (first | refine blk_drewN ?_ _ | refine blk_drew ?_ | refine blk_alloc ?_ _)); exact BK197.out) hb)
             have n3_ := Aside0.mk (blk_below (g := gb201) (o := .cells #[.int .i64 t198, .int .i64 t199] 24 (0, 0)) (by (with_reducible repeat (first | refine blk_drewN ?_ _ | refine blk_drew ?_ | refine blk_alloc ?_ _)); exact BK201.out) hb)
             have n4_ := Aside0.mk (below_step (by repeat (first | (with_reducible first | exact HB.out | apply below_alloc | apply pw_below_drewN | apply below_drew1 | refine below_set ?_ GE190.out | refine below_set ?_ GE193.out | refine below_set ?_ GE197.out | refine below_set ?_ GE201.out) | exact HB.out)) hb)
             clear BK190
             clear BK193
             clear BK197
             clear BK201
             clear HB
             have BK190 := n0_
             have BK193 := n1_
             have BK197 := n2_
             have BK201 := n3_
             have HB := n4_
             clear n0_ n1_ n2_ n3_ n4_
             (try clear hb)
             (try clear hb2)
             (try clear hk)
             (try clear hi)
             refine hK.out _ _ ⟨(blk_cell BK190.out 0).trans rfl, (blk_cell BK190.out 1).trans rfl, (blk_cell BK193.out 0).trans rfl, (blk_cell BK193.out 1).trans rfl, (blk_cell BK197.out 0).trans rfl, (blk_cell BK197.out 1).trans rfl, (blk_cell BK201.out 0).trans rfl, (blk_cell BK201.out 1).trans rfl⟩ (fun hHeld => ?_)
             clear hK K
             refine norm_ (a' := ?_) ?_ ?_
             rotate_left
             ·show Act.put _ (some 47) _ = _
              simp only [Act.put, List.setIfInBounds_toArray, List.set_cons_zero, List.set_cons_succ, i64_w, i32_w]
              rfl
             refine pure_ (i := 7) (N := some 48) (v := ?_) (a' := ?_) #[true, true, true, true, true, true, true, true, false, false, false, false, false, false, false, false, false, false, false, false, false, false, false, false, false, false, false, false, false, false, false, false, false, false, false, false, false, false, false, false, false, false, false, false, false, false, false, false, false, false, false, false, false, false, false, false, false, false, false, false, false, false, false, false, false, false, false, false, false, false, false, false, false, false, false, false, false, false, false, false, false, false, false, false, false, false, false, false, false, false, false, false, false, false, false, false, false, false, false, false, false, false] rfl rfl (any_of HT_.out (by kernel_rfl)) (fun _ _ _ h => h) (Or.inl ⟨by rfl, ?_⟩) ?_ ?_
             rotate_left
             ·intro w'
              go_simp
              with_reducible rfl
             rotate_left
             ·simp only [Act.put, List.setIfInBounds_toArray, List.set_cons_zero, List.set_cons_succ, i64_w, i32_w]
              rfl
             refine pure_ (i := 8) (N := some 49) (v := ?_) (a' := ?_) #[true, true, true, true, true, true, true, true, true, false, false, false, false, false, false, false, false, false, false, false, false, false, false, false, false, false, false, false, false, false, false, false, false, false, false, false, false, false, false, false, false, false, false, false, false, false, false, false, false, false, false, false, false, false, false, false, false, false, false, false, false, false, false, false, false, false, false, false, false, false, false, false, false, false, false, false, false, false, false, false, false, false, false, false, false, false, false, false, false, false, false, false, false, false, false, false, false, false, false, false, false, false] rfl rfl (any_of HT_.out (by kernel_rfl)) (fun _ _ _ h => h) (Or.inl ⟨by rfl, ?_⟩) ?_ ?_
             rotate_left
             ·intro w'
              go_simp
              with_reducible rfl
             rotate_left
             ·simp only [Act.put, List.setIfInBounds_toArray, List.set_cons_zero, List.set_cons_succ, i64_w, i32_w]
              rfl
             refine take_ (i := 9) (N := some 50) (v := ?_) (a' := ?_) #[true, true, true, true, true, true, true, true, true, true, false, false, false, false, false, false, false, false, false, false, false, false, false, false, false, false, false, false, false, false, false, false, false, false, false, false, false, false, false, false, false, false, false, false, false, false, false, false, false, false, false, false, false, false, false, false, false, false, false, false, false, false, false, false, false, false, false, false, false, false, false, false, false, false, false, false, false, false, false, false, false, false, false, false, false, false, false, false, false, false, false, false, false, false, false, false, false, false, false, false, false, false] rfl rfl (take_ofW HT_.out HW_.out (by kernel_rfl)) (fun _ _ _ h => h) (Or.inl ⟨by rfl, ?_⟩) hHeld ?_ ?_
             rotate_left
             ·rintro w' ⟨s0, s1, s2, s3, s4, s5, s6, s7⟩
              go_simp
              with_reducible rfl
             rotate_left
             ·simp only [Act.put, List.setIfInBounds_toArray, List.set_cons_zero, List.set_cons_succ, i64_w, i32_w]
              rfl
             refine take_ (i := 10) (N := some 51) (v := ?_) (a' := ?_) #[true, true, true, true, true, true, true, true, true, true, true, false, false, false, false, false, false, false, false, false, false, false, false, false, false, false, false, false, false, false, false, false, false, false, false, false, false, false, false, false, false, false, false, false, false, false, false, false, false, false, false, false, false, false, false, false, false, false, false, false, false, false, false, false, false, false, false, false, false, false, false, false, false, false, false, false, false, false, false, false, false, false, false, false, false, false, false, false, false, false, false, false, false, false, false, false, false, false, false, false, false, false] rfl rfl (take_ofW HT_.out HW_.out (by kernel_rfl)) (fun _ _ _ h => h) (Or.inl ⟨by rfl, ?_⟩) hHeld ?_ ?_
             rotate_left
             ·rintro w' ⟨s0, s1, s2, s3, s4, s5, s6, s7⟩
              go_simp
              with_reducible rfl
             rotate_left
             ·simp only [Act.put, List.setIfInBounds_toArray, List.set_cons_zero, List.set_cons_succ, i64_w, i32_w]
              rfl
             refine take_ (i := 12) (N := some 53) (v := ?_) (a' := ?_) #[true, true, true, true, true, true, true, true, true, true, true, false, true, false, false, false, false, false, false, false, false, false, false, false, false, false, false, false, false, false, false, false, false, false, false, false, false, false, false, false, false, false, false, false, false, false, false, false, false, false, false, false, false, false, false, false, false, false, false, false, false, false, false, false, false, false, false, false, false, false, false, false, false, false, false, false, false, false, false, false, false, false, false, false, false, false, false, false, false, false, false, false, false, false, false, false, false, false, false, false, false, false] rfl rfl (take_ofW HT_.out HW_.out (by kernel_rfl)) (fun _ _ _ h => h) (Or.inl ⟨by rfl, ?_⟩) hHeld ?_ ?_
             rotate_left
             ·rintro w' ⟨s0, s1, s2, s3, s4, s5, s6, s7⟩
              go_simp
              with_reducible rfl
             rotate_left
             ·simp only [Act.put, List.setIfInBounds_toArray, List.set_cons_zero, List.set_cons_succ, i64_w, i32_w]
              rfl
             refine take_ (i := 13) (N := some 54) (v := ?_) (a' := ?_) #[true, true, true, true, true, true, true, true, true, true, true, false, true, true, false, false, false, false, false, false, false, false, false, false, false, false, false, false, false, false, false, false, false, false, false, false, false, false, false, false, false, false, false, false, false, false, false, false, false, false, false, false, false, false, false, false, false, false, false, false, false, false, false, false, false, false, false, false, false, false, false, false, false, false, false, false, false, false, false, false, false, false, false, false, false, false, false, false, false, false, false, false, false, false, false, false, false, false, false, false, false, false] rfl rfl (take_ofW HT_.out HW_.out (by kernel_rfl)) (fun _ _ _ h => h) (Or.inl ⟨by rfl, ?_⟩) hHeld ?_ ?_
             rotate_left
             ·rintro w' ⟨s0, s1, s2, s3, s4, s5, s6, s7⟩
              go_simp
              with_reducible rfl
             rotate_left
             ·simp only [Act.put, List.setIfInBounds_toArray, List.set_cons_zero, List.set_cons_succ, i64_w, i32_w]
              rfl
             refine one_ (i := 11) (N := some 52) #[true, true, true, true, true, true, true, true, true, true, true, true, true, true, false, false, false, false, false, false, false, false, false, false, false, false, false, false, false, false, false, false, false, false, false, false, false, false, false, false, false, false, false, false, false, false, false, false, false, false, false, false, false, false, false, false, false, false, false, false, false, false, false, false, false, false, false, false, false, false, false, false, false, false, false, false, false, false, false, false, false, false, false, false, false, false, false, false, false, false, false, false, false, false, false, false, false, false, false, false, false, false] rfl rfl (one_of HT_.out (by kernel_rfl)) (by decide) (fun K hK => ?_)
             refine goes_ Try.func37 (by kernel_rfl) rfl #[.agg #[.int .i64 t188, .int .i64 t189], .agg #[.int .i64 t191, .int .i64 t192]] (by rfl) rfl rfl (by (try simp only [List.map_toArray, List.map_cons, List.map_nil]); first | done | rfl | (simp only [List.length_drop, List.length_take]; rfl)) ?_
             with_reducible refine (span_Add.calls k t188 t189 t191 t192 t205 t206 _ A16.out).mono ?_
             rintro e w78 ⟨rfl, hb⟩
             refine ⟨_, rfl, ?_⟩
             have n0_ := Aside0.mk (blk_below (g := gb190) (o := .cells #[.int .i64 t188, .int .i64 t189] 24 (0, 0)) (by (with_reducible repeat (first | refine blk_drewN ?_ _ | refine blk_drew ?_ | refine blk_alloc ?_ _)); exact BK190.out) hb)
             have n1_ := Aside0.mk (blk_below (g := gb193) (o := .cells #[.int .i64 t191, .int .i64 t192] 24 (0, 0)) (by (with_reducible repeat (first | refine blk_drewN ?_ _ | refine blk_drew ?_ | refine blk_alloc ?_ _)); exact BK193.out) hb)
             have n2_ := Aside0.mk (blk_below (g := gb197) (o := .cells #[.int .i64 t194, .int .i64 t195] 24 (0, 0)) (by (with_reducible repeat (first | refine blk_drewN ?_ _ | refine blk_drew ?_ | refine blk_alloc ?_ _)); exact BK197.out) hb)
             have n3_ := Aside0.mk (blk_below (g := gb201) (o := .cells #[.int .i64 t198, .int .i64 t199] 24 (0, 0)) (by (with_reducible repeat (first | refine blk_drewN ?_ _ | refine blk_drew ?_ | refine blk_alloc ?_ _)); exact BK201.out) hb)
             have n4_ := Aside0.mk (below_step (by repeat (first | (with_reducible first | exact HB.out | apply below_alloc | apply pw_below_drewN | apply below_drew1 | refine below_set ?_ GE190.out | refine below_set ?_ GE193.out | refine below_set ?_ GE197.out | refine below_set ?_ GE201.out) | exact HB.out)) hb)
             clear BK190
             clear BK193
             clear BK197
             clear BK201
             clear HB
             have BK190 := n0_
             have BK193 := n1_
             have BK197 := n2_
             have BK201 := n3_
             have HB := n4_
             clear n0_ n1_ n2_ n3_ n4_
             (try clear hb)
             (try clear hb2)
             (try clear hk)
             (try clear hi)
             refine hK.out _ _ ⟨(blk_cell BK190.out 0).trans rfl, (blk_cell BK190.out 1).trans rfl, (blk_cell BK193.out 0).trans rfl, (blk_cell BK193.out 1).trans rfl, (blk_cell BK197.out 0).trans rfl, (blk_cell BK197.out 1).trans rfl, (blk_cell BK201.out 0).trans rfl, (blk_cell BK201.out 1).trans rfl⟩ (fun hHeld => ?_)
             clear hK K
             refine norm_ (a' := ?_) ?_ ?_
             rotate_left
             ·show Act.put _ (some 52) _ = _
              simp only [Act.put, List.setIfInBounds_toArray, List.set_cons_zero, List.set_cons_succ, i64_w, i32_w]
              rfl
             refine one_ (i := 14) (N := some 55) #[true, true, true, true, true, true, true, true, true, true, true, true, true, true, true, false, false, false, false, false, false, false, false, false, false, false, false, false, false, false, false, false, false, false, false, false, false, false, false, false, false, false, false, false, false, false, false, false, false, false, false, false, false, false, false, false, false, false, false, false, false, false, false, false, false, false, false, false, false, false, false, false, false, false, false, false, false, false, false, false, false, false, false, false, false, false, false, false, false, false, false, false, false, false, false, false, false, false, false, false, false, false] rfl rfl (one_of HT_.out (by kernel_rfl)) (by decide) (fun K hK => ?_)
             refine goes_ Try.func44 (by kernel_rfl) rfl #[.agg #[.int .i64 t188, .int .i64 t189], .agg #[.int .i64 t191, .int .i64 t192]] (by rfl) rfl rfl (by (try simp only [List.map_toArray, List.map_cons, List.map_nil]); first | done | rfl | (simp only [List.length_drop, List.length_take]; rfl)) ?_
             with_reducible refine (dynamoref1_AddSpan.calls k t188 t189 t191 t192 t207 t208 _ A17.out).mono ?_
             rintro e w79 ⟨rfl, hb⟩
             refine ⟨_, rfl, ?_⟩
             have n0_ := Aside0.mk (blk_below (g := gb190) (o := .cells #[.int .i64 t188, .int .i64 t189] 24 (0, 0)) (by (with_reducible repeat (first | refine blk_drewN ?_ _ | refine blk_drew ?_ | refine blk_alloc ?_ _)); exact BK190.out) hb)
             have n1_ := Aside0.mk (blk_below (g := gb193) (o := .cells #[.int .i64 t191, .int .i64 t192] 24 (0, 0)) (by (with_reducible repeat (first | refine blk_drewN ?_ _ | refine blk_drew ?_ | refine blk_alloc ?_ _)); exact BK193.out) hb)
             have n2_ := Aside0.mk (blk_below (g := gb197) (o := .cells #[.int .i64 t194, .int .i64 t195] 24 (0, 0)) (by (with_reducible repeat (first | refine blk_drewN ?_ _ | refine blk_drew ?_ | refine blk_alloc ?_ _)); exact BK197.out) hb)
             have n3_ := Aside0.mk (blk_below (g := gb201) (o := .cells #[.int .i64 t198, .int .i64 t199] 24 (0, 0)) (by (with_reducible repeat (first | refine blk_drewN ?_ _ | refine blk_drew ?_ | refine blk_alloc ?_ _)); exact BK201.out) hb)
             have n4_ := Aside0.mk (below_step (by repeat (first | (with_reducible first | exact HB.out | apply below_alloc | apply pw_below_drewN | apply below_drew1 | refine below_set ?_ GE190.out | refine below_set ?_ GE193.out | refine below_set ?_ GE197.out | refine below_set ?_ GE201.out) | exact HB.out)) hb)
             clear BK190
             clear BK193
             clear BK197
             clear BK201
             clear HB
             have BK190 := n0_
             have BK193 := n1_
             have BK197 := n2_
             have BK201 := n3_
             have HB := n4_
             clear n0_ n1_ n2_ n3_ n4_
             (try clear hb)
             (try clear hb2)
             (try clear hk)
             (try clear hi)
             refine hK.out _ _ ⟨(blk_cell BK190.out 0).trans rfl, (blk_cell BK190.out 1).trans rfl, (blk_cell BK193.out 0).trans rfl, (blk_cell BK193.out 1).trans rfl, (blk_cell BK197.out 0).trans rfl, (blk_cell BK197.out 1).trans rfl, (blk_cell BK201.out 0).trans rfl, (blk_cell BK201.out 1).trans rfl⟩ (fun hHeld => ?_)
             clear hK K
             refine norm_ (a' := ?_) ?_ ?_
             rotate_left
             ·show Act.put _ (some 55) _ = _
              simp only [Act.put, List.setIfInBounds_toArray, List.set_cons_zero, List.set_cons_succ, i64_w, i32_w]
              rfl
             refine one_ (i := 15) (N := some 56) #[true, true, true, true, true, true, true, true, true, true, true, true, true, true, true, true, false, false, false, false, false, false, false, false, false, false, false, false, false, false, false, false, false, false, false, false, false, false, false, false, false, false, false, false, false, false, false, false, false, false, false, false, false, false, false, false, false, false, false, false, false, false, false, false, false, false, false, false, false, false, false, false, false, false, false, false, false, false, false, false, false, false, false, false, false, false, false, false, false, false, false, false, false, false, false, false, false, false, false, false, false, false] rfl rfl (one_of HT_.out (by kernel_rfl)) (by decide) (fun K hK => ?_)
             refine goes_ Try.func17 (by kernel_rfl) rfl #[.agg #[.int .i64 t205, .int .i64 t206], .agg #[.int .i64 t207, .int .i64 t208]] (by rfl) rfl rfl (by (try simp only [List.map_toArray, List.map_cons, List.map_nil]); first | done | rfl | (simp only [List.length_drop, List.length_take]; rfl)) ?_
             with_reducible refine (dynamoref_SameSpan.calls t205 t206 t207 t208 true _ A18.out).mono ?_
             rintro e w80 ⟨rfl, hb⟩
             refine ⟨_, rfl, ?_⟩
             have n0_ := Aside0.mk (blk_below (g := gb190) (o := .cells #[.int .i64 t188, .int .i64 t189] 24 (0, 0)) (by (with_reducible repeat (first | refine blk_drewN ?_ _ | refine blk_drew ?_ | refine blk_alloc ?_ _)); exact BK190.out) hb)
             have n1_ := Aside0.mk (blk_below (g := gb193) (o := .cells #[.int .i64 t191, .int .i64 t192] 24 (0, 0)) (by (with_reducible repeat (first | refine blk_drewN ?_ _ | refine blk_drew ?_ | refine blk_alloc ?_ _)); exact BK193.out) hb)
             have n2_ := Aside0.mk (blk_below (g := gb197) (o := .cells #[.int .i64 t194, .int .i64 t195] 24 (0, 0)) (by (with_reducible repeat (first | refine blk_drewN ?_ _ | refine blk_drew ?_ | refine blk_alloc ?_ _)); exact BK197.out) hb)
             have n3_ := Aside0.mk (blk_below (g := gb201) (o := .cells #[.int .i64 t198, .int .i64 t199] 24 (0, 0)) (by (with_reducible repeat (first | refine blk_drewN ?_ _ | refine blk_drew ?_ | refine blk_alloc ?_ _)); exact BK201.out) hb)
             have n4_ := Aside0.mk (below_step (by repeat (first | (with_reducible first | exact HB.out | apply below_alloc | apply pw_below_drewN | apply below_drew1 | refine below_set ?_ GE190.out | refine below_set ?_ GE193.out | refine below_set ?_ GE197.out | refine below_set ?_ GE201.out) | exact HB.out)) hb)
             clear BK190
             clear BK193
             clear BK197
             clear BK201
             clear HB
             have BK190 := n0_
             have BK193 := n1_
             have BK197 := n2_
             have BK201 := n3_
             have HB := n4_
             clear n0_ n1_ n2_ n3_ n4_
             (try clear hb)
             (try clear hb2)
             (try clear hk)
             (try clear hi)
             refine hK.out _ _ ⟨(blk_cell BK190.out 0).trans rfl, (blk_cell BK190.out 1).trans rfl, (blk_cell BK193.out 0).trans rfl, (blk_cell BK193.out 1).trans rfl, (blk_cell BK197.out 0).trans rfl, (blk_cell BK197.out 1).trans rfl, (blk_cell BK201.out 0).trans rfl, (blk_cell BK201.out 1).trans rfl⟩ (fun hHeld => ?_)
             clear hK K
             refine norm_ (a' := ?_) ?_ ?_
             rotate_left
             ·show Act.put _ (some 56) _ = _
              simp only [Act.put, List.setIfInBounds_toArray, List.set_cons_zero, List.set_cons_succ, i64_w, i32_w]
              rfl
             refine pure_ (i := 16) (N := some 57) (v := ?_) (a' := ?_) #[true, true, true, true, true, true, true, true, true, true, true, true, true, true, true, true, true, false, false, false, false, false, false, false, false, false, false, false, false, false, false, false, false, false, false, false, false, false, false, false, false, false, false, false, false, false, false, false, false, false, false, false, false, false, false, false, false, false, false, false, false, false, false, false, false, false, false, false, false, false, false, false, false, false, false, false, false, false, false, false, false, false, false, false, false, false, false, false, false, false, false, false, false, false, false, false, false, false, false, false, false, false] rfl rfl (any_of HT_.out (by kernel_rfl)) (fun _ _ _ h => h) (Or.inl ⟨by rfl, ?_⟩) ?_ ?_
             rotate_left
             ·intro w'
              go_simp
              with_reducible rfl
             rotate_left
             ·simp only [Act.put, List.setIfInBounds_toArray, List.set_cons_zero, List.set_cons_succ, i64_w, i32_w]
              rfl
             refine pure_ (i := 17) (N := some 58) (v := ?_) (a' := ?_) #[true, true, true, true, true, true, true, true, true, true, true, true, true, true, true, true, true, true, false, false, false, false, false, false, false, false, false, false, false, false, false, false, false, false, false, false, false, false, false, false, false, false, false, false, false, false, false, false, false, false, false, false, false, false, false, false, false, false, false, false, false, false, false, false, false, false, false, false, false, false, false, false, false, false, false, false, false, false, false, false, false, false, false, false, false, false, false, false, false, false, false, false, false, false, false, false, false, false, false, false, false, false] rfl rfl (any_of HT_.out (by kernel_rfl)) (fun _ _ _ h => h) (Or.inl ⟨by rfl, ?_⟩) ?_ ?_
             rotate_left
             ·intro w'
              go_simp
              with_reducible rfl
             rotate_left
             ·simp only [Act.put, List.setIfInBounds_toArray, List.set_cons_zero, List.set_cons_succ, i64_w, i32_w]
              rfl
             refine take_ (i := 18) (N := some 59) (v := ?_) (a' := ?_) #[true, true, true, true, true, true, true, true, true, true, true, true, true, true, true, true, true, true, true, false, false, false, false, false, false, false, false, false, false, false, false, false, false, false, false, false, false, false, false, false, false, false, false, false, false, false, false, false, false, false, false, false, false, false, false, false, false, false, false, false, false, false, false, false, false, false, false, false, false, false, false, false, false, false, false, false, false, false, false, false, false, false, false, false, false, false, false, false, false, false, false, false, false, false, false, false, false, false, false, false, false, false] rfl rfl (take_ofW HT_.out HW_.out (by kernel_rfl)) (fun _ _ _ h => h) (Or.inl ⟨by rfl, ?_⟩) hHeld ?_ ?_
             rotate_left
             ·rintro w' ⟨s0, s1, s2, s3, s4, s5, s6, s7⟩
              go_simp
              with_reducible rfl
             rotate_left
             ·simp only [Act.put, List.setIfInBounds_toArray, List.set_cons_zero, List.set_cons_succ, i64_w, i32_w]
              rfl
             refine take_ (i := 19) (N := some 60) (v := ?_) (a' := ?_) #[true, true, true, true, true, true, true, true, true, true, true, true, true, true, true, true, true, true, true, true, false, false, false, false, false, false, false, false, false, false, false, false, false, false, false, false, false, false, false, false, false, false, false, false, false, false, false, false, false, false, false, false, false, false, false, false, false, false, false, false, false, false, false, false, false, false, false, false, false, false, false, false, false, false, false, false, false, false, false, false, false, false, false, false, false, false, false, false, false, false, false, false, false, false, false, false, false, false, false, false, false, false] rfl rfl (take_ofW HT_.out HW_.out (by kernel_rfl)) (fun _ _ _ h => h) (Or.inl ⟨by rfl, ?_⟩) hHeld ?_ ?_
             rotate_left
             ·rintro w' ⟨s0, s1, s2, s3, s4, s5, s6, s7⟩
              go_simp
              with_reducible rfl
             rotate_left
             ·simp only [Act.put, List.setIfInBounds_toArray, List.set_cons_zero, List.set_cons_succ, i64_w, i32_w]
              rfl
             refine take_ (i := 21) (N := some 62) (v := ?_) (a' := ?_) #[true, true, true, true, true, true, true, true, true, true, true, true, true, true, true, true, true, true, true, true, false, true, false, false, false, false, false, false, false, false, false, false, false, false, false, false, false, false, false, false, false, false, false, false, false, false, false, false, false, false, false, false, false, false, false, false, false, false, false, false, false, false, false, false, false, false, false, false, false, false, false, false, false, false, false, false, false, false, false, false, false, false, false, false, false, false, false, false, false, false, false, false, false, false, false, false, false, false, false, false, false, false] rfl rfl (take_ofW HT_.out HW_.out (by kernel_rfl)) (fun _ _ _ h => h) (Or.inl ⟨by rfl, ?_⟩) hHeld ?_ ?_
             rotate_left
             ·rintro w' ⟨s0, s1, s2, s3, s4, s5, s6, s7⟩
              go_simp
              with_reducible rfl
             rotate_left
             ·simp only [Act.put, List.setIfInBounds_toArray, List.set_cons_zero, List.set_cons_succ, i64_w, i32_w]
              rfl
             refine take_ (i := 22) (N := some 63) (v := ?_) (a' := ?_) #[true, true, true, true, true, true, true, true, true, true, true, true, true, true, true, true, true, true, true, true, false, true, true, false, false, false, false, false, false, false, false, false, false, false, false, false, false, false, false, false, false, false, false, false, false, false, false, false, false, false, false, false, false, false, false, false, false, false, false, false, false, false, false, false, false, false, false, false, false, false, false, false, false, false, false, false, false, false, false, false, false, false, false, false, false, false, false, false, false, false, false, false, false, false, false, false, false, false, false, false, false, false] rfl rfl (take_ofW HT_.out HW_.out (by kernel_rfl)) (fun _ _ _ h => h) (Or.inl ⟨by rfl, ?_⟩) hHeld ?_ ?_
             rotate_left
             ·rintro w' ⟨s0, s1, s2, s3, s4, s5, s6, s7⟩
              go_simp
              with_reducible rfl
             rotate_left
             ·simp only [Act.put, List.setIfInBounds_toArray, List.set_cons_zero, List.set_cons_succ, i64_w, i32_w]
              rfl
             refine one_ (i := 20) (N := some 61) #[true, true, true, true, true, true, true, true, true, true, true, true, true, true, true, true, true, true, true, true, true, true, true, false, false, false, false, false, false, false, false, false, false, false, false, false, false, false, false, false, false, false, false, false, false, false, false, false, false, false, false, false, false, false, false, false, false, false, false, false, false, false, false, false, false, false, false, false, false, false, false, false, false, false, false, false, false, false, false, false, false, false, false, false, false, false, false, false, false, false, false, false, false, false, false, false, false, false, false, false, false, false] rfl rfl (one_of HT_.out (by kernel_rfl)) (by decide) (fun K hK => ?_)
             refine goes_ Try.func38 (by kernel_rfl) rfl #[.agg #[.int .i64 t188, .int .i64 t189], .agg #[.int .i64 t191, .int .i64 t192]] (by rfl) rfl rfl (by (try simp only [List.map_toArray, List.map_cons, List.map_nil]); first | done | rfl | (simp only [List.length_drop, List.length_take]; rfl)) ?_
             with_reducible refine (span_Sub.calls k t188 t189 t191 t192 t210 t211 _ A20.out).mono ?_
             rintro e w81 ⟨rfl, hb⟩
             refine ⟨_, rfl, ?_⟩
             have n0_ := Aside0.mk (blk_below (g := gb190) (o := .cells #[.int .i64 t188, .int .i64 t189] 24 (0, 0)) (by (with_reducible repeat (first | refine blk_drewN ?_ _ | refine blk_drew ?_ | refine blk_alloc ?_ _)); exact BK190.out) hb)
             have n1_ := Aside0.mk (blk_below (g := gb193) (o := .cells #[.int .i64 t191, .int .i64 t192] 24 (0, 0)) (by (with_reducible repeat (first | refine blk_drewN ?_ _ | refine blk_drew ?_ | refine blk_alloc ?_ _)); exact BK193.out) hb)
             have n2_ := Aside0.mk (blk_below (g := gb197) (o := .cells #[.int .i64 t194, .int .i64 t195] 24 (0, 0)) (by (with_reducible repeat (first | refine blk_drewN ?_ _ | refine blk_drew ?_ | refine blk_alloc ?_ _)); exact BK197.out) hb)
             have n3_ := Aside0.mk (blk_below (g := gb201) (o := .cells #[.int .i64 t198, .int .i64 t199] 24 (0, 0)) (by (with_reducible repeat (first | refine blk_drewN ?_ _ | refine blk_drew ?_ | refine blk_alloc ?_ _)); exact BK201.out) hb)
             have n4_ := Aside0.mk (below_step (by repeat (first | (with_reducible first | exact HB.out | apply below_alloc | apply pw_below_drewN | apply below_drew1 | refine below_set ?_ GE190.out | refine below_set ?_ GE193.out | refine below_set ?_ GE197.out | refine below_set ?_ GE201.out) | exact HB.out)) hb)
             clear BK190
             clear BK193
             clear BK197
             clear BK201
             clear HB
             have BK190 := n0_
             have BK193 := n1_
             have BK197 := n2_
             have BK201 := n3_
             have HB := n4_
             clear n0_ n1_ n2_ n3_ n4_
             (try clear hb)
             (try clear hb2)
             (try clear hk)
             (try clear hi)
             refine hK.out _ _ ⟨(blk_cell BK190.out 0).trans rfl, (blk_cell BK190.out 1).trans rfl, (blk_cell BK193.out 0).trans rfl, (blk_cell BK193.out 1).trans rfl, (blk_cell BK197.out 0).trans rfl, (blk_cell BK197.out 1).trans rfl, (blk_cell BK201.out 0).trans rfl, (blk_cell BK201.out 1).trans rfl⟩ (fun hHeld => ?_)
             clear hK K
             refine norm_ (a' := ?_) ?_ ?_
             rotate_left
             ·show Act.put _ (some 61) _ = _
              simp only [Act.put, List.setIfInBounds_toArray, List.set_cons_zero, List.set_cons_succ, i64_w, i32_w]
              rfl
             refine one_ (i := 23) (N := some 64) #[true, true, true, true, true, true, true, true, true, true, true, true, true, true, true, true, true, true, true, true, true, true, true, true, false, false, false, false, false, false, false, false, false, false, false, false, false, false, false, false, false, false, false, false, false, false, false, false, false, false, false, false, false, false, false, false, false, false, false, false, false, false, false, false, false, false, false, false, false, false, false, false, false, false, false, false, false, false, false, false, false, false, false, false, false, false, false, false, false, false, false, false, false, false, false, false, false, false, false, false, false, false] rfl rfl (one_of HT_.out (by kernel_rfl)) (by decide) (fun K hK => ?_)
             refine goes_ Try.func45 (by kernel_rfl) rfl #[.agg #[.int .i64 t188, .int .i64 t189], .agg #[.int .i64 t191, .int .i64 t192]] (by rfl) rfl rfl (by (try simp only [List.map_toArray, List.map_cons, List.map_nil]); first | done | rfl | (simp only [List.length_drop, List.length_take]; rfl)) ?_
             with_reducible refine (dynamoref1_SubSpan.calls k t188 t189 t191 t192 t212 t213 _ A21.out).mono ?_
             rintro e w82 ⟨rfl, hb⟩
             refine ⟨_, rfl, ?_⟩
             have n0_ := Aside0.mk (blk_below (g := gb190) (o := .cells #[.int .i64 t188, .int .i64 t189] 24 (0, 0)) (by (with_reducible repeat (first | refine blk_drewN ?_ _ | refine blk_drew ?_ | refine blk_alloc ?_ _)); exact BK190.out) hb)
             have n1_ := Aside0.mk (blk_below (g := gb193) (o := .cells #[.int .i64 t191, .int .i64 t192] 24 (0, 0)) (by (with_reducible repeat (first | refine blk_drewN ?_ _ | refine blk_drew ?_ | refine blk_alloc ?_ _)); exact BK193.out) hb)
             have n2_ := Aside0.mk (blk_below (g := gb197) (o := .cells #[.int .i64 t194, .int .i64 t195] 24 (0, 0)) (by (with_reducible repeat (first | refine blk_drewN ?_ _ | refine blk_drew ?_ | refine blk_alloc ?_ _)); exact BK197.out) hb)
             have n3_ := Aside0.mk (blk_below (g := gb201) (o := .cells #[.int .i64 t198, .int .i64 t199] 24 (0, 0)) (by (with_reducible repeat (first | refine blk_drewN ?_ _ | refine blk_drew ?_ | refine blk_alloc ?_ _)); exact BK201.out) hb)
             have n4_ := Aside0.mk (below_step (by repeat (first | (with_reducible first | exact HB.out | apply below_alloc | apply pw_below_drewN | apply below_drew1 | refine below_set ?_ GE190.out | refine below_set ?_ GE193.out | refine below_set ?_ GE197.out | refine below_set ?_ GE201.out) | exact HB.out)) hb)
             clear BK190
             clear BK193
             clear BK197
             clear BK201
             clear HB
             have BK190 := n0_
             have BK193 := n1_
             have BK197 := n2_
             have BK201 := n3_
             have HB := n4_
             clear n0_ n1_ n2_ n3_ n4_
             (try clear hb)
             (try clear hb2)
             (try clear hk)
             (try clear hi)
             refine hK.out _ _ ⟨(blk_cell BK190.out 0).trans rfl, (blk_cell BK190.out 1).trans rfl, (blk_cell BK193.out 0).trans rfl, (blk_cell BK193.out 1).trans rfl, (blk_cell BK197.out 0).trans rfl, (blk_cell BK197.out 1).trans rfl, (blk_cell BK201.out 0).trans rfl, (blk_cell BK201.out 1).trans rfl⟩ (fun hHeld => ?_)
             clear hK K
             refine norm_ (a' := ?_) ?_ ?_
             rotate_left
             ·show Act.put _ (some 64) _ = _
              simp only [Act.put, List.setIfInBounds_toArray, List.set_cons_zero, List.set_cons_succ, i64_w, i32_w]
              rfl
             refine one_ (i := 24) (N := some 65) #[true, true, true, true, true, true, true, true, true, true, true, true, true, true, true, true, true, true, true, true, true, true, true, true, true, false, false, false, false, false, false, false, false, false, false, false, false, false, false, false, false, false, false, false, false, false, false, false, false, false, false, false, false, false, false, false, false, false, false, false, false, false, false, false, false, false, false, false, false, false, false, false, false, false, false, false, false, false, false, false, false, false, false, false, false, false, false, false, false, false, false, false, false, false, false, false, false, false, false, false, false, false] rfl rfl (one_of HT_.out (by kernel_rfl)) (by decide) (fun K hK => ?_)
             refine goes_ Try.func17 (by kernel_rfl) rfl #[.agg #[.int .i64 t210, .int .i64 t211], .agg #[.int .i64 t212, .int .i64 t213]] (by rfl) rfl rfl (by (try simp only [List.map_toArray, List.map_cons, List.map_nil]); first | done | rfl | (simp only [List.length_drop, List.length_take]; rfl)) ?_
             with_reducible refine (dynamoref_SameSpan.calls t210 t211 t212 t213 true _ A22.out).mono ?_
             rintro e w83 ⟨rfl, hb⟩
             refine ⟨_, rfl, ?_⟩
             have n0_ := Aside0.mk (blk_below (g := gb190) (o := .cells #[.int .i64 t188, .int .i64 t189] 24 (0, 0)) (by (with_reducible repeat (first | refine blk_drewN ?_ _ | refine blk_drew ?_ | refine blk_alloc ?_ _)); exact BK190.out) hb)
             have n1_ := Aside0.mk (blk_below (g := gb193) (o := .cells #[.int .i64 t191, .int .i64 t192] 24 (0, 0)) (by (with_reducible repeat (first | refine blk_drewN ?_ _ | refine blk_drew ?_ | refine blk_alloc ?_ _)); exact BK193.out) hb)
             have n2_ := Aside0.mk (blk_below (g := gb197) (o := .cells #[.int .i64 t194, .int .i64 t195] 24 (0, 0)) (by (with_reducible repeat (first | refine blk_drewN ?_ _ | refine blk_drew ?_ | refine blk_alloc ?_ _)); exact BK197.out) hb)
             have n3_ := Aside0.mk (blk_below (g := gb201) (o := .cells #[.int .i64 t198, .int .i64 t199] 24 (0, 0)) (by (with_reducible repeat (first | refine blk_drewN ?_ _ | refine blk_drew ?_ | refine blk_alloc ?_ _)); exact BK201.out) hb)
             have n4_ := Aside0.mk (below_step (by repeat (first | (with_reducible first | exact HB.out | apply below_alloc | apply pw_below_drewN | apply below_drew1 | refine below_set ?_ GE190.out | refine below_set ?_ GE193.out | refine below_set ?_ GE197.out | refine below_set ?_ GE201.out) | exact HB.out)) hb)
             clear BK190
             clear BK193
             clear BK197
             clear BK201
             clear HB
             have BK190 := n0_
             have BK193 := n1_
             have BK197 := n2_
             have BK201 := n3_
             have HB := n4_
             clear n0_ n1_ n2_ n3_ n4_
             (try clear hb)
             (try clear hb2)
             (try clear hk)
             (try clear hi)
             refine hK.out _ _ ⟨(blk_cell BK190.out 0).trans rfl, (blk_cell BK190.out 1).trans rfl, (blk_cell BK193.out 0).trans rfl, (blk_cell BK193.out 1).trans rfl, (blk_cell BK197.out 0).trans rfl, (blk_cell BK197.out 1).trans rfl, (blk_cell BK201.out 0).trans rfl, (blk_cell BK201.out 1).trans rfl⟩ (fun hHeld => ?_)
             clear hK K
             refine norm_ (a' := ?_) ?_ ?_
             rotate_left
             ·show Act.put _ (some 65) _ = _
              simp only [Act.put, List.setIfInBounds_toArray, List.set_cons_zero, List.set_cons_succ, i64_w, i32_w]
              rfl
             refine pure_ (i := 25) (N := some 66) (v := ?_) (a' := ?_) #[true, true, true, true, true, true, true, true, true, true, true, true, true, true, true, true, true, true, true, true, true, true, true, true, true, true, false, false, false, false, false, false, false, false, false, false, false, false, false, false, false, false, false, false, false, false, false, false, false, false, false, false, false, false, false, false, false, false, false, false, false, false, false, false, false, false, false, false, false, false, false, false, false, false, false, false, false, false, false, false, false, false, false, false, false, false, false, false, false, false, false, false, false, false, false, false, false, false, false, false, false, false] rfl rfl (any_of HT_.out (by kernel_rfl)) (fun _ _ _ h => h) (Or.inl ⟨by rfl, ?_⟩) ?_ ?_
             rotate_left
             ·intro w'
              go_simp
              with_reducible rfl
             rotate_left
             ·simp only [Act.put, List.setIfInBounds_toArray, List.set_cons_zero, List.set_cons_succ, i64_w, i32_w]
              rfl
             refine pure_ (i := 26) (N := some 67) (v := ?_) (a' := ?_) #[true, true, true, true, true, true, true, true, true, true, true, true, true, true, true, true, true, true, true, true, true, true, true, true, true, true, true, false, false, false, false, false, false, false, false, false, false, false, false, false, false, false, false, false, false, false, false, false, false, false, false, false, false, false, false, false, false, false, false, false, false, false, false, false, false, false, false, false, false, false, false, false, false, false, false, false, false, false, false, false, false, false, false, false, false, false, false, false, false, false, false, false, false, false, false, false, false, false, false, false, false, false] rfl rfl (any_of HT_.out (by kernel_rfl)) (fun _ _ _ h => h) (Or.inl ⟨by rfl, ?_⟩) ?_ ?_
             rotate_left
             ·intro w'
              go_simp
              with_reducible rfl
             rotate_left
             ·simp only [Act.put, List.setIfInBounds_toArray, List.set_cons_zero, List.set_cons_succ, i64_w, i32_w]
              rfl
             refine pure_ (i := 28) (N := some 69) (v := ?_) (a' := ?_) #[true, true, true, true, true, true, true, true, true, true, true, true, true, true, true, true, true, true, true, true, true, true, true, true, true, true, true, false, true, false, false, false, false, false, false, false, false, false, false, false, false, false, false, false, false, false, false, false, false, false, false, false, false, false, false, false, false, false, false, false, false, false, false, false, false, false, false, false, false, false, false, false, false, false, false, false, false, false, false, false, false, false, false, false, false, false, false, false, false, false, false, false, false, false, false, false, false, false, false, false, false, false] rfl rfl (any_of HT_.out (by kernel_rfl)) (fun _ _ _ h => h) (Or.inl ⟨by rfl, ?_⟩) ?_ ?_
             rotate_left
             ·intro w'
              go_simp
              with_reducible rfl
             rotate_left
             ·simp only [Act.put, List.setIfInBounds_toArray, List.set_cons_zero, List.set_cons_succ, i64_w, i32_w]
              rfl
             refine pure_ (i := 31) (N := some 72) (v := ?_) (a' := ?_) #[true, true, true, true, true, true, true, true, true, true, true, true, true, true, true, true, true, true, true, true, true, true, true, true, true, true, true, false, true, false, false, true, false, false, false, false, false, false, false, false, false, false, false, false, false, false, false, false, false, false, false, false, false, false, false, false, false, false, false, false, false, false, false, false, false, false, false, false, false, false, false, false, false, false, false, false, false, false, false, false, false, false, false, false, false, false, false, false, false, false, false, false, false, false, false, false, false, false, false, false, false, false] rfl rfl (any_of HT_.out (by kernel_rfl)) (fun _ _ _ h => h) (Or.inl ⟨by rfl, ?_⟩) ?_ ?_
             rotate_left
             ·intro w'
              go_simp
              with_reducible rfl
             rotate_left
             ·simp only [Act.put, List.setIfInBounds_toArray, List.set_cons_zero, List.set_cons_succ, i64_w, i32_w]
              rfl
             refine take_ (i := 27) (N := some 68) (v := ?_) (a' := ?_) #[true, true, true, true, true, true, true, true, true, true, true, true, true, true, true, true, true, true, true, true, true, true, true, true, true, true, true, true, true, false, false, true, false, false, false, false, false, false, false, false, false, false, false, false, false, false, false, false, false, false, false, false, false, false, false, false, false, false, false, false, false, false, false, false, false, false, false, false, false, false, false, false, false, false, false, false, false, false, false, false, false, false, false, false, false, false, false, false, false, false, false, false, false, false, false, false, false, false, false, false, false, false] rfl rfl (take_ofW HT_.out HW_.out (by kernel_rfl)) (fun _ _ _ h => h) (Or.inl ⟨by rfl, ?_⟩) hHeld ?_ ?_
             rotate_left
             ·rintro w' ⟨s0, s1, s2, s3, s4, s5, s6, s7⟩
              go_simp
              with_reducible rfl
             rotate_left
             ·simp only [Act.put, List.setIfInBounds_toArray, List.set_cons_zero, List.set_cons_succ, i64_w, i32_w]
              rfl
             refine take_ (i := 30) (N := some 71) (v := ?_) (a' := ?_) #[true, true, true, true, true, true, true, true, true, true, true, true, true, true, true, true, true, true, true, true, true, true, true, true, true, true, true, true, true, false, true, true, false, false, false, false, false, false, false, false, false, false, false, false, false, false, false, false, false, false, false, false, false, false, false, false, false, false, false, false, false, false, false, false, false, false, false, false, false, false, false, false, false, false, false, false, false, false, false, false, false, false, false, false, false, false, false, false, false, false, false, false, false, false, false, false, false, false, false, false, false, false] rfl rfl (take_ofW HT_.out HW_.out (by kernel_rfl)) (fun _ _ _ h => h) (Or.inl ⟨by rfl, ?_⟩) hHeld ?_ ?_
             rotate_left
             ·rintro w' ⟨s0, s1, s2, s3, s4, s5, s6, s7⟩
              go_simp
              with_reducible rfl
             rotate_left
             ·simp only [Act.put, List.setIfInBounds_toArray, List.set_cons_zero, List.set_cons_succ, i64_w, i32_w]
              rfl
             refine one_ (i := 29) (N := some 70) #[true, true, true, true, true, true, true, true, true, true, true, true, true, true, true, true, true, true, true, true, true, true, true, true, true, true, true, true, true, true, true, true, false, false, false, false, false, false, false, false, false, false, false, false, false, false, false, false, false, false, false, false, false, false, false, false, false, false, false, false, false, false, false, false, false, false, false, false, false, false, false, false, false, false, false, false, false, false, false, false, false, false, false, false, false, false, false, false, false, false, false, false, false, false, false, false, false, false, false, false, false, false] rfl rfl (one_of HT_.out (by kernel_rfl)) (by decide) (fun K hK => ?_)
             refine goes_ Try.func39 (by kernel_rfl) rfl #[.agg #[.int .i64 t188, .int .i64 t189], .int .i64 a4] (by rfl) rfl rfl (by (try simp only [List.map_toArray, List.map_cons, List.map_nil]); first | done | rfl | (simp only [List.length_drop, List.length_take]; rfl)) ?_
             with_reducible refine (span_Scale.calls k t188 t189 a4 t215 t216 _ A24.out).mono ?_
             rintro e w84 ⟨rfl, hb⟩
             refine ⟨_, rfl, ?_⟩
             have n0_ := Aside0.mk (blk_below (g := gb190) (o := .cells #[.int .i64 t188, .int .i64 t189] 24 (0, 0)) (by (with_reducible repeat (first | refine blk_drewN ?_ _ | refine blk_drew ?_ | refine blk_alloc ?_ _)); exact BK190.out) hb)
             have n1_ := Aside0.mk (blk_below (g := gb193) (o := .cells #[.int .i64 t191, .int .i64 t192] 24 (0, 0)) (by (with_reducible repeat (first | refine blk_drewN ?_ _ | refine blk_drew ?_ | refine blk_alloc ?_ _)); exact BK193.out) hb)
             have n2_ := Aside0.mk (blk_below (g := gb197) (o := .cells #[.int .i64 t194, .int .i64 t195] 24 (0, 0)) (by (with_reducible repeat (first | refine blk_drewN ?_ _ | refine blk_drew ?_ | refine blk_alloc ?_ _)); exact BK197.out) hb)
             have n3_ := Aside0.mk (blk_below (g := gb201) (o := .cells #[.int .i64 t198, .int .i64 t199] 24 (0, 0)) (by (with_reducible repeat (first | refine blk_drewN ?_ _ | refine blk_drew ?_ | refine blk_alloc ?_ _)); exact BK201.out) hb)
             have n4_ := Aside0.mk (below_step (by repeat (first | (with_reducible first | exact HB.out | apply below_alloc | apply pw_below_drewN | apply below_drew1 | refine below_set ?_ GE190.out | refine below_set ?_ GE193.out | refine below_set ?_ GE197.out | refine below_set ?_ GE201.out) | exact HB.out)) hb)
             clear BK190
             clear BK193
             clear BK197
             clear BK201
             clear HB
             have BK190 := n0_
             have BK193 := n1_
             have BK197 := n2_
             have BK201 := n3_
             have HB := n4_
             clear n0_ n1_ n2_ n3_ n4_
             (try clear hb)
             (try clear hb2)
             (try clear hk)
             (try clear hi)
             refine hK.out _ _ ⟨(blk_cell BK190.out 0).trans rfl, (blk_cell BK190.out 1).trans rfl, (blk_cell BK193.out 0).trans rfl, (blk_cell BK193.out 1).trans rfl, (blk_cell BK197.out 0).trans rfl, (blk_cell BK197.out 1).trans rfl, (blk_cell BK201.out 0).trans rfl, (blk_cell BK201.out 1).trans rfl⟩ (fun hHeld => ?_)
             clear hK K
             refine norm_ (a' := ?_) ?_ ?_
             rotate_left
             ·show Act.put _ (some 70) _ = _
              simp only [Act.put, List.setIfInBounds_toArray, List.set_cons_zero, List.set_cons_succ, i64_w, i32_w]
              rfl
             refine one_ (i := 32) (N := some 73) #[true, true, true, true, true, true, true, true, true, true, true, true, true, true, true, true, true, true, true, true, true, true, true, true, true, true, true, true, true, true, true, true, true, false, false, false, false, false, false, false, false, false, false, false, false, false, false, false, false, false, false, false, false, false, false, false, false, false, false, false, false, false, false, false, false, false, false, false, false, false, false, false, false, false, false, false, false, false, false, false, false, false, false, false, false, false, false, false, false, false, false, false, false, false, false, false, false, false, false, false, false, false] rfl rfl (one_of HT_.out (by kernel_rfl)) (by decide) (fun K hK => ?_)
             refine goes_ Try.func46 (by kernel_rfl) rfl #[.agg #[.int .i64 t188, .int .i64 t189], .int .i64 a4] (by rfl) rfl rfl (by (try simp only [List.map_toArray, List.map_cons, List.map_nil]); first | done | rfl | (simp only [List.length_drop, List.length_take]; rfl)) ?_
             with_reducible refine (dynamoref1_Scale.calls k t188 t189 a4 t217 t218 _ A25.out).mono ?_
             rintro e w85 ⟨rfl, hb⟩
             refine ⟨_, rfl, ?_⟩
             have n0_ := Aside0.mk (blk_below (g := gb190) (o := .cells #[.int .i64 t188, .int .i64 t189] 24 (0, 0)) (by (with_reducible repeat (first | refine blk_drewN ?_ _ | refine blk_drew ?_ | refine blk_alloc ?_ _)); exact BK190.out) hb)
             have n1_ := Aside0.mk (blk_below (g := gb193) (o := .cells #[.int .i64 t191, .int .i64 t192] 24 (0, 0)) (by (with_reducible repeat (first | refine blk_drewN ?_ _ | refine blk_drew ?_ | refine blk_alloc ?_ _)); exact BK193.out) hb)
             have n2_ := Aside0.mk (blk_below (g := gb197) (o := .cells #[.int .i64 t194, .int .i64 t195] 24 (0, 0)) (by (with_reducible repeat (first | refine blk_drewN ?_ _ | refine blk_drew ?_ | refine blk_alloc ?_ _)); exact BK197.out) hb)
             have n3_ := Aside0.mk (blk_below (g := gb201) (o := .cells #[.int .i64 t198, .int .i64 t199] 24 (0, 0)) (by (with_reducible repeat (first | refine blk_drewN ?_ _ | refine blk_drew ?_ | refine blk_alloc ?_ _)); exact BK201.out) hb)
             have n4_ := Aside0.mk (below_step (by repeat (first | (with_reducible first | exact HB.out | apply below_alloc | apply pw_below_drewN | apply below_drew1 | refine below_set ?_ GE190.out | refine below_set ?_ GE193.out | refine below_set ?_ GE197.out | refine below_set ?_ GE201.out) | exact HB.out)) hb)
             clear BK190
             clear BK193
             clear BK197
             clear BK201
             clear HB
             have BK190 := n0_
             have BK193 := n1_
             have BK197 := n2_
             have BK201 := n3_
             have HB := n4_
             clear n0_ n1_ n2_ n3_ n4_
             (try clear hb)
             (try clear hb2)
             (try clear hk)
             (try clear hi)
             refine hK.out _ _ ⟨(blk_cell BK190.out 0).trans rfl, (blk_cell BK190.out 1).trans rfl, (blk_cell BK193.out 0).trans rfl, (blk_cell BK193.out 1).trans rfl, (blk_cell BK197.out 0).trans rfl, (blk_cell BK197.out 1).trans rfl, (blk_cell BK201.out 0).trans rfl, (blk_cell BK201.out 1).trans rfl⟩ (fun hHeld => ?_)
             clear hK K
             refine norm_ (a' := ?_) ?_ ?_
             rotate_left
             ·show Act.put _ (some 73) _ = _
              simp only [Act.put, List.setIfInBounds_toArray, List.set_cons_zero, List.set_cons_succ, i64_w, i32_w]
              rfl
             refine one_ (i := 33) (N := some 74) #[true, true, true, true, true, true, true, true, true, true, true, true, true, true, true, true, true, true, true, true, true, true, true, true, true, true, true, true, true, true, true, true, true, true, false, false, false, false, false, false, false, false, false, false, false, false, false, false, false, false, false, false, false, false, false, false, false, false, false, false, false, false, false, false, false, false, false, false, false, false, false, false, false, false, false, false, false, false, false, false, false, false, false, false, false, false, false, false, false, false, false, false, false, false, false, false, false, false, false, false, false, false] rfl rfl (one_of HT_.out (by kernel_rfl)) (by decide) (fun K hK => ?_)
             refine goes_ Try.func17 (by kernel_rfl) rfl #[.agg #[.int .i64 t215, .int .i64 t216], .agg #[.int .i64 t217, .int .i64 t218]] (by rfl) rfl rfl (by (try simp only [List.map_toArray, List.map_cons, List.map_nil]); first | done | rfl | (simp only [List.length_drop, List.length_take]; rfl)) ?_
             with_reducible refine (dynamoref_SameSpan.calls t215 t216 t217 t218 true _ A26.out).mono ?_
             rintro e w86 ⟨rfl, hb⟩
             refine ⟨_, rfl, ?_⟩
             have n0_ := Aside0.mk (blk_below (g := gb190) (o := .cells #[.int .i64 t188, .int .i64 t189] 24 (0, 0)) (by (with_reducible repeat (first | refine blk_drewN ?_ _ | refine blk_drew ?_ | refine blk_alloc ?_ _)); exact BK190.out) hb)
             have n1_ := Aside0.mk (blk_below (g := gb193) (o := .cells #[.int .i64 t191, .int .i64 t192] 24 (0, 0)) (by (with_reducible repeat (first | refine blk_drewN ?_ _ | refine blk_drew ?_ | refine blk_alloc ?_ _)); exact BK193.out) hb)
             have n2_ := Aside0.mk (blk_below (g := gb197) (o := .cells #[.int .i64 t194, .int .i64 t195] 24 (0, 0)) (by (with_reducible repeat (first | refine blk_drewN ?_ _ | refine blk_drew ?_ | refine blk_alloc ?_ _)); exact BK197.out) hb)
             have n3_ := Aside0.mk (blk_below (g := gb201) (o := .cells #[.int .i64 t198, .int .i64 t199] 24 (0, 0)) (by (with_reducible repeat (first | refine blk_drewN ?_ _ | refine blk_drew ?_ | refine blk_alloc ?_ _)); exact BK201.out) hb)
             have n4_ := Aside0.mk (below_step (by repeat (first | (with_reducible first | exact HB.out | apply below_alloc | apply pw_below_drewN | apply below_drew1 | refine below_set ?_ GE190.out | refine below_set ?_ GE193.out | refine below_set ?_ GE197.out | refine below_set ?_ GE201.out) | exact HB.out)) hb)
             clear BK190
             clear BK193
             clear BK197
             clear BK201
             clear HB
             have BK190 := n0_
             have BK193 := n1_
             have BK197 := n2_
             have BK201 := n3_
             have HB := n4_
             clear n0_ n1_ n2_ n3_ n4_
             (try clear hb)
             (try clear hb2)
             (try clear hk)
             (try clear hi)
             refine hK.out _ _ ⟨(blk_cell BK190.out 0).trans rfl, (blk_cell BK190.out 1).trans rfl, (blk_cell BK193.out 0).trans rfl, (blk_cell BK193.out 1).trans rfl, (blk_cell BK197.out 0).trans rfl, (blk_cell BK197.out 1).trans rfl, (blk_cell BK201.out 0).trans rfl, (blk_cell BK201.out 1).trans rfl⟩ (fun hHeld => ?_)
             clear hK K
             refine norm_ (a' := ?_) ?_ ?_
             rotate_left
             ·show Act.put _ (some 74) _ = _
              simp only [Act.put, List.setIfInBounds_toArray, List.set_cons_zero, List.set_cons_succ, i64_w, i32_w]
              rfl
             refine pure_ (i := 34) (N := some 75) (v := ?_) (a' := ?_) #[true, true, true, true, true, true, true, true, true, true, true, true, true, true, true, true, true, true, true, true, true, true, true, true, true, true, true, true, true, true, true, true, true, true, true, false, false, false, false, false, false, false, false, false, false, false, false, false, false, false, false, false, false, false, false, false, false, false, false, false, false, false, false, false, false, false, false, false, false, false, false, false, false, false, false, false, false, false, false, false, false, false, false, false, false, false, false, false, false, false, false, false, false, false, false, false, false, false, false, false, false, false] rfl rfl (any_of HT_.out (by kernel_rfl)) (fun _ _ _ h => h) (Or.inl ⟨by rfl, ?_⟩) ?_ ?_
             rotate_left
             ·intro w'
              go_simp
              with_reducible rfl
             rotate_left
             ·simp only [Act.put, List.setIfInBounds_toArray, List.set_cons_zero, List.set_cons_succ, i64_w, i32_w]
              rfl
             refine pure_ (i := 35) (N := some 76) (v := ?_) (a' := ?_) #[true, true, true, true, true, true, true, true, true, true, true, true, true, true, true, true, true, true, true, true, true, true, true, true, true, true, true, true, true, true, true, true, true, true, true, true, false, false, false, false, false, false, false, false, false, false, false, false, false, false, false, false, false, false, false, false, false, false, false, false, false, false, false, false, false, false, false, false, false, false, false, false, false, false, false, false, false, false, false, false, false, false, false, false, false, false, false, false, false, false, false, false, false, false, false, false, false, false, false, false, false, false] rfl rfl (any_of HT_.out (by kernel_rfl)) (fun _ _ _ h => h) (Or.inl ⟨by rfl, ?_⟩) ?_ ?_
             rotate_left
             ·intro w'
              go_simp
              with_reducible rfl
             rotate_left
             ·simp only [Act.put, List.setIfInBounds_toArray, List.set_cons_zero, List.set_cons_succ, i64_w, i32_w]
              rfl
             refine pure_ (i := 37) (N := some 78) (v := ?_) (a' := ?_) #[true, true, true, true, true, true, true, true, true, true, true, true, true, true, true, true, true, true, true, true, true, true, true, true, true, true, true, true, true, true, true, true, true, true, true, true, false, true, false, false, false, false, false, false, false, false, false, false, false, false, false, false, false, false, false, false, false, false, false, false, false, false, false, false, false, false, false, false, false, false, false, false, false, false, false, false, false, false, false, false, false, false, false, false, false, false, false, false, false, false, false, false, false, false, false, false, false, false, false, false, false, false] rfl rfl (any_of HT_.out (by kernel_rfl)) (fun _ _ _ h => h) (Or.inl ⟨by rfl, ?_⟩) ?_ ?_
             rotate_left
             ·intro w'
              go_simp
              with_reducible rfl
             rotate_left
             ·simp only [Act.put, List.setIfInBounds_toArray, List.set_cons_zero, List.set_cons_succ, i64_w, i32_w]
              rfl
             refine pure_ (i := 40) (N := some 81) (v := ?_) (a' := ?_) #[true, true, true, true, true, true, true, true, true, true, true, true, true, true, true, true, true, true, true, true, true, true, true, true, true, true, true, true, true, true, true, true, true, true, true, true, false, true, false, false, true, false, false, false, false, false, false, false, false, false, false, false, false, false, false, false, false, false, false, false, false, false, false, false, false, false, false, false, false, false, false, false, false, false, false, false, false, false, false, false, false, false, false, false, false, false, false, false, false, false, false, false, false, false, false, false, false, false, false, false, false, false] rfl rfl (any_of HT_.out (by kernel_rfl)) (fun _ _ _ h => h) (Or.inl ⟨by rfl, ?_⟩) ?_ ?_
             rotate_left
             ·intro w'
              go_simp
              with_reducible rfl
             rotate_left
             ·simp only [Act.put, List.setIfInBounds_toArray, List.set_cons_zero, List.set_cons_succ, i64_w, i32_w]
              rfl
             refine take_ (i := 36) (N := some 77) (v := ?_) (a' := ?_) #[true, true, true, true, true, true, true, true, true, true, true, true, true, true, true, true, true, true, true, true, true, true, true, true, true, true, true, true, true, true, true, true, true, true, true, true, true, true, false, false, true, false, false, false, false, false, false, false, false, false, false, false, false, false, false, false, false, false, false, false, false, false, false, false, false, false, false, false, false, false, false, false, false, false, false, false, false, false, false, false, false, false, false, false, false, false, false, false, false, false, false, false, false, false, false, false, false, false, false, false, false, false] rfl rfl (take_ofW HT_.out HW_.out (by kernel_rfl)) (fun _ _ _ h => h) (Or.inl ⟨by rfl, ?_⟩) hHeld ?_ ?_
             rotate_left
             ·rintro w' ⟨s0, s1, s2, s3, s4, s5, s6, s7⟩
              go_simp
              with_reducible rfl
             rotate_left
             ·simp only [Act.put, List.setIfInBounds_toArray, List.set_cons_zero, List.set_cons_succ, i64_w, i32_w]
              rfl
             refine take_ (i := 39) (N := some 80) (v := ?_) (a' := ?_) #[true, true, true, true, true, true, true, true, true, true, true, true, true, true, true, true, true, true, true, true, true, true, true, true, true, true, true, true, true, true, true, true, true, true, true, true, true, true, false, true, true, false, false, false, false, false, false, false, false, false, false, false, false, false, false, false, false, false, false, false, false, false, false, false, false, false, false, false, false, false, false, false, false, false, false, false, false, false, false, false, false, false, false, false, false, false, false, false, false, false, false, false, false, false, false, false, false, false, false, false, false, false] rfl rfl (take_ofW HT_.out HW_.out (by kernel_rfl)) (fun _ _ _ h => h) (Or.inl ⟨by rfl, ?_⟩) hHeld ?_ ?_
             rotate_left
             ·rintro w' ⟨s0, s1, s2, s3, s4, s5, s6, s7⟩
              go_simp
              with_reducible rfl
             rotate_left
             ·simp only [Act.put, List.setIfInBounds_toArray, List.set_cons_zero, List.set_cons_succ, i64_w, i32_w]
              rfl
             refine one_ (i := 38) (N := some 79) #[true, true, true, true, true, true, true, true, true, true, true, true, true, true, true, true, true, true, true, true, true, true, true, true, true, true, true, true, true, true, true, true, true, true, true, true, true, true, true, true, true, false, false, false, false, false, false, false, false, false, false, false, false, false, false, false, false, false, false, false, false, false, false, false, false, false, false, false, false, false, false, false, false, false, false, false, false, false, false, false, false, false, false, false, false, false, false, false, false, false, false, false, false, false, false, false, false, false, false, false, false, false] rfl rfl (one_of HT_.out (by kernel_rfl)) (by decide) (fun K hK => ?_)
             refine goes_ Try.func40 (by kernel_rfl) rfl #[.agg #[.int .i64 t188, .int .i64 t189], .int .i64 a4] (by rfl) rfl rfl (by (try simp only [List.map_toArray, List.map_cons, List.map_nil]); first | done | rfl | (simp only [List.length_drop, List.length_take]; rfl)) ?_
             with_reducible refine (span_Shrink.calls t188 t189 a4 t220 t221 _ A28.out).mono ?_
             rintro e w87 ⟨rfl, hb⟩
             refine ⟨_, rfl, ?_⟩
             have n0_ := Aside0.mk (blk_below (g := gb190) (o := .cells #[.int .i64 t188, .int .i64 t189] 24 (0, 0)) (by (with_reducible repeat (first | refine blk_drewN ?_ _ | refine blk_drew ?_ | refine blk_alloc ?_ _)); exact BK190.out) hb)
             have n1_ := Aside0.mk (blk_below (g := gb193) (o := .cells #[.int .i64 t191, .int .i64 t192] 24 (0, 0)) (by (with_reducible repeat (first | refine blk_drewN ?_ _ | refine blk_drew ?_ | refine blk_alloc ?_ _)); exact BK193.out) hb)
             have n2_ := Aside0.mk (blk_below (g := gb197) (o := .cells #[.int .i64 t194, .int .i64 t195] 24 (0, 0)) (by (with_reducible repeat (first | refine blk_drewN ?_ _ | refine blk_drew ?_ | refine blk_alloc ?_ _)); exact BK197.out) hb)
             have n3_ := Aside0.mk (blk_below (g := gb201) (o := .cells #[.int .i64 t198, .int .i64 t199] 24 (0, 0)) (by (with_reducible repeat (first | refine blk_drewN ?_ _ | refine blk_drew ?_ | refine blk_alloc ?_ _)); exact BK201.out) hb)
             have n4_ := Aside0.mk (below_step (by repeat (first | (with_reducible first | exact HB.out | apply below_alloc | apply pw_below_drewN | apply below_drew1 | refine below_set ?_ GE190.out | refine below_set ?_ GE193.out | refine below_set ?_ GE197.out | refine below_set ?_ GE201.out) | exact HB.out)) hb)
             clear BK190
             clear BK193
             clear BK197
             clear BK201
             clear HB
             have BK190 := n0_
             have BK193 := n1_
             have BK197 := n2_
             have BK201 := n3_
             have HB := n4_
             clear n0_ n1_ n2_ n3_ n4_
             (try clear hb)
             (try clear hb2)
             (try clear hk)
             (try clear hi)
             refine hK.out _ _ ⟨(blk_cell BK190.out 0).trans rfl, (blk_cell BK190.out 1).trans rfl, (blk_cell BK193.out 0).trans rfl, (blk_cell BK193.out 1).trans rfl, (blk_cell BK197.out 0).trans rfl, (blk_cell BK197.out 1).trans rfl, (blk_cell BK201.out 0).trans rfl, (blk_cell BK201.out 1).trans rfl⟩ (fun hHeld => ?_)
             clear hK K
             refine norm_ (a' := ?_) ?_ ?_
             rotate_left
             ·show Act.put _ (some 79) _ = _
              simp only [Act.put, List.setIfInBounds_toArray, List.set_cons_zero, List.set_cons_succ, i64_w, i32_w]
              rfl
             refine one_ (i := 41) (N := some 82) #[true, true, true, true, true, true, true, true, true, true, true, true, true, true, true, true, true, true, true, true, true, true, true, true, true, true, true, true, true, true, true, true, true, true, true, true, true, true, true, true, true, true, false, false, false, false, false, false, false, false, false, false, false, false, false, false, false, false, false, false, false, false, false, false, false, false, false, false, false, false, false, false, false, false, false, false, false, false, false, false, false, false, false, false, false, false, false, false, false, false, false, false, false, false, false, false, false, false, false, false, false, false] rfl rfl (one_of HT_.out (by kernel_rfl)) (by decide) (fun K hK => ?_)
             refine goes_ Try.func47 (by kernel_rfl) rfl #[.agg #[.int .i64 t188, .int .i64 t189], .int .i64 a4] (by rfl) rfl rfl (by (try simp only [List.map_toArray, List.map_cons, List.map_nil]); first | done | rfl | (simp only [List.length_drop, List.length_take]; rfl)) ?_
             with_reducible refine (dynamoref1_Shrink.calls t188 t189 a4 t222 t223 _ A29.out).mono ?_
             rintro e w88 ⟨rfl, hb⟩
             refine ⟨_, rfl, ?_⟩
             have n0_ := Aside0.mk (blk_below (g := gb190) (o := .cells #[.int .i64 t188, .int .i64 t189] 24 (0, 0)) (by (with_reducible repeat (first | refine blk_drewN ?_ _ | refine blk_drew ?_ | refine blk_alloc ?_ _)); exact BK190.out) hb)
             have n1_ := Aside0.mk (blk_below (g := gb193) (o := .cells #[.int .i64 t191, .int .i64 t192] 24 (0, 0)) (by (with_reducible repeat (first | refine blk_drewN ?_ _ | refine blk_drew ?_ | refine blk_alloc ?_ _)); exact BK193.out) hb)
             have n2_ := Aside0.mk (blk_below (g := gb197) (o := .cells #[.int .i64 t194, .int .i64 t195] 24 (0, 0)) (by (with_reducible repeat (first | refine blk_drewN ?_ _ | refine blk_drew ?_ | refine blk_alloc ?_ _)); exact BK197.out) hb)
             have n3_ := Aside0.mk (blk_below (g := gb201) (o := .cells #[.int .i64 t198, .int .i64 t199] 24 (0, 0)) (by (with_reducible repeat (first | refine blk_drewN ?_ _ | refine blk_drew ?_ | refine blk_alloc ?_ _)); exact BK201.out) hb)
             have n4_ := Aside0.mk (below_step (by repeat (first | (with_reducible first | exact HB.out | apply below_alloc | apply pw_below_drewN | apply below_drew1 | refine below_set ?_ GE190.out | refine below_set ?_ GE193.out | refine below_set ?_ GE197.out | refine below_set ?_ GE201.out) | exact HB.out)) hb)
             clear BK190
             clear BK193
             clear BK197
             clear BK201
             clear HB
             have BK190 := n0_
             have BK193 := n1_
             have BK197 := n2_
             have BK201 := n3_
             have HB := n4_
             clear n0_ n1_ n2_ n3_ n4_
             (try clear hb)
             (try clear hb2)
             (try clear hk)
             (try clear hi)
             refine hK.out _ _ ⟨(blk_cell BK190.out 0).trans rfl, (blk_cell BK190.out 1).trans rfl, (blk_cell BK193.out 0).trans rfl, (blk_cell BK193.out 1).trans rfl, (blk_cell BK197.out 0).trans rfl, (blk_cell BK197.out 1).trans rfl, (blk_cell BK201.out 0).trans rfl, (blk_cell BK201.out 1).trans rfl⟩ (fun hHeld => ?_)
             clear hK K
             refine norm_ (a' := ?_) ?_ ?_
             rotate_left
             ·show Act.put _ (some 82) _ = _
              simp only [Act.put, List.setIfInBounds_toArray, List.set_cons_zero, List.set_cons_succ, i64_w, i32_w]
              rfl
             refine one_ (i := 42) (N := some 83) #[true, true, true, true, true, true, true, true, true, true, true, true, true, true, true, true, true, true, true, true, true, true, true, true, true, true, true, true, true, true, true, true, true, true, true, true, true, true, true, true, true, true, true, false, false, false, false, false, false, false, false, false, false, false, false, false, false, false, false, false, false, false, false, false, false, false, false, false, false, false, false, false, false, false, false, false, false, false, false, false, false, false, false, false, false, false, false, false, false, false, false, false, false, false, false, false, false, false, false, false, false, false] rfl rfl (one_of HT_.out (by kernel_rfl)) (by decide) (fun K hK => ?_)
             refine goes_ Try.func17 (by kernel_rfl) rfl #[.agg #[.int .i64 t220, .int .i64 t221], .agg #[.int .i64 t222, .int .i64 t223]] (by rfl) rfl rfl (by (try simp only [List.map_toArray, List.map_cons, List.map_nil]); first | done | rfl | (simp only [List.length_drop, List.length_take]; rfl)) ?_
             with_reducible refine (dynamoref_SameSpan.calls t220 t221 t222 t223 true _ A30.out).mono ?_
             rintro e w89 ⟨rfl, hb⟩
             refine ⟨_, rfl, ?_⟩
             have n0_ := Aside0.mk (blk_below (g := gb190) (o := .cells #[.int .i64 t188, .int .i64 t189] 24 (0, 0)) (by (with_reducible repeat (first | refine blk_drewN ?_ _ | refine blk_drew ?_ | refine blk_alloc ?_ _)); exact BK190.out) hb)
             have n1_ := Aside0.mk (blk_below (g := gb193) (o := .cells #[.int .i64 t191, .int .i64 t192] 24 (0, 0)) (by (with_reducible repeat (first | refine blk_drewN ?_ _ | refine blk_drew ?_ | refine blk_alloc ?_ _)); exact BK193.out) hb)
             have n2_ := Aside0.mk (blk_below (g := gb197) (o := .cells #[.int .i64 t194, .int .i64 t195] 24 (0, 0)) (by (with_reducible repeat (first | refine blk_drewN ?_ _ | refine blk_drew ?_ | refine blk_alloc ?_ _)); exact BK197.out) hb)
             have n3_ := Aside0.mk (blk_below (g := gb201) (o := .cells #[.int .i64 t198, .int .i64 t199] 24 (0, 0)) (by (with_reducible repeat (first | refine blk_drewN ?_ _ | refine blk_drew ?_ | refine blk_alloc ?_ _)); exact BK201.out) hb)
             have n4_ := Aside0.mk (below_step (by repeat (first | (with_reducible first | exact HB.out | apply below_alloc | apply pw_below_drewN | apply below_drew1 | refine below_set ?_ GE190.out | refine below_set ?_ GE193.out | refine below_set ?_ GE197.out | refine below_set ?_ GE201.out) | exact HB.out)) hb)
             clear BK190
             clear BK193
             clear BK197
             clear BK201
             clear HB
             have BK190 := n0_
             have BK193 := n1_
             have BK197 := n2_
             have BK201 := n3_
             have HB := n4_
             clear n0_ n1_ n2_ n3_ n4_
             (try clear hb)
             (try clear hb2)
             (try clear hk)
             (try clear hi)
             refine hK.out _ _ ⟨(blk_cell BK190.out 0).trans rfl, (blk_cell BK190.out 1).trans rfl, (blk_cell BK193.out 0).trans rfl, (blk_cell BK193.out 1).trans rfl, (blk_cell BK197.out 0).trans rfl, (blk_cell BK197.out 1).trans rfl, (blk_cell BK201.out 0).trans rfl, (blk_cell BK201.out 1).trans rfl⟩ (fun hHeld => ?_)
             clear hK K
             refine norm_ (a' := ?_) ?_ ?_
             rotate_left
             ·show Act.put _ (some 83) _ = _
              simp only [Act.put, List.setIfInBounds_toArray, List.set_cons_zero, List.set_cons_succ, i64_w, i32_w]
              rfl
             refine pure_ (i := 43) (N := some 84) (v := ?_) (a' := ?_) #[true, true, true, true, true, true, true, true, true, true, true, true, true, true, true, true, true, true, true, true, true, true, true, true, true, true, true, true, true, true, true, true, true, true, true, true, true, true, true, true, true, true, true, true, false, false, false, false, false, false, false, false, false, false, false, false, false, false, false, false, false, false, false, false, false, false, false, false, false, false, false, false, false, false, false, false, false, false, false, false, false, false, false, false, false, false, false, false, false, false, false, false, false, false, false, false, false, false, false, false, false, false] rfl rfl (any_of HT_.out (by kernel_rfl)) (fun _ _ _ h => h) (Or.inl ⟨by rfl, ?_⟩) ?_ ?_
             rotate_left
             ·intro w'
              go_simp
              with_reducible rfl
             rotate_left
             ·simp only [Act.put, List.setIfInBounds_toArray, List.set_cons_zero, List.set_cons_succ, i64_w, i32_w]
              rfl
             refine pure_ (i := 44) (N := some 85) (v := ?_) (a' := ?_) #[true, true, true, true, true, true, true, true, true, true, true, true, true, true, true, true, true, true, true, true, true, true, true, true, true, true, true, true, true, true, true, true, true, true, true, true, true, true, true, true, true, true, true, true, true, false, false, false, false, false, false, false, false, false, false, false, false, false, false, false, false, false, false, false, false, false, false, false, false, false, false, false, false, false, false, false, false, false, false, false, false, false, false, false, false, false, false, false, false, false, false, false, false, false, false, false, false, false, false, false, false, false] rfl rfl (any_of HT_.out (by kernel_rfl)) (fun _ _ _ h => h) (Or.inl ⟨by rfl, ?_⟩) ?_ ?_
             rotate_left
             ·intro w'
              go_simp
              with_reducible rfl
             rotate_left
             ·simp only [Act.put, List.setIfInBounds_toArray, List.set_cons_zero, List.set_cons_succ, i64_w, i32_w]
              rfl
             refine take_ (i := 45) (N := some 86) (v := ?_) (a' := ?_) #[true, true, true, true, true, true, true, true, true, true, true, true, true, true, true, true, true, true, true, true, true, true, true, true, true, true, true, true, true, true, true, true, true, true, true, true, true, true, true, true, true, true, true, true, true, true, false, false, false, false, false, false, false, false, false, false, false, false, false, false, false, false, false, false, false, false, false, false, false, false, false, false, false, false, false, false, false, false, false, false, false, false, false, false, false, false, false, false, false, false, false, false, false, false, false, false, false, false, false, false, false, false] rfl rfl (take_ofW HT_.out HW_.out (by kernel_rfl)) (fun _ _ _ h => h) (Or.inl ⟨by rfl, ?_⟩) hHeld ?_ ?_
             rotate_left
             ·rintro w' ⟨s0, s1, s2, s3, s4, s5, s6, s7⟩
              go_simp
              with_reducible rfl
             rotate_left
             ·simp only [Act.put, List.setIfInBounds_toArray, List.set_cons_zero, List.set_cons_succ, i64_w, i32_w]
              rfl
             refine take_ (i := 46) (N := some 87) (v := ?_) (a' := ?_) #[true, true, true, true, true, true, true, true, true, true, true, true, true, true, true, true, true, true, true, true, true, true, true, true, true, true, true, true, true, true, true, true, true, true, true, true, true, true, true, true, true, true, true, true, true, true, true, false, false, false, false, false, false, false, false, false, false, false, false, false, false, false, false, false, false, false, false, false, false, false, false, false, false, false, false, false, false, false, false, false, false, false, false, false, false, false, false, false, false, false, false, false, false, false, false, false, false, false, false, false, false, false] rfl rfl (take_ofW HT_.out HW_.out (by kernel_rfl)) (fun _ _ _ h => h) (Or.inl ⟨by rfl, ?_⟩) hHeld ?_ ?_
             rotate_left
             ·rintro w' ⟨s0, s1, s2, s3, s4, s5, s6, s7⟩
              go_simp
              with_reducible rfl
             rotate_left
             ·simp only [Act.put, List.setIfInBounds_toArray, List.set_cons_zero, List.set_cons_succ, i64_w, i32_w]
              rfl
             refine take_ (i := 48) (N := some 89) (v := ?_) (a' := ?_) #[true, true, true, true, true, true, true, true, true, true, true, true, true, true, true, true, true, true, true, true, true, true, true, true, true, true, true, true, true, true, true, true, true, true, true, true, true, true, true, true, true, true, true, true, true, true, true, false, true, false, false, false, false, false, false, false, false, false, false, false, false, false, false, false, false, false, false, false, false, false, false, false, false, false, false, false, false, false, false, false, false, false, false, false, false, false, false, false, false, false, false, false, false, false, false, false, false, false, false, false, false, false] rfl rfl (take_ofW HT_.out HW_.out (by kernel_rfl)) (fun _ _ _ h => h) (Or.inl ⟨by rfl, ?_⟩) hHeld ?_ ?_
             rotate_left
             ·rintro w' ⟨s0, s1, s2, s3, s4, s5, s6, s7⟩
              go_simp
              with_reducible rfl
             rotate_left
             ·simp only [Act.put, List.setIfInBounds_toArray, List.set_cons_zero, List.set_cons_succ, i64_w, i32_w]
              rfl
             refine take_ (i := 49) (N := some 90) (v := ?_) (a' := ?_) #[true, true, true, true, true, true, true, true, true, true, true, true, true, true, true, true, true, true, true, true, true, true, true, true, true, true, true, true, true, true, true, true, true, true, true, true, true, true, true, true, true, true, true, true, true, true, true, false, true, true, false, false, false, false, false, false, false, false, false, false, false, false, false, false, false, false, false, false, false, false, false, false, false, false, false, false, false, false, false, false, false, false, false, false, false, false, false, false, false, false, false, false, false, false, false, false, false, false, false, false, false, false] rfl rfl (take_ofW HT_.out HW_.out (by kernel_rfl)) (fun _ _ _ h => h) (Or.inl ⟨by rfl, ?_⟩) hHeld ?_ ?_
             rotate_left
             ·rintro w' ⟨s0, s1, s2, s3, s4, s5, s6, s7⟩
              go_simp
              with_reducible rfl
             rotate_left
             ·simp only [Act.put, List.setIfInBounds_toArray, List.set_cons_zero, List.set_cons_succ, i64_w, i32_w]
              rfl
             refine one_ (i := 47) (N := some 88) #[true, true, true, true, true, true, true, true, true, true, true, true, true, true, true, true, true, true, true, true, true, true, true, true, true, true, true, true, true, true, true, true, true, true, true, true, true, true, true, true, true, true, true, true, true, true, true, true, true, true, false, false, false, false, false, false, false, false, false, false, false, false, false, false, false, false, false, false, false, false, false, false, false, false, false, false, false, false, false, false, false, false, false, false, false, false, false, false, false, false, false, false, false, false, false, false, false, false, false, false, false, false] rfl rfl (one_of HT_.out (by kernel_rfl)) (by decide) (fun K hK => ?_)
             refine goes_ Try.func16 (by kernel_rfl) rfl #[.agg #[.int .i64 t188, .int .i64 t189], .agg #[.int .i64 t191, .int .i64 t192]] (by rfl) rfl rfl (by (try simp only [List.map_toArray, List.map_cons, List.map_nil]); first | done | rfl | (simp only [List.length_drop, List.length_take]; rfl)) ?_
             with_reducible refine (span_Hull.calls t188 t189 t191 t192 t225 t226 _ A32.out).mono ?_
             rintro e w90 ⟨rfl, hb⟩
             refine ⟨_, rfl, ?_⟩
             have n0_ := Aside0.mk (blk_below (g := gb190) (o := .cells #[.int .i64 t188, .int .i64 t189] 24 (0, 0)) (by (with_reducible repeat (first | refine blk_drewN ?_ _ | refine blk_drew ?_ | refine blk_alloc ?_ _)); exact BK190.out) hb)
             have n1_ := Aside0.mk (blk_below (g := gb193) (o := .cells #[.int .i64 t191, .int .i64 t192] 24 (0, 0)) (by (with_reducible repeat (first | refine blk_drewN ?_ _ | refine blk_drew ?_ | refine blk_alloc ?_ _)); exact BK193.out) hb)
             have n2_ := Aside0.mk (blk_below (g := gb197) (o := .cells #[.int .i64 t194, .int .i64 t195] 24 (0, 0)) (by (with_reducible repeat (first | refine blk_drewN ?_ _ | refine blk_drew ?_ | refine blk_alloc ?_ _)); exact BK197.out) hb)
             have n3_ := Aside0.mk (blk_below (g := gb201) (o := .cells #[.int .i64 t198, .int .i64 t199] 24 (0, 0)) (by (with_reducible repeat (first | refine blk_drewN ?_ _ | refine blk_drew ?_ | refine blk_alloc ?_ _)); exact BK201.out) hb)
             have n4_ := Aside0.mk (below_step (by repeat (first | (with_reducible first | exact HB.out | apply below_alloc | apply pw_below_drewN | apply below_drew1 | refine below_set ?_ GE190.out | refine below_set ?_ GE193.out | refine below_set ?_ GE197.out | refine below_set ?_ GE201.out) | exact HB.out)) hb)
             clear BK190
             clear BK193
             clear BK197
             clear BK201
             clear HB
             have BK190 := n0_
             have BK193 := n1_
             have BK197 := n2_
             have BK201 := n3_
             have HB := n4_
             clear n0_ n1_ n2_ n3_ n4_
             (try clear hb)
             (try clear hb2)
             (try clear hk)
             (try clear hi)
             refine hK.out _ _ ⟨(blk_cell BK190.out 0).trans rfl, (blk_cell BK190.out 1).trans rfl, (blk_cell BK193.out 0).trans rfl, (blk_cell BK193.out 1).trans rfl, (blk_cell BK197.out 0).trans rfl, (blk_cell BK197.out 1).trans rfl, (blk_cell BK201.out 0).trans rfl, (blk_cell BK201.out 1).trans rfl⟩ (fun hHeld => ?_)
             clear hK K
             refine norm_ (a' := ?_) ?_ ?_
             rotate_left
             ·show Act.put _ (some 88) _ = _
              simp only [Act.put, List.setIfInBounds_toArray, List.set_cons_zero, List.set_cons_succ, i64_w, i32_w]
              rfl
             refine one_ (i := 50) (N := some 91) #[true, true, true, true, true, true, true, true, true, true, true, true, true, true, true, true, true, true, true, true, true, true, true, true, true, true, true, true, true, true, true, true, true, true, true, true, true, true, true, true, true, true, true, true, true, true, true, true, true, true, true, false, false, false, false, false, false, false, false, false, false, false, false, false, false, false, false, false, false, false, false, false, false, false, false, false, false, false, false, false, false, false, false, false, false, false, false, false, false, false, false, false, false, false, false, false, false, false, false, false, false, false] rfl rfl (one_of HT_.out (by kernel_rfl)) (by decide) (fun K hK => ?_)
             refine goes_ Try.func48 (by kernel_rfl) rfl #[.agg #[.int .i64 t188, .int .i64 t189], .agg #[.int .i64 t191, .int .i64 t192]] (by rfl) rfl rfl (by (try simp only [List.map_toArray, List.map_cons, List.map_nil]); first | done | rfl | (simp only [List.length_drop, List.length_take]; rfl)) ?_
             with_reducible refine (dynamoref1_Hull.calls t188 t189 t191 t192 t227 t228 _ A33.out).mono ?_
             rintro e w91 ⟨rfl, hb⟩
             refine ⟨_, rfl, ?_⟩
             have n0_ := Aside0.mk (blk_below (g := gb190) (o := .cells #[.int .i64 t188, .int .i64 t189] 24 (0, 0)) (by (with_reducible repeat (first | refine blk_drewN ?_ _ | refine blk_drew ?_ | refine blk_alloc ?_ _)); exact BK190.out) hb)
             have n1_ := Aside0.mk (blk_below (g := gb193) (o := .cells #[.int .i64 t191, .int .i64 t192] 24 (0, 0)) (by (with_reducible repeat (first | refine blk_drewN ?_ _ | refine blk_drew ?_ | refine blk_alloc ?_ _)); exact BK193.out) hb)
             have n2_ := Aside0.mk (blk_below (g := gb197) (o := .cells #[.int .i64 t194, .int .i64 t195] 24 (0, 0)) (by (with_reducible repeat (first | refine blk_drewN ?_ _ | refine blk_drew ?_ | refine blk_alloc ?_ _)); exact BK197.out) hb)
             have n3_ := Aside0.mk (blk_below (g := gb201) (o := .cells #[.int .i64 t198, .int .i64 t199] 24 (0, 0)) (by (with_reducible repeat (first | refine blk_drewN ?_ _ | refine blk_drew ?_ | refine blk_alloc ?_ _)); exact BK201.out) hb)
             have n4_ := Aside0.mk (below_step (by repeat (first | (with_reducible first | exact HB.out | apply below_alloc | apply pw_below_drewN | apply below_drew1 | refine below_set ?_ GE190.out | refine below_set ?_ GE193.out | refine below_set ?_ GE197.out | refine below_set ?_ GE201.out) | exact HB.out)) hb)
             clear BK190
             clear BK193
             clear BK197
             clear BK201
             clear HB
             have BK190 := n0_
             have BK193 := n1_
             have BK197 := n2_
             have BK201 := n3_
             have HB := n4_
             clear n0_ n1_ n2_ n3_ n4_
             (try clear hb)
             (try clear hb2)
             (try clear hk)
             (try clear hi)
             refine hK.out _ _ ⟨(blk_cell BK190.out 0).trans rfl, (blk_cell BK190.out 1).trans rfl, (blk_cell BK193.out 0).trans rfl, (blk_cell BK193.out 1).trans rfl, (blk_cell BK197.out 0).trans rfl, (blk_cell BK197.out 1).trans rfl, (blk_cell BK201.out 0).trans rfl, (blk_cell BK201.out 1).trans rfl⟩ (fun hHeld => ?_)
             clear hK K
             refine norm_ (a' := ?_) ?_ ?_
             rotate_left
             ·show Act.put _ (some 91) _ = _
              simp only [Act.put, List.setIfInBounds_toArray, List.set_cons_zero, List.set_cons_succ, i64_w, i32_w]
              rfl
             refine one_ (i := 51) (N := some 92) #[true, true, true, true, true, true, true, true, true, true, true, true, true, true, true, true, true, true, true, true, true, true, true, true, true, true, true, true, true, true, true, true, true, true, true, true, true, true, true, true, true, true, true, true, true, true, true, true, true, true, true, true, false, false, false, false, false, false, false, false, false, false, false, false, false, false, false, false, false, false, false, false, false, false, false, false, false, false, false, false, false, false, false, false, false, false, false, false, false, false, false, false, false, false, false, false, false, false, false, false, false, false] rfl rfl (one_of HT_.out (by kernel_rfl)) (by decide) (fun K hK => ?_)
             refine goes_ Try.func17 (by kernel_rfl) rfl #[.agg #[.int .i64 t225, .int .i64 t226], .agg #[.int .i64 t227, .int .i64 t228]] (by rfl) rfl rfl (by (try simp only [List.map_toArray, List.map_cons, List.map_nil]); first | done | rfl | (simp only [List.length_drop, List.length_take]; rfl)) ?_
             with_reducible refine (dynamoref_SameSpan.calls t225 t226 t227 t228 true _ A34.out).mono ?_
             rintro e w92 ⟨rfl, hb⟩
             refine ⟨_, rfl, ?_⟩
             have n0_ := Aside0.mk (blk_below (g := gb190) (o := .cells #[.int .i64 t188, .int .i64 t189] 24 (0, 0)) (by (with_reducible repeat (first | refine blk_drewN ?_ _ | refine blk_drew ?_ | refine blk_alloc ?_ _)); exact BK190.out) hb)
             have n1_ := Aside0.mk (blk_below (g := gb193) (o := .cells #[.int .i64 t191, .int .i64 t192] 24 (0, 0)) (by (with_reducible repeat (first | refine blk_drewN ?_ _ | refine blk_drew ?_ | refine blk_alloc ?_ _)); exact BK193.out) hb)
             have n2_ := Aside0.mk (blk_below (g := gb197) (o := .cells #[.int .i64 t194, .int .i64 t195] 24 (0, 0)) (by (with_reducible repeat (first | refine blk_drewN ?_ _ | refine blk_drew ?_ | refine blk_alloc ?_ _)); exact BK197.out) hb)
             have n3_ := Aside0.mk (blk_below (g := gb201) (o := .cells #[.int .i64 t198, .int .i64 t199] 24 (0, 0)) (by (with_reducible repeat (first | refine blk_drewN ?_ _ | refine blk_drew ?_ | refine blk_alloc ?_ _)); exact BK201.out) hb)
             have n4_ := Aside0.mk (below_step (by repeat (first | (with_reducible first | exact HB.out | apply below_alloc | apply pw_below_drewN | apply below_drew1 | refine below_set ?_ GE190.out | refine below_set ?_ GE193.out | refine below_set ?_ GE197.out | refine below_set ?_ GE201.out) | exact HB.out)) hb)
             clear BK190
             clear BK193
             clear BK197
             clear BK201
             clear HB
             have BK190 := n0_
             have BK193 := n1_
             have BK197 := n2_
             have BK201 := n3_
             have HB := n4_
             clear n0_ n1_ n2_ n3_ n4_
             (try clear hb)
             (try clear hb2)
             (try clear hk)
             (try clear hi)
             refine hK.out _ _ ⟨(blk_cell BK190.out 0).trans rfl, (blk_cell BK190.out 1).trans rfl, (blk_cell BK193.out 0).trans rfl, (blk_cell BK193.out 1).trans rfl, (blk_cell BK197.out 0).trans rfl, (blk_cell BK197.out 1).trans rfl, (blk_cell BK201.out 0).trans rfl, (blk_cell BK201.out 1).trans rfl⟩ (fun hHeld => ?_)
             clear hK K
             refine norm_ (a' := ?_) ?_ ?_
             rotate_left
             ·show Act.put _ (some 92) _ = _
              simp only [Act.put, List.setIfInBounds_toArray, List.set_cons_zero, List.set_cons_succ, i64_w, i32_w]
              rfl
             refine pure_ (i := 52) (N := some 93) (v := ?_) (a' := ?_) #[true, true, true, true, true, true, true, true, true, true, true, true, true, true, true, true, true, true, true, true, true, true, true, true, true, true, true, true, true, true, true, true, true, true, true, true, true, true, true, true, true, true, true, true, true, true, true, true, true, true, true, true, true, false, false, false, false, false, false, false, false, false, false, false, false, false, false, false, false, false, false, false, false, false, false, false, false, false, false, false, false, false, false, false, false, false, false, false, false, false, false, false, false, false, false, false, false, false, false, false, false, false] rfl rfl (any_of HT_.out (by kernel_rfl)) (fun _ _ _ h => h) (Or.inl ⟨by rfl, ?_⟩) ?_ ?_
             rotate_left
             ·intro w'
              go_simp
              with_reducible rfl
             rotate_left
             ·simp only [Act.put, List.setIfInBounds_toArray, List.set_cons_zero, List.set_cons_succ, i64_w, i32_w]
              rfl
             refine pure_ (i := 53) (N := some 94) (v := ?_) (a' := ?_) #[true, true, true, true, true, true, true, true, true, true, true, true, true, true, true, true, true, true, true, true, true, true, true, true, true, true, true, true, true, true, true, true, true, true, true, true, true, true, true, true, true, true, true, true, true, true, true, true, true, true, true, true, true, true, false, false, false, false, false, false, false, false, false, false, false, false, false, false, false, false, false, false, false, false, false, false, false, false, false, false, false, false, false, false, false, false, false, false, false, false, false, false, false, false, false, false, false, false, false, false, false, false] rfl rfl (any_of HT_.out (by kernel_rfl)) (fun _ _ _ h => h) (Or.inl ⟨by rfl, ?_⟩) ?_ ?_
             rotate_left
             ·intro w'
              go_simp
              with_reducible rfl
             rotate_left
             ·simp only [Act.put, List.setIfInBounds_toArray, List.set_cons_zero, List.set_cons_succ, i64_w, i32_w]
              rfl
             refine take_ (i := 54) (N := some 95) (v := ?_) (a' := ?_) #[true, true, true, true, true, true, true, true, true, true, true, true, true, true, true, true, true, true, true, true, true, true, true, true, true, true, true, true, true, true, true, true, true, true, true, true, true, true, true, true, true, true, true, true, true, true, true, true, true, true, true, true, true, true, true, false, false, false, false, false, false, false, false, false, false, false, false, false, false, false, false, false, false, false, false, false, false, false, false, false, false, false, false, false, false, false, false, false, false, false, false, false, false, false, false, false, false, false, false, false, false, false] rfl rfl (take_ofW HT_.out HW_.out (by kernel_rfl)) (fun _ _ _ h => h) (Or.inl ⟨by rfl, ?_⟩) hHeld ?_ ?_
             rotate_left
             ·rintro w' ⟨s0, s1, s2, s3, s4, s5, s6, s7⟩
              go_simp
              with_reducible rfl
             rotate_left
             ·simp only [Act.put, List.setIfInBounds_toArray, List.set_cons_zero, List.set_cons_succ, i64_w, i32_w]
              rfl
             refine take_ (i := 55) (N := some 96) (v := ?_) (a' := ?_) #[true, true, true, true, true, true, true, true, true, true, true, true, true, true, true, true, true, true, true, true, true, true, true, true, true, true, true, true, true, true, true, true, true, true, true, true, true, true, true, true, true, true, true, true, true, true, true, true, true, true, true, true, true, true, true, true, false, false, false, false, false, false, false, false, false, false, false, false, false, false, false, false, false, false, false, false, false, false, false, false, false, false, false, false, false, false, false, false, false, false, false, false, false, false, false, false, false, false, false, false, false, false] rfl rfl (take_ofW HT_.out HW_.out (by kernel_rfl)) (fun _ _ _ h => h) (Or.inl ⟨by rfl, ?_⟩) hHeld ?_ ?_
             rotate_left
             ·rintro w' ⟨s0, s1, s2, s3, s4, s5, s6, s7⟩
              go_simp
              with_reducible rfl
             rotate_left
             ·simp only [Act.put, List.setIfInBounds_toArray, List.set_cons_zero, List.set_cons_succ, i64_w, i32_w]
              rfl
             refine one_ (i := 56) (N := some 97) #[true, true, true, true, true, true, true, true, true, true, true, true, true, true, true, true, true, true, true, true, true, true, true, true, true, true, true, true, true, true, true, true, true, true, true, true, true, true, true, true, true, true, true, true, true, true, true, true, true, true, true, true, true, true, true, true, true, false, false, false, false, false, false, false, false, false, false, false, false, false, false, false, false, false, false, false, false, false, false, false, false, false, false, false, false, false, false, false, false, false, false, false, false, false, false, false, false, false, false, false, false, false] rfl rfl (one_of HT_.out (by kernel_rfl)) (by decide) (fun K hK => ?_)
             refine goes_ Try.func17 (by kernel_rfl) rfl #[.agg #[.int .i64 t194, .int .i64 t195], .agg #[.int .i64 t198, .int .i64 t199]] (by rfl) rfl rfl (by (try simp only [List.map_toArray, List.map_cons, List.map_nil]); first | done | rfl | (simp only [List.length_drop, List.length_take]; rfl)) ?_
             with_reducible refine (dynamoref_SameSpan.calls t194 t195 t198 t199 true _ A36.out).mono ?_
             rintro e w93 ⟨rfl, hb⟩
             refine ⟨_, rfl, ?_⟩
             have n0_ := Aside0.mk (blk_below (g := gb190) (o := .cells #[.int .i64 t188, .int .i64 t189] 24 (0, 0)) (by (with_reducible repeat (first | refine blk_drewN ?_ _ | refine blk_drew ?_ | refine blk_alloc ?_ _)); exact BK190.out) hb)
             have n1_ := Aside0.mk (blk_below (g := gb193) (o := .cells #[.int .i64 t191, .int .i64 t192] 24 (0, 0)) (by (with_reducible repeat (first | refine blk_drewN ?_ _ | refine blk_drew ?_ | refine blk_alloc ?_ _)); exact BK193.out) hb)
             have n2_ := Aside0.mk (blk_below (g := gb197) (o := .cells #[.int .i64 t194, .int .i64 t195] 24 (0, 0)) (by (with_reducible repeat (first | refine blk_drewN ?_ _ | refine blk_drew ?_ | refine blk_alloc ?_ _)); exact BK197.out) hb)
             have n3_ := Aside0.mk (blk_below (g := gb201) (o := .cells #[.int .i64 t198, .int .i64 t199] 24 (0, 0)) (by (with_reducible repeat (first | refine blk_drewN ?_ _ | refine blk_drew ?_ | refine blk_alloc ?_ _)); exact BK201.out) hb)
             have n4_ := Aside0.mk (below_step (by repeat (first | (with_reducible first | exact HB.out | apply below_alloc | apply pw_below_drewN | apply below_drew1 | refine below_set ?_ GE190.out | refine below_set ?_ GE193.out | refine below_set ?_ GE197.out | refine below_set ?_ GE201.out) | exact HB.out)) hb)
             clear BK190
             clear BK193
             clear BK197
             clear BK201
             clear HB
             have BK190 := n0_
             have BK193 := n1_
             have BK197 := n2_
             have BK201 := n3_
             have HB := n4_
             clear n0_ n1_ n2_ n3_ n4_
             (try clear hb)
             (try clear hb2)
             (try clear hk)
             (try clear hi)
             refine hK.out _ _ ⟨(blk_cell BK190.out 0).trans rfl, (blk_cell BK190.out 1).trans rfl, (blk_cell BK193.out 0).trans rfl, (blk_cell BK193.out 1).trans rfl, (blk_cell BK197.out 0).trans rfl, (blk_cell BK197.out 1).trans rfl, (blk_cell BK201.out 0).trans rfl, (blk_cell BK201.out 1).trans rfl⟩ (fun hHeld => ?_)
             clear hK K
             refine norm_ (a' := ?_) ?_ ?_
             rotate_left
             ·show Act.put _ (some 97) _ = _
              simp only [Act.put, List.setIfInBounds_toArray, List.set_cons_zero, List.set_cons_succ, i64_w, i32_w]
              rfl
             refine pure_ (i := 57) (N := some 98) (v := ?_) (a' := ?_) #[true, true, true, true, true, true, true, true, true, true, true, true, true, true, true, true, true, true, true, true, true, true, true, true, true, true, true, true, true, true, true, true, true, true, true, true, true, true, true, true, true, true, true, true, true, true, true, true, true, true, true, true, true, true, true, true, true, true, false, false, false, false, false, false, false, false, false, false, false, false, false, false, false, false, false, false, false, false, false, false, false, false, false, false, false, false, false, false, false, false, false, false, false, false, false, false, false, false, false, false, false, false] rfl rfl (any_of HT_.out (by kernel_rfl)) (fun _ _ _ h => h) (Or.inl ⟨by rfl, ?_⟩) ?_ ?_
             rotate_left
             ·intro w'
              go_simp
              with_reducible rfl
             rotate_left
             ·simp only [Act.put, List.setIfInBounds_toArray, List.set_cons_zero, List.set_cons_succ, i64_w, i32_w]
              rfl
             refine pure_ (i := 58) (N := some 99) (v := ?_) (a' := ?_) #[true, true, true, true, true, true, true, true, true, true, true, true, true, true, true, true, true, true, true, true, true, true, true, true, true, true, true, true, true, true, true, true, true, true, true, true, true, true, true, true, true, true, true, true, true, true, true, true, true, true, true, true, true, true, true, true, true, true, true, false, false, false, false, false, false, false, false, false, false, false, false, false, false, false, false, false, false, false, false, false, false, false, false, false, false, false, false, false, false, false, false, false, false, false, false, false, false, false, false, false, false, false] rfl rfl (any_of HT_.out (by kernel_rfl)) (fun _ _ _ h => h) (Or.inl ⟨by rfl, ?_⟩) ?_ ?_
             rotate_left
             ·intro w'
              go_simp
              with_reducible rfl
             rotate_left
             ·simp only [Act.put, List.setIfInBounds_toArray, List.set_cons_zero, List.set_cons_succ, i64_w, i32_w]
              rfl
             refine pure_ (i := 59) (N := some 100) (v := ?_) (a' := ?_) #[true, true, true, true, true, true, true, true, true, true, true, true, true, true, true, true, true, true, true, true, true, true, true, true, true, true, true, true, true, true, true, true, true, true, true, true, true, true, true, true, true, true, true, true, true, true, true, true, true, true, true, true, true, true, true, true, true, true, true, true, false, false, false, false, false, false, false, false, false, false, false, false, false, false, false, false, false, false, false, false, false, false, false, false, false, false, false, false, false, false, false, false, false, false, false, false, false, false, false, false, false, false] rfl rfl (any_of HT_.out (by kernel_rfl)) (fun _ _ _ h => h) (Or.inl ⟨by rfl, ?_⟩) ?_ ?_
             rotate_left
             ·intro w'
              go_simp
              with_reducible rfl
             rotate_left
             ·simp only [Act.put, List.setIfInBounds_toArray, List.set_cons_zero, List.set_cons_succ, i64_w, i32_w]
              rfl
             refine pure_ (i := 60) (N := some 101) (v := ?_) (a' := ?_) #[true, true, true, true, true, true, true, true, true, true, true, true, true, true, true, true, true, true, true, true, true, true, true, true, true, true, true, true, true, true, true, true, true, true, true, true, true, true, true, true, true, true, true, true, true, true, true, true, true, true, true, true, true, true, true, true, true, true, true, true, true, false, false, false, false, false, false, false, false, false, false, false, false, false, false, false, false, false, false, false, false, false, false, false, false, false, false, false, false, false, false, false, false, false, false, false, false, false, false, false, false, false] rfl rfl (any_of HT_.out (by kernel_rfl)) (fun _ _ _ h => h) (Or.inl ⟨by rfl, ?_⟩) ?_ ?_
             rotate_left
             ·intro w'
              go_simp
              with_reducible rfl
             rotate_left
             ·simp only [Act.put, List.setIfInBounds_toArray, List.set_cons_zero, List.set_cons_succ, i64_w, i32_w]
              rfl
             refine pure_ (i := 61) (N := some 102) (v := ?_) (a' := ?_) #[true, true, true, true, true, true, true, true, true, true, true, true, true, true, true, true, true, true, true, true, true, true, true, true, true, true, true, true, true, true, true, true, true, true, true, true, true, true, true, true, true, true, true, true, true, true, true, true, true, true, true, true, true, true, true, true, true, true, true, true, true, true, false, false, false, false, false, false, false, false, false, false, false, false, false, false, false, false, false, false, false, false, false, false, false, false, false, false, false, false, false, false, false, false, false, false, false, false, false, false, false, false] rfl rfl (any_of HT_.out (by kernel_rfl)) (fun _ _ _ h => h) (Or.inl ⟨by rfl, ?_⟩) ?_ ?_
             rotate_left
             ·intro w'
              go_simp
              with_reducible rfl
             rotate_left
             ·simp only [Act.put, List.setIfInBounds_toArray, List.set_cons_zero, List.set_cons_succ, i64_w, i32_w]
              rfl
             refine pure_ (i := 62) (N := some 103) (v := ?_) (a' := ?_) #[true, true, true, true, true, true, true, true, true, true, true, true, true, true, true, true, true, true, true, true, true, true, true, true, true, true, true, true, true, true, true, true, true, true, true, true, true, true, true, true, true, true, true, true, true, true, true, true, true, true, true, true, true, true, true, true, true, true, true, true, true, true, true, false, false, false, false, false, false, false, false, false, false, false, false, false, false, false, false, false, false, false, false, false, false, false, false, false, false, false, false, false, false, false, false, false, false, false, false, false, false, false] rfl rfl (any_of HT_.out (by kernel_rfl)) (fun _ _ _ h => h) (Or.inl ⟨by rfl, ?_⟩) ?_ ?_
             rotate_left
             ·intro w'
              go_simp
              with_reducible rfl
             rotate_left
             ·simp only [Act.put, List.setIfInBounds_toArray, List.set_cons_zero, List.set_cons_succ, i64_w, i32_w]
              rfl
             refine pure_ (i := 63) (N := some 104) (v := ?_) (a' := ?_) #[true, true, true, true, true, true, true, true, true, true, true, true, true, true, true, true, true, true, true, true, true, true, true, true, true, true, true, true, true, true, true, true, true, true, true, true, true, true, true, true, true, true, true, true, true, true, true, true, true, true, true, true, true, true, true, true, true, true, true, true, true, true, true, true, false, false, false, false, false, false, false, false, false, false, false, false, false, false, false, false, false, false, false, false, false, false, false, false, false, false, false, false, false, false, false, false, false, false, false, false, false, false] rfl rfl (any_of HT_.out (by kernel_rfl)) (fun _ _ _ h => h) (Or.inl ⟨by rfl, ?_⟩) ?_ ?_
             rotate_left
             ·intro w'
              go_simp
              with_reducible rfl
             rotate_left
             ·simp only [Act.put, List.setIfInBounds_toArray, List.set_cons_zero, List.set_cons_succ, i64_w, i32_w]
              rfl
             refine pure_ (i := 65) (N := some 106) (v := ?_) (a' := ?_) #[true, true, true, true, true, true, true, true, true, true, true, true, true, true, true, true, true, true, true, true, true, true, true, true, true, true, true, true, true, true, true, true, true, true, true, true, true, true, true, true, true, true, true, true, true, true, true, true, true, true, true, true, true, true, true, true, true, true, true, true, true, true, true, true, false, true, false, false, false, false, false, false, false, false, false, false, false, false, false, false, false, false, false, false, false, false, false, false, false, false, false, false, false, false, false, false, false, false, false, false, false, false] rfl rfl (any_of HT_.out (by kernel_rfl)) (fun _ _ _ h => h) (Or.inl ⟨by rfl, ?_⟩) ?_ ?_
             rotate_left
             ·intro w'
              go_simp
              with_reducible rfl
             rotate_left
             ·simp only [Act.put, List.setIfInBounds_toArray, List.set_cons_zero, List.set_cons_succ, i64_w, i32_w]
              rfl
             refine pure_ (i := 68) (N := some 109) (v := ?_) (a' := ?_) #[true, true, true, true, true, true, true, true, true, true, true, true, true, true, true, true, true, true, true, true, true, true, true, true, true, true, true, true, true, true, true, true, true, true, true, true, true, true, true, true, true, true, true, true, true, true, true, true, true, true, true, true, true, true, true, true, true, true, true, true, true, true, true, true, false, true, false, false, true, false, false, false, false, false, false, false, false, false, false, false, false, false, false, false, false, false, false, false, false, false, false, false, false, false, false, false, false, false, false, false, false, false] rfl rfl (any_of HT_.out (by kernel_rfl)) (fun _ _ _ h => h) (Or.inl ⟨by rfl, ?_⟩) ?_ ?_
             rotate_left
             ·intro w'
              go_simp
              with_reducible rfl
             rotate_left
             ·simp only [Act.put, List.setIfInBounds_toArray, List.set_cons_zero, List.set_cons_succ, i64_w, i32_w]
              rfl
             refine take_ (i := 64) (N := some 105) (v := ?_) (a' := ?_) #[true, true, true, true, true, true, true, true, true, true, true, true, true, true, true, true, true, true, true, true, true, true, true, true, true, true, true, true, true, true, true, true, true, true, true, true, true, true, true, true, true, true, true, true, true, true, true, true, true, true, true, true, true, true, true, true, true, true, true, true, true, true, true, true, true, true, false, false, true, false, false, false, false, false, false, false, false, false, false, false, false, false, false, false, false, false, false, false, false, false, false, false, false, false, false, false, false, false, false, false, false, false] rfl rfl (take_ofW HT_.out HW_.out (by kernel_rfl)) (fun _ _ _ h => h) (Or.inl ⟨by rfl, ?_⟩) hHeld ?_ ?_
             rotate_left
             ·rintro w' ⟨s0, s1, s2, s3, s4, s5, s6, s7⟩
              go_simp
              with_reducible rfl
             rotate_left
             ·simp only [Act.put, List.setIfInBounds_toArray, List.set_cons_zero, List.set_cons_succ, i64_w, i32_w]
              rfl
             refine take_ (i := 67) (N := some 108) (v := ?_) (a' := ?_) #[true, true, true, true, true, true, true, true, true, true, true, true, true, true, true, true, true, true, true, true, true, true, true, true, true, true, true, true, true, true, true, true, true, true, true, true, true, true, true, true, true, true, true, true, true, true, true, true, true, true, true, true, true, true, true, true, true, true, true, true, true, true, true, true, true, true, false, true, true, false, false, false, false, false, false, false, false, false, false, false, false, false, false, false, false, false, false, false, false, false, false, false, false, false, false, false, false, false, false, false, false, false] rfl rfl (take_ofW HT_.out HW_.out (by kernel_rfl)) (fun _ _ _ h => h) (Or.inl ⟨by rfl, ?_⟩) hHeld ?_ ?_
             rotate_left
             ·rintro w' ⟨s0, s1, s2, s3, s4, s5, s6, s7⟩
              go_simp
              with_reducible rfl
             rotate_left
             ·simp only [Act.put, List.setIfInBounds_toArray, List.set_cons_zero, List.set_cons_succ, i64_w, i32_w]
              rfl
             refine one_ (i := 66) (N := some 107) #[true, true, true, true, true, true, true, true, true, true, true, true, true, true, true, true, true, true, true, true, true, true, true, true, true, true, true, true, true, true, true, true, true, true, true, true, true, true, true, true, true, true, true, true, true, true, true, true, true, true, true, true, true, true, true, true, true, true, true, true, true, true, true, true, true, true, true, true, true, false, false, false, false, false, false, false, false, false, false, false, false, false, false, false, false, false, false, false, false, false, false, false, false, false, false, false, false, false, false, false, false, false] rfl rfl (one_of HT_.out (by kernel_rfl)) (by decide) (fun K hK => ?_)
             refine goes_ Try.func23 (by kernel_rfl) rfl #[.agg #[.int .i64 t188, .int .i64 t189], .int .i64 a4] (by rfl) rfl rfl (by (try simp only [List.map_toArray, List.map_cons, List.map_nil]); first | done | rfl | (simp only [List.length_drop, List.length_take]; rfl)) ?_
             with_reducible refine (span_Widen.calls k t188 t189 a4 t231 t232 _ A39.out).mono ?_
             rintro e w94 ⟨rfl, hb⟩
             refine ⟨_, rfl, ?_⟩
             have n0_ := Aside0.mk (blk_below (g := gb190) (o := .cells #[.int .i64 t188, .int .i64 t189] 24 (0, 0)) (by (with_reducible repeat (first | refine blk_drewN ?_ _ | refine blk_drew ?_ | refine blk_alloc ?_ _)); exact BK190.out) hb)
             have n1_ := Aside0.mk (blk_below (g := gb193) (o := .cells #[.int .i64 t191, .int .i64 t192] 24 (0, 0)) (by (with_reducible repeat (first | refine blk_drewN ?_ _ | refine blk_drew ?_ | refine blk_alloc ?_ _)); exact BK193.out) hb)
             have n2_ := Aside0.mk (blk_below (g := gb197) (o := .cells #[.int .i64 t194, .int .i64 t195] 24 (0, 0)) (by (with_reducible repeat (first | refine blk_drewN ?_ _ | refine blk_drew ?_ | refine blk_alloc ?_ _)); exact BK197.out) hb)
             have n3_ := Aside0.mk (blk_below (g := gb201) (o := .cells #[.int .i64 t198, .int .i64 t199] 24 (0, 0)) (by (with_reducible repeat (first | refine blk_drewN ?_ _ | refine blk_drew ?_ | refine blk_alloc ?_ _)); exact BK201.out) hb)
             have n4_ := Aside0.mk (below_step (by repeat (first | (with_reducible first | exact HB.out | apply below_alloc | apply pw_below_drewN | apply below_drew1 | refine below_set ?_ GE190.out | refine below_set ?_ GE193.out | refine below_set ?_ GE197.out | refine below_set ?_ GE201.out) | exact HB.out)) hb)
             clear BK190
             clear BK193
             clear BK197
             clear BK201
             clear HB
             have BK190 := n0_
             have BK193 := n1_
             have BK197 := n2_
             have BK201 := n3_
             have HB := n4_
             clear n0_ n1_ n2_ n3_ n4_
             (try clear hb)
             (try clear hb2)
             (try clear hk)
             (try clear hi)
             refine hK.out _ _ ⟨(blk_cell BK190.out 0).trans rfl, (blk_cell BK190.out 1).trans rfl, (blk_cell BK193.out 0).trans rfl, (blk_cell BK193.out 1).trans rfl, (blk_cell BK197.out 0).trans rfl, (blk_cell BK197.out 1).trans rfl, (blk_cell BK201.out 0).trans rfl, (blk_cell BK201.out 1).trans rfl⟩ (fun hHeld => ?_)
             clear hK K
             refine norm_ (a' := ?_) ?_ ?_
             rotate_left
             ·show Act.put _ (some 107) _ = _
              simp only [Act.put, List.setIfInBounds_toArray, List.set_cons_zero, List.set_cons_succ, i64_w, i32_w]
              rfl
             refine one_ (i := 69) (N := some 110) #[true, true, true, true, true, true, true, true, true, true, true, true, true, true, true, true, true, true, true, true, true, true, true, true, true, true, true, true, true, true, true, true, true, true, true, true, true, true, true, true, true, true, true, true, true, true, true, true, true, true, true, true, true, true, true, true, true, true, true, true, true, true, true, true, true, true, true, true, true, true, false, false, false, false, false, false, false, false, false, false, false, false, false, false, false, false, false, false, false, false, false, false, false, false, false, false, false, false, false, false, false, false] rfl rfl (one_of HT_.out (by kernel_rfl)) (by decide) (fun K hK => ?_)
             refine goes_ Try.func49 (by kernel_rfl) rfl #[.agg #[.int .i64 t188, .int .i64 t189], .int .i64 a4] (by rfl) rfl rfl (by (try simp only [List.map_toArray, List.map_cons, List.map_nil]); first | done | rfl | (simp only [List.length_drop, List.length_take]; rfl)) ?_
             with_reducible refine (dynamoref1_Widen.calls k t188 t189 a4 t233 t234 _ A40.out).mono ?_
             rintro e w95 ⟨rfl, hb⟩
             refine ⟨_, rfl, ?_⟩
             have n0_ := Aside0.mk (blk_below (g := gb190) (o := .cells #[.int .i64 t188, .int .i64 t189] 24 (0, 0)) (by (with_reducible repeat (first | refine blk_drewN ?_ _ | refine blk_drew ?_ | refine blk_alloc ?_ _)); exact BK190.out) hb)
             have n1_ := Aside0.mk (blk_below (g := gb193) (o := .cells #[.int .i64 t191, .int .i64 t192] 24 (0, 0)) (by (with_reducible repeat (first | refine blk_drewN ?_ _ | refine blk_drew ?_ | refine blk_alloc ?_ _)); exact BK193.out) hb)
             have n2_ := Aside0.mk (blk_below (g := gb197) (o := .cells #[.int .i64 t194, .int .i64 t195] 24 (0, 0)) (by (with_reducible repeat (first | refine blk_drewN ?_ _ | refine blk_drew ?_ | refine blk_alloc ?_ _)); exact BK197.out) hb)
             have n3_ := Aside0.mk (blk_below (g := gb201) (o := .cells #[.int .i64 t198, .int .i64 t199] 24 (0, 0)) (by (with_reducible repeat (first | refine blk_drewN ?_ _ | refine blk_drew ?_ | refine blk_alloc ?_ _)); exact BK201.out) hb)
             have n4_ := Aside0.mk (below_step (by repeat (first | (with_reducible first | exact HB.out | apply below_alloc | apply pw_below_drewN | apply below_drew1 | refine below_set ?_ GE190.out | refine below_set ?_ GE193.out | refine below_set ?_ GE197.out | refine below_set ?_ GE201.out) | exact HB.out)) hb)
             clear BK190
             clear BK193
             clear BK197
             clear BK201
             clear HB
             have BK190 := n0_
             have BK193 := n1_
             have BK197 := n2_
             have BK201 := n3_
             have HB := n4_
             clear n0_ n1_ n2_ n3_ n4_
             (try clear hb)
             (try clear hb2)
             (try clear hk)
             (try clear hi)
             refine hK.out _ _ ⟨(blk_cell BK190.out 0).trans rfl, (blk_cell BK190.out 1).trans rfl, (blk_cell BK193.out 0).trans rfl, (blk_cell BK193.out 1).trans rfl, (blk_cell BK197.out 0).trans rfl, (blk_cell BK197.out 1).trans rfl, (blk_cell BK201.out 0).trans rfl, (blk_cell BK201.out 1).trans rfl⟩ (fun hHeld => ?_)
             clear hK K
             refine norm_ (a' := ?_) ?_ ?_
             rotate_left
             ·show Act.put _ (some 110) _ = _
              simp only [Act.put, List.setIfInBounds_toArray, List.set_cons_zero, List.set_cons_succ, i64_w, i32_w]
              rfl
             refine one_ (i := 70) (N := some 111) #[true, true, true, true, true, true, true, true, true, true, true, true, true, true, true, true, true, true, true, true, true, true, true, true, true, true, true, true, true, true, true, true, true, true, true, true, true, true, true, true, true, true, true, true, true, true, true, true, true, true, true, true, true, true, true, true, true, true, true, true, true, true, true, true, true, true, true, true, true, true, true, false, false, false, false, false, false, false, false, false, false, false, false, false, false, false, false, false, false, false, false, false, false, false, false, false, false, false, false, false, false, false] rfl rfl (one_of HT_.out (by kernel_rfl)) (by decide) (fun K hK => ?_)
             refine goes_ Try.func17 (by kernel_rfl) rfl #[.agg #[.int .i64 t231, .int .i64 t232], .agg #[.int .i64 t233, .int .i64 t234]] (by rfl) rfl rfl (by (try simp only [List.map_toArray, List.map_cons, List.map_nil]); first | done | rfl | (simp only [List.length_drop, List.length_take]; rfl)) ?_
             with_reducible refine (dynamoref_SameSpan.calls t231 t232 t233 t234 true _ A41.out).mono ?_
             rintro e w96 ⟨rfl, hb⟩
             refine ⟨_, rfl, ?_⟩
             have n0_ := Aside0.mk (blk_below (g := gb190) (o := .cells #[.int .i64 t188, .int .i64 t189] 24 (0, 0)) (by (with_reducible repeat (first | refine blk_drewN ?_ _ | refine blk_drew ?_ | refine blk_alloc ?_ _)); exact BK190.out) hb)
             have n1_ := Aside0.mk (blk_below (g := gb193) (o := .cells #[.int .i64 t191, .int .i64 t192] 24 (0, 0)) (by (with_reducible repeat (first | refine blk_drewN ?_ _ | refine blk_drew ?_ | refine blk_alloc ?_ _)); exact BK193.out) hb)
             have n2_ := Aside0.mk (blk_below (g := gb197) (o := .cells #[.int .i64 t194, .int .i64 t195] 24 (0, 0)) (by (with_reducible repeat (first | refine blk_drewN ?_ _ | refine blk_drew ?_ | refine blk_alloc ?_ _)); exact BK197.out) hb)
             have n3_ := Aside0.mk (blk_below (g := gb201) (o := .cells #[.int .i64 t198, .int .i64 t199] 24 (0, 0)) (by (with_reducible repeat (first | refine blk_drewN ?_ _ | refine blk_drew ?_ | refine blk_alloc ?_ _)); exact BK201.out) hb)
             have n4_ := Aside0.mk (below_step (by repeat (first | (with_reducible first | exact HB.out | apply below_alloc | apply pw_below_drewN | apply below_drew1 | refine below_set ?_ GE190.out | refine below_set ?_ GE193.out | refine below_set ?_ GE197.out | refine below_set ?_ GE201.out) | exact HB.out)) hb)
             clear BK190
             clear BK193
             clear BK197
             clear BK201
             clear HB
             have BK190 := n0_
             have BK193 := n1_
             have BK197 := n2_
             have BK201 := n3_
             have HB := n4_
             clear n0_ n1_ n2_ n3_ n4_
             (try clear hb)
             (try clear hb2)
             (try clear hk)
             (try clear hi)
             refine hK.out _ _ ⟨(blk_cell BK190.out 0).trans rfl, (blk_cell BK190.out 1).trans rfl, (blk_cell BK193.out 0).trans rfl, (blk_cell BK193.out 1).trans rfl, (blk_cell BK197.out 0).trans rfl, (blk_cell BK197.out 1).trans rfl, (blk_cell BK201.out 0).trans rfl, (blk_cell BK201.out 1).trans rfl⟩ (fun hHeld => ?_)
             clear hK K
             refine norm_ (a' := ?_) ?_ ?_
             rotate_left
             ·show Act.put _ (some 111) _ = _
              simp only [Act.put, List.setIfInBounds_toArray, List.set_cons_zero, List.set_cons_succ, i64_w, i32_w]
              rfl
             refine pure_ (i := 71) (N := some 112) (v := ?_) (a' := ?_) #[true, true, true, true, true, true, true, true, true, true, true, true, true, true, true, true, true, true, true, true, true, true, true, true, true, true, true, true, true, true, true, true, true, true, true, true, true, true, true, true, true, true, true, true, true, true, true, true, true, true, true, true, true, true, true, true, true, true, true, true, true, true, true, true, true, true, true, true, true, true, true, true, false, false, false, false, false, false, false, false, false, false, false, false, false, false, false, false, false, false, false, false, false, false, false, false, false, false, false, false, false, false] rfl rfl (any_of HT_.out (by kernel_rfl)) (fun _ _ _ h => h) (Or.inl ⟨by rfl, ?_⟩) ?_ ?_
             rotate_left
             ·intro w'
              go_simp
              with_reducible rfl
             rotate_left
             ·simp only [Act.put, List.setIfInBounds_toArray, List.set_cons_zero, List.set_cons_succ, i64_w, i32_w]
              rfl
             refine pure_ (i := 72) (N := some 113) (v := ?_) (a' := ?_) #[true, true, true, true, true, true, true, true, true, true, true, true, true, true, true, true, true, true, true, true, true, true, true, true, true, true, true, true, true, true, true, true, true, true, true, true, true, true, true, true, true, true, true, true, true, true, true, true, true, true, true, true, true, true, true, true, true, true, true, true, true, true, true, true, true, true, true, true, true, true, true, true, true, false, false, false, false, false, false, false, false, false, false, false, false, false, false, false, false, false, false, false, false, false, false, false, false, false, false, false, false, false] rfl rfl (any_of HT_.out (by kernel_rfl)) (fun _ _ _ h => h) (Or.inl ⟨by rfl, ?_⟩) ?_ ?_
             rotate_left
             ·intro w'
              go_simp
              with_reducible rfl
             rotate_left
             ·simp only [Act.put, List.setIfInBounds_toArray, List.set_cons_zero, List.set_cons_succ, i64_w, i32_w]
              rfl
             refine pure_ (i := 74) (N := some 115) (v := ?_) (a' := ?_) #[true, true, true, true, true, true, true, true, true, true, true, true, true, true, true, true, true, true, true, true, true, true, true, true, true, true, true, true, true, true, true, true, true, true, true, true, true, true, true, true, true, true, true, true, true, true, true, true, true, true, true, true, true, true, true, true, true, true, true, true, true, true, true, true, true, true, true, true, true, true, true, true, true, false, true, false, false, false, false, false, false, false, false, false, false, false, false, false, false, false, false, false, false, false, false, false, false, false, false, false, false, false] rfl rfl (any_of HT_.out (by kernel_rfl)) (fun _ _ _ h => h) (Or.inl ⟨by rfl, ?_⟩) ?_ ?_
             rotate_left
             ·intro w'
              go_simp
              with_reducible rfl
             rotate_left
             ·simp only [Act.put, List.setIfInBounds_toArray, List.set_cons_zero, List.set_cons_succ, i64_w, i32_w]
              rfl
             refine pure_ (i := 77) (N := some 118) (v := ?_) (a' := ?_) #[true, true, true, true, true, true, true, true, true, true, true, true, true, true, true, true, true, true, true, true, true, true, true, true, true, true, true, true, true, true, true, true, true, true, true, true, true, true, true, true, true, true, true, true, true, true, true, true, true, true, true, true, true, true, true, true, true, true, true, true, true, true, true, true, true, true, true, true, true, true, true, true, true, false, true, false, false, true, false, false, false, false, false, false, false, false, false, false, false, false, false, false, false, false, false, false, false, false, false, false, false, false] rfl rfl (any_of HT_.out (by kernel_rfl)) (fun _ _ _ h => h) (Or.inl ⟨by rfl, ?_⟩) ?_ ?_
             rotate_left
             ·intro w'
              go_simp
              with_reducible rfl
             rotate_left
             ·simp only [Act.put, List.setIfInBounds_toArray, List.set_cons_zero, List.set_cons_succ, i64_w, i32_w]
              rfl
             refine take_ (i := 73) (N := some 114) (v := ?_) (a' := ?_) #[true, true, true, true, true, true, true, true, true, true, true, true, true, true, true, true, true, true, true, true, true, true, true, true, true, true, true, true, true, true, true, true, true, true, true, true, true, true, true, true, true, true, true, true, true, true, true, true, true, true, true, true, true, true, true, true, true, true, true, true, true, true, true, true, true, true, true, true, true, true, true, true, true, true, true, false, false, true, false, false, false, false, false, false, false, false, false, false, false, false, false, false, false, false, false, false, false, false, false, false, false, false] rfl rfl (take_ofW HT_.out HW_.out (by kernel_rfl)) (fun _ _ _ h => h) (Or.inl ⟨by rfl, ?_⟩) hHeld ?_ ?_
             rotate_left
             ·rintro w' ⟨s0, s1, s2, s3, s4, s5, s6, s7⟩
              go_simp
              with_reducible rfl
             rotate_left
             ·simp only [Act.put, List.setIfInBounds_toArray, List.set_cons_zero, List.set_cons_succ, i64_w, i32_w]
              rfl
             refine take_ (i := 76) (N := some 117) (v := ?_) (a' := ?_) #[true, true, true, true, true, true, true, true, true, true, true, true, true, true, true, true, true, true, true, true, true, true, true, true, true, true, true, true, true, true, true, true, true, true, true, true, true, true, true, true, true, true, true, true, true, true, true, true, true, true, true, true, true, true, true, true, true, true, true, true, true, true, true, true, true, true, true, true, true, true, true, true, true, true, true, false, true, true, false, false, false, false, false, false, false, false, false, false, false, false, false, false, false, false, false, false, false, false, false, false, false, false] rfl rfl (take_ofW HT_.out HW_.out (by kernel_rfl)) (fun _ _ _ h => h) (Or.inl ⟨by rfl, ?_⟩) hHeld ?_ ?_
             rotate_left
             ·rintro w' ⟨s0, s1, s2, s3, s4, s5, s6, s7⟩
              go_simp
              with_reducible rfl
             rotate_left
             ·simp only [Act.put, List.setIfInBounds_toArray, List.set_cons_zero, List.set_cons_succ, i64_w, i32_w]
              rfl
             refine one_ (i := 75) (N := some 116) #[true, true, true, true, true, true, true, true, true, true, true, true, true, true, true, true, true, true, true, true, true, true, true, true, true, true, true, true, true, true, true, true, true, true, true, true, true, true, true, true, true, true, true, true, true, true, true, true, true, true, true, true, true, true, true, true, true, true, true, true, true, true, true, true, true, true, true, true, true, true, true, true, true, true, true, true, true, true, false, false, false, false, false, false, false, false, false, false, false, false, false, false, false, false, false, false, false, false, false, false, false, false] rfl rfl (one_of HT_.out (by kernel_rfl)) (by decide) (fun K hK => ?_)
             refine goes_ Try.func15 (by kernel_rfl) rfl #[.agg #[.int .i64 t188, .int .i64 t189], .int .i64 a5] (by rfl) rfl rfl (by (try simp only [List.map_toArray, List.map_cons, List.map_nil]); first | done | rfl | (simp only [List.length_drop, List.length_take]; rfl)) ?_
             with_reducible refine (span_Has.calls t188 t189 a5 t236 _ A43.out).mono ?_
             rintro e w97 ⟨rfl, hb⟩
             refine ⟨_, rfl, ?_⟩
             have n0_ := Aside0.mk (blk_below (g := gb190) (o := .cells #[.int .i64 t188, .int .i64 t189] 24 (0, 0)) (by (with_reducible repeat (first | refine blk_drewN ?_ _ | refine blk_drew ?_ | refine blk_alloc ?_ _)); exact BK190.out) hb)
             have n1_ := Aside0.mk (blk_below (g := gb193) (o := .cells #[.int .i64 t191, .int .i64 t192] 24 (0, 0)) (by (with_reducible repeat (first | refine blk_drewN ?_ _ | refine blk_drew ?_ | refine blk_alloc ?_ _)); exact BK193.out) hb)
             have n2_ := Aside0.mk (blk_below (g := gb197) (o := .cells #[.int .i64 t194, .int .i64 t195] 24 (0, 0)) (by (with_reducible repeat (first | refine blk_drewN ?_ _ | refine blk_drew ?_ | refine blk_alloc ?_ _)); exact BK197.out) hb)
             have n3_ := Aside0.mk (blk_below (g := gb201) (o := .cells #[.int .i64 t198, .int .i64 t199] 24 (0, 0)) (by (with_reducible repeat (first | refine blk_drewN ?_ _ | refine blk_drew ?_ | refine blk_alloc ?_ _)); exact BK201.out) hb)
             have n4_ := Aside0.mk (below_step (by repeat (first | (with_reducible first | exact HB.out | apply below_alloc | apply pw_below_drewN | apply below_drew1 | refine below_set ?_ GE190.out | refine below_set ?_ GE193.out | refine below_set ?_ GE197.out | refine below_set ?_ GE201.out) | exact HB.out)) hb)
             clear BK190
             clear BK193
             clear BK197
             clear BK201
             clear HB
             have BK190 := n0_
             have BK193 := n1_
             have BK197 := n2_
             have BK201 := n3_
             have HB := n4_
             clear n0_ n1_ n2_ n3_ n4_
             (try clear hb)
             (try clear hb2)
             (try clear hk)
             (try clear hi)
             refine hK.out _ _ ⟨(blk_cell BK190.out 0).trans rfl, (blk_cell BK190.out 1).trans rfl, (blk_cell BK193.out 0).trans rfl, (blk_cell BK193.out 1).trans rfl, (blk_cell BK197.out 0).trans rfl, (blk_cell BK197.out 1).trans rfl, (blk_cell BK201.out 0).trans rfl, (blk_cell BK201.out 1).trans rfl⟩ (fun hHeld => ?_)
             clear hK K
             refine norm_ (a' := ?_) ?_ ?_
             rotate_left
             ·show Act.put _ (some 116) _ = _
              simp only [Act.put, List.setIfInBounds_toArray, List.set_cons_zero, List.set_cons_succ, i64_w, i32_w]
              rfl
             refine one_ (i := 78) (N := some 119) #[true, true, true, true, true, true, true, true, true, true, true, true, true, true, true, true, true, true, true, true, true, true, true, true, true, true, true, true, true, true, true, true, true, true, true, true, true, true, true, true, true, true, true, true, true, true, true, true, true, true, true, true, true, true, true, true, true, true, true, true, true, true, true, true, true, true, true, true, true, true, true, true, true, true, true, true, true, true, true, false, false, false, false, false, false, false, false, false, false, false, false, false, false, false, false, false, false, false, false, false, false, false] rfl rfl (one_of HT_.out (by kernel_rfl)) (by decide) (fun K hK => ?_)
             refine goes_ Try.func50 (by kernel_rfl) rfl #[.agg #[.int .i64 t188, .int .i64 t189], .int .i64 a5] (by rfl) rfl rfl (by (try simp only [List.map_toArray, List.map_cons, List.map_nil]); first | done | rfl | (simp only [List.length_drop, List.length_take]; rfl)) ?_
             with_reducible refine (dynamoref1_Has.calls t188 t189 a5 t237 _ A44.out).mono ?_
             rintro e w98 ⟨rfl, hb⟩
             refine ⟨_, rfl, ?_⟩
             have n0_ := Aside0.mk (blk_below (g := gb190) (o := .cells #[.int .i64 t188, .int .i64 t189] 24 (0, 0)) (by (with_reducible repeat (first | refine blk_drewN ?_ _ | refine blk_drew ?_ | refine blk_alloc ?_ _)); exact BK190.out) hb)
             have n1_ := Aside0.mk (blk_below (g := gb193) (o := .cells #[.int .i64 t191, .int .i64 t192] 24 (0, 0)) (by (with_reducible repeat (first | refine blk_drewN ?_ _ | refine blk_drew ?_ | refine blk_alloc ?_ _)); exact BK193.out) hb)
             have n2_ := Aside0.mk (blk_below (g := gb197) (o := .cells #[.int .i64 t194, .int .i64 t195] 24 (0, 0)) (by (with_reducible repeat (first | refine blk_drewN ?_ _ | refine blk_drew ?_ | refine blk_alloc ?_ _)); exact BK197.out) hb)
             have n3_ := Aside0.mk (blk_below (g := gb201) (o := .cells #[.int .i64 t198, .int .i64 t199] 24 (0, 0)) (by (with_reducible repeat (first | refine blk_drewN ?_ _ | refine blk_drew ?_ | refine blk_alloc ?_ _)); exact BK201.out) hb)
             have n4_ := Aside0.mk (below_step (by repeat (first | (with_reducible first | exact HB.out | apply below_alloc | apply pw_below_drewN | apply below_drew1 | refine below_set ?_ GE190.out | refine below_set ?_ GE193.out | refine below_set ?_ GE197.out | refine below_set ?_ GE201.out) | exact HB.out)) hb)
             clear BK190
             clear BK193
             clear BK197
             clear BK201
             clear HB
             have BK190 := n0_
             have BK193 := n1_
             have BK197 := n2_
             have BK201 := n3_
             have HB := n4_
             clear n0_ n1_ n2_ n3_ n4_
             (try clear hb)
             (try clear hb2)
             (try clear hk)
             (try clear hi)
             refine hK.out _ _ ⟨(blk_cell BK190.out 0).trans rfl, (blk_cell BK190.out 1).trans rfl, (blk_cell BK193.out 0).trans rfl, (blk_cell BK193.out 1).trans rfl, (blk_cell BK197.out 0).trans rfl, (blk_cell BK197.out 1).trans rfl, (blk_cell BK201.out 0).trans rfl, (blk_cell BK201.out 1).trans rfl⟩ (fun hHeld => ?_)
             clear hK K
             refine norm_ (a' := ?_) ?_ ?_
             rotate_left
             ·show Act.put _ (some 119) _ = _
              simp only [Act.put, List.setIfInBounds_toArray, List.set_cons_zero, List.set_cons_succ, i64_w, i32_w]
              rfl
             refine pure_ (i := 79) (N := some 120) (v := ?_) (a' := ?_) #[true, true, true, true, true, true, true, true, true, true, true, true, true, true, true, true, true, true, true, true, true, true, true, true, true, true, true, true, true, true, true, true, true, true, true, true, true, true, true, true, true, true, true, true, true, true, true, true, true, true, true, true, true, true, true, true, true, true, true, true, true, true, true, true, true, true, true, true, true, true, true, true, true, true, true, true, true, true, true, true, false, false, false, false, false, false, false, false, false, false, false, false, false, false, false, false, false, false, false, false, false, false] rfl rfl (any_of HT_.out (by kernel_rfl)) (fun _ _ _ h => h) (Or.inl ⟨by rfl, ?_⟩) ?_ ?_
             rotate_left
             ·intro w'
              go_simp
              with_reducible rfl
             rotate_left
             ·simp only [Act.put, List.setIfInBounds_toArray, List.set_cons_zero, List.set_cons_succ, i64_w, i32_w]
              rfl
             refine pure_ (i := 80) (N := some 121) (v := ?_) (a' := ?_) #[true, true, true, true, true, true, true, true, true, true, true, true, true, true, true, true, true, true, true, true, true, true, true, true, true, true, true, true, true, true, true, true, true, true, true, true, true, true, true, true, true, true, true, true, true, true, true, true, true, true, true, true, true, true, true, true, true, true, true, true, true, true, true, true, true, true, true, true, true, true, true, true, true, true, true, true, true, true, true, true, true, false, false, false, false, false, false, false, false, false, false, false, false, false, false, false, false, false, false, false, false, false] rfl rfl (any_of HT_.out (by kernel_rfl)) (fun _ _ _ h => h) (Or.inl ⟨by rfl, ?_⟩) ?_ ?_
             rotate_left
             ·intro w'
              go_simp
              with_reducible rfl
             rotate_left
             ·simp only [Act.put, List.setIfInBounds_toArray, List.set_cons_zero, List.set_cons_succ, i64_w, i32_w]
              rfl
             refine pure_ (i := 81) (N := some 122) (v := ?_) (a' := ?_) #[true, true, true, true, true, true, true, true, true, true, true, true, true, true, true, true, true, true, true, true, true, true, true, true, true, true, true, true, true, true, true, true, true, true, true, true, true, true, true, true, true, true, true, true, true, true, true, true, true, true, true, true, true, true, true, true, true, true, true, true, true, true, true, true, true, true, true, true, true, true, true, true, true, true, true, true, true, true, true, true, true, true, false, false, false, false, false, false, false, false, false, false, false, false, false, false, false, false, false, false, false, false] rfl rfl (any_of HT_.out (by kernel_rfl)) (fun _ _ _ h => h) (Or.inl ⟨by rfl, ?_⟩) ?_ ?_
             rotate_left
             ·intro w'
              go_simp
              with_reducible rfl
             rotate_left
             ·simp only [Act.put, List.setIfInBounds_toArray, List.set_cons_zero, List.set_cons_succ, i64_w, i32_w]
              rfl
             refine take_ (i := 82) (N := some 123) (v := ?_) (a' := ?_) #[true, true, true, true, true, true, true, true, true, true, true, true, true, true, true, true, true, true, true, true, true, true, true, true, true, true, true, true, true, true, true, true, true, true, true, true, true, true, true, true, true, true, true, true, true, true, true, true, true, true, true, true, true, true, true, true, true, true, true, true, true, true, true, true, true, true, true, true, true, true, true, true, true, true, true, true, true, true, true, true, true, true, true, false, false, false, false, false, false, false, false, false, false, false, false, false, false, false, false, false, false, false] rfl rfl (take_ofW HT_.out HW_.out (by kernel_rfl)) (fun _ _ _ h => h) (Or.inl ⟨by rfl, ?_⟩) hHeld ?_ ?_
             rotate_left
             ·rintro w' ⟨s0, s1, s2, s3, s4, s5, s6, s7⟩
              go_simp
              with_reducible rfl
             rotate_left
             ·simp only [Act.put, List.setIfInBounds_toArray, List.set_cons_zero, List.set_cons_succ, i64_w, i32_w]
              rfl
             refine take_ (i := 83) (N := some 124) (v := ?_) (a' := ?_) #[true, true, true, true, true, true, true, true, true, true, true, true, true, true, true, true, true, true, true, true, true, true, true, true, true, true, true, true, true, true, true, true, true, true, true, true, true, true, true, true, true, true, true, true, true, true, true, true, true, true, true, true, true, true, true, true, true, true, true, true, true, true, true, true, true, true, true, true, true, true, true, true, true, true, true, true, true, true, true, true, true, true, true, true, false, false, false, false, false, false, false, false, false, false, false, false, false, false, false, false, false, false] rfl rfl (take_ofW HT_.out HW_.out (by kernel_rfl)) (fun _ _ _ h => h) (Or.inl ⟨by rfl, ?_⟩) hHeld ?_ ?_
             rotate_left
             ·rintro w' ⟨s0, s1, s2, s3, s4, s5, s6, s7⟩
              go_simp
              with_reducible rfl
             rotate_left
             ·simp only [Act.put, List.setIfInBounds_toArray, List.set_cons_zero, List.set_cons_succ, i64_w, i32_w]
              rfl
             refine take_ (i := 85) (N := some 126) (v := ?_) (a' := ?_) #[true, true, true, true, true, true, true, true, true, true, true, true, true, true, true, true, true, true, true, true, true, true, true, true, true, true, true, true, true, true, true, true, true, true, true, true, true, true, true, true, true, true, true, true, true, true, true, true, true, true, true, true, true, true, true, true, true, true, true, true, true, true, true, true, true, true, true, true, true, true, true, true, true, true, true, true, true, true, true, true, true, true, true, true, false, true, false, false, false, false, false, false, false, false, false, false, false, false, false, false, false, false] rfl rfl (take_ofW HT_.out HW_.out (by kernel_rfl)) (fun _ _ _ h => h) (Or.inl ⟨by rfl, ?_⟩) hHeld ?_ ?_
             rotate_left
             ·rintro w' ⟨s0, s1, s2, s3, s4, s5, s6, s7⟩
              go_simp
              with_reducible rfl
             rotate_left
             ·simp only [Act.put, List.setIfInBounds_toArray, List.set_cons_zero, List.set_cons_succ, i64_w, i32_w]
              rfl
             refine take_ (i := 86) (N := some 127) (v := ?_) (a' := ?_) #[true, true, true, true, true, true, true, true, true, true, true, true, true, true, true, true, true, true, true, true, true, true, true, true, true, true, true, true, true, true, true, true, true, true, true, true, true, true, true, true, true, true, true, true, true, true, true, true, true, true, true, true, true, true, true, true, true, true, true, true, true, true, true, true, true, true, true, true, true, true, true, true, true, true, true, true, true, true, true, true, true, true, true, true, false, true, true, false, false, false, false, false, false, false, false, false, false, false, false, false, false, false] rfl rfl (take_ofW HT_.out HW_.out (by kernel_rfl)) (fun _ _ _ h => h) (Or.inl ⟨by rfl, ?_⟩) hHeld ?_ ?_
             rotate_left
             ·rintro w' ⟨s0, s1, s2, s3, s4, s5, s6, s7⟩
              go_simp
              with_reducible rfl
             rotate_left
             ·simp only [Act.put, List.setIfInBounds_toArray, List.set_cons_zero, List.set_cons_succ, i64_w, i32_w]
              rfl
             refine one_ (i := 84) (N := some 125) #[true, true, true, true, true, true, true, true, true, true, true, true, true, true, true, true, true, true, true, true, true, true, true, true, true, true, true, true, true, true, true, true, true, true, true, true, true, true, true, true, true, true, true, true, true, true, true, true, true, true, true, true, true, true, true, true, true, true, true, true, true, true, true, true, true, true, true, true, true, true, true, true, true, true, true, true, true, true, true, true, true, true, true, true, true, true, true, false, false, false, false, false, false, false, false, false, false, false, false, false, false, false] rfl rfl (one_of HT_.out (by kernel_rfl)) (by decide) (fun K hK => ?_)
             refine goes_ Try.func18 (by kernel_rfl) rfl #[.agg #[.int .i64 t188, .int .i64 t189], .agg #[.int .i64 t191, .int .i64 t192]] (by rfl) rfl rfl (by (try simp only [List.map_toArray, List.map_cons, List.map_nil]); first | done | rfl | (simp only [List.length_drop, List.length_take]; rfl)) ?_
             with_reducible refine (span_In.calls t188 t189 t191 t192 t238 _ A46.out).mono ?_
             rintro e w99 ⟨rfl, hb⟩
             refine ⟨_, rfl, ?_⟩
             have n0_ := Aside0.mk (blk_below (g := gb190) (o := .cells #[.int .i64 t188, .int .i64 t189] 24 (0, 0)) (by (with_reducible repeat (first | refine blk_drewN ?_ _ | refine blk_drew ?_ | refine blk_alloc ?_ _)); exact BK190.out) hb)
             have n1_ := Aside0.mk (blk_below (g := gb193) (o := .cells #[.int .i64 t191, .int .i64 t192] 24 (0, 0)) (by (with_reducible repeat (first | refine blk_drewN ?_ _ | refine blk_drew ?_ | refine blk_alloc ?_ _)); exact BK193.out) hb)
             have n2_ := Aside0.mk (blk_below (g := gb197) (o := .cells #[.int .i64 t194, .int .i64 t195] 24 (0, 0)) (by (with_reducible repeat (first | refine blk_drewN ?_ _ | refine blk_drew ?_ | refine blk_alloc ?_ _)); exact BK197.out) hb)
             have n3_ := Aside0.mk (blk_below (g := gb201) (o := .cells #[.int .i64 t198, .int .i64 t199] 24 (0, 0)) (by (with_reducible repeat (first | refine blk_drewN ?_ _ | refine blk_drew ?_ | refine blk_alloc ?_ _)); exact BK201.out) hb)
             have n4_ := Aside0.mk (below_step (by repeat (first | (with_reducible first | exact HB.out | apply below_alloc | apply pw_below_drewN | apply below_drew1 | refine below_set ?_ GE190.out | refine below_set ?_ GE193.out | refine below_set ?_ GE197.out | refine below_set ?_ GE201.out) | exact HB.out)) hb)
             clear BK190
             clear BK193
             clear BK197
             clear BK201
             clear HB
             have BK190 := n0_
             have BK193 := n1_
             have BK197 := n2_
             have BK201 := n3_
             have HB := n4_
             clear n0_ n1_ n2_ n3_ n4_
             (try clear hb)
             (try clear hb2)
             (try clear hk)
             (try clear hi)
             refine hK.out _ _ ⟨(blk_cell BK190.out 0).trans rfl, (blk_cell BK190.out 1).trans rfl, (blk_cell BK193.out 0).trans rfl, (blk_cell BK193.out 1).trans rfl, (blk_cell BK197.out 0).trans rfl, (blk_cell BK197.out 1).trans rfl, (blk_cell BK201.out 0).trans rfl, (blk_cell BK201.out 1).trans rfl⟩ (fun hHeld => ?_)
             clear hK K
             refine norm_ (a' := ?_) ?_ ?_
             rotate_left
             ·show Act.put _ (some 125) _ = _
              simp only [Act.put, List.setIfInBounds_toArray, List.set_cons_zero, List.set_cons_succ, i64_w, i32_w]
              rfl
             refine one_ (i := 87) (N := some 128) #[true, true, true, true, true, true, true, true, true, true, true, true, true, true, true, true, true, true, true, true, true, true, true, true, true, true, true, true, true, true, true, true, true, true, true, true, true, true, true, true, true, true, true, true, true, true, true, true, true, true, true, true, true, true, true, true, true, true, true, true, true, true, true, true, true, true, true, true, true, true, true, true, true, true, true, true, true, true, true, true, true, true, true, true, true, true, true, true, false, false, false, false, false, false, false, false, false, false, false, false, false, false] rfl rfl (one_of HT_.out (by kernel_rfl)) (by decide) (fun K hK => ?_)
             refine goes_ Try.func51 (by kernel_rfl) rfl #[.agg #[.int .i64 t188, .int .i64 t189], .agg #[.int .i64 t191, .int .i64 t192]] (by rfl) rfl rfl (by (try simp only [List.map_toArray, List.map_cons, List.map_nil]); first | done | rfl | (simp only [List.length_drop, List.length_take]; rfl)) ?_
             with_reducible refine (dynamoref1_In.calls t188 t189 t191 t192 t239 _ A47.out).mono ?_
             rintro e w100 ⟨rfl, hb⟩
             refine ⟨_, rfl, ?_⟩
             have n0_ := Aside0.mk (blk_below (g := gb190) (o := .cells #[.int .i64 t188, .int .i64 t189] 24 (0, 0)) (by (with_reducible repeat (first | refine blk_drewN ?_ _ | refine blk_drew ?_ | refine blk_alloc ?_ _)); exact BK190.out) hb)
             have n1_ := Aside0.mk (blk_below (g := gb193) (o := .cells #[.int .i64 t191, .int .i64 t192] 24 (0, 0)) (by (with_reducible repeat (first | refine blk_drewN ?_ _ | refine blk_drew ?_ | refine blk_alloc ?_ _)); exact BK193.out) hb)
             have n2_ := Aside0.mk (blk_below (g := gb197) (o := .cells #[.int .i64 t194, .int .i64 t195] 24 (0, 0)) (by (with_reducible repeat (first | refine blk_drewN ?_ _ | refine blk_drew ?_ | refine blk_alloc ?_ _)); exact BK197.out) hb)
             have n3_ := Aside0.mk (blk_below (g := gb201) (o := .cells #[.int .i64 t198, .int .i64 t199] 24 (0, 0)) (by (with_reducible repeat (first | refine blk_drewN ?_ _ | refine blk_drew ?_ | refine blk_alloc ?_ _)); exact BK201.out) hb)
             have n4_ := Aside0.mk (below_step (by repeat (first | (with_reducible first | exact HB.out | apply below_alloc | apply pw_below_drewN | apply below_drew1 | refine below_set ?_ GE190.out | refine below_set ?_ GE193.out | refine below_set ?_ GE197.out | refine below_set ?_ GE201.out) | exact HB.out)) hb)
             clear BK190
             clear BK193
             clear BK197
             clear BK201
             clear HB
             have BK190 := n0_
             have BK193 := n1_
             have BK197 := n2_
             have BK201 := n3_
             have HB := n4_
             clear n0_ n1_ n2_ n3_ n4_
             (try clear hb)
             (try clear hb2)
             (try clear hk)
             (try clear hi)
             refine hK.out _ _ ⟨(blk_cell BK190.out 0).trans rfl, (blk_cell BK190.out 1).trans rfl, (blk_cell BK193.out 0).trans rfl, (blk_cell BK193.out 1).trans rfl, (blk_cell BK197.out 0).trans rfl, (blk_cell BK197.out 1).trans rfl, (blk_cell BK201.out 0).trans rfl, (blk_cell BK201.out 1).trans rfl⟩ (fun hHeld => ?_)
             clear hK K
             refine norm_ (a' := ?_) ?_ ?_
             rotate_left
             ·show Act.put _ (some 128) _ = _
              simp only [Act.put, List.setIfInBounds_toArray, List.set_cons_zero, List.set_cons_succ, i64_w, i32_w]
              rfl
             refine pure_ (i := 88) (N := some 129) (v := ?_) (a' := ?_) #[true, true, true, true, true, true, true, true, true, true, true, true, true, true, true, true, true, true, true, true, true, true, true, true, true, true, true, true, true, true, true, true, true, true, true, true, true, true, true, true, true, true, true, true, true, true, true, true, true, true, true, true, true, true, true, true, true, true, true, true, true, true, true, true, true, true, true, true, true, true, true, true, true, true, true, true, true, true, true, true, true, true, true, true, true, true, true, true, true, false, false, false, false, false, false, false, false, false, false, false, false, false] rfl rfl (any_of HT_.out (by kernel_rfl)) (fun _ _ _ h => h) (Or.inl ⟨by rfl, ?_⟩) ?_ ?_
             rotate_left
             ·intro w'
              go_simp
              with_reducible rfl
             rotate_left
             ·simp only [Act.put, List.setIfInBounds_toArray, List.set_cons_zero, List.set_cons_succ, i64_w, i32_w]
              rfl
             refine pure_ (i := 89) (N := some 130) (v := ?_) (a' := ?_) #[true, true, true, true, true, true, true, true, true, true, true, true, true, true, true, true, true, true, true, true, true, true, true, true, true, true, true, true, true, true, true, true, true, true, true, true, true, true, true, true, true, true, true, true, true, true, true, true, true, true, true, true, true, true, true, true, true, true, true, true, true, true, true, true, true, true, true, true, true, true, true, true, true, true, true, true, true, true, true, true, true, true, true, true, true, true, true, true, true, true, false, false, false, false, false, false, false, false, false, false, false, false] rfl rfl (any_of HT_.out (by kernel_rfl)) (fun _ _ _ h => h) (Or.inl ⟨by rfl, ?_⟩) ?_ ?_
             rotate_left
             ·intro w'
              go_simp
              with_reducible rfl
             rotate_left
             ·simp only [Act.put, List.setIfInBounds_toArray, List.set_cons_zero, List.set_cons_succ, i64_w, i32_w]
              rfl
             refine pure_ (i := 90) (N := some 131) (v := ?_) (a' := ?_) #[true, true, true, true, true, true, true, true, true, true, true, true, true, true, true, true, true, true, true, true, true, true, true, true, true, true, true, true, true, true, true, true, true, true, true, true, true, true, true, true, true, true, true, true, true, true, true, true, true, true, true, true, true, true, true, true, true, true, true, true, true, true, true, true, true, true, true, true, true, true, true, true, true, true, true, true, true, true, true, true, true, true, true, true, true, true, true, true, true, true, true, false, false, false, false, false, false, false, false, false, false, false] rfl rfl (any_of HT_.out (by kernel_rfl)) (fun _ _ _ h => h) (Or.inl ⟨by rfl, ?_⟩) ?_ ?_
             rotate_left
             ·intro w'
              go_simp
              with_reducible rfl
             rotate_left
             ·simp only [Act.put, List.setIfInBounds_toArray, List.set_cons_zero, List.set_cons_succ, i64_w, i32_w]
              rfl
             refine pure_ (i := 92) (N := some 133) (v := ?_) (a' := ?_) #[true, true, true, true, true, true, true, true, true, true, true, true, true, true, true, true, true, true, true, true, true, true, true, true, true, true, true, true, true, true, true, true, true, true, true, true, true, true, true, true, true, true, true, true, true, true, true, true, true, true, true, true, true, true, true, true, true, true, true, true, true, true, true, true, true, true, true, true, true, true, true, true, true, true, true, true, true, true, true, true, true, true, true, true, true, true, true, true, true, true, true, false, true, false, false, false, false, false, false, false, false, false] rfl rfl (any_of HT_.out (by kernel_rfl)) (fun _ _ _ h => h) (Or.inl ⟨by rfl, ?_⟩) ?_ ?_
             rotate_left
             ·intro w'
              go_simp
              with_reducible rfl
             rotate_left
             ·simp only [Act.put, List.setIfInBounds_toArray, List.set_cons_zero, List.set_cons_succ, i64_w, i32_w]
              rfl
             refine pure_ (i := 93) (N := some 134) (v := ?_) (a' := ?_) #[true, true, true, true, true, true, true, true, true, true, true, true, true, true, true, true, true, true, true, true, true, true, true, true, true, true, true, true, true, true, true, true, true, true, true, true, true, true, true, true, true, true, true, true, true, true, true, true, true, true, true, true, true, true, true, true, true, true, true, true, true, true, true, true, true, true, true, true, true, true, true, true, true, true, true, true, true, true, true, true, true, true, true, true, true, true, true, true, true, true, true, false, true, true, false, false, false, false, false, false, false, false] rfl rfl (any_of HT_.out (by kernel_rfl)) (fun _ _ _ h => h) (Or.inl ⟨by rfl, ?_⟩) ?_ ?_
             rotate_left
             ·intro w'
              go_simp
              with_reducible rfl
             rotate_left
             ·simp only [Act.put, List.setIfInBounds_toArray, List.set_cons_zero, List.set_cons_succ, i64_w, i32_w]
              rfl
             refine pure_ (i := 96) (N := some 137) (v := ?_) (a' := ?_) #[true, true, true, true, true, true, true, true, true, true, true, true, true, true, true, true, true, true, true, true, true, true, true, true, true, true, true, true, true, true, true, true, true, true, true, true, true, true, true, true, true, true, true, true, true, true, true, true, true, true, true, true, true, true, true, true, true, true, true, true, true, true, true, true, true, true, true, true, true, true, true, true, true, true, true, true, true, true, true, true, true, true, true, true, true, true, true, true, true, true, true, false, true, true, false, false, true, false, false, false, false, false] rfl rfl (any_of HT_.out (by kernel_rfl)) (fun _ _ _ h => h) (Or.inl ⟨by rfl, ?_⟩) ?_ ?_
             rotate_left
             ·intro w'
              go_simp
              with_reducible rfl
             rotate_left
             ·simp only [Act.put, List.setIfInBounds_toArray, List.set_cons_zero, List.set_cons_succ, i64_w, i32_w]
              rfl
             refine pure_ (i := 97) (N := some 138) (v := ?_) (a' := ?_) #[true, true, true, true, true, true, true, true, true, true, true, true, true, true, true, true, true, true, true, true, true, true, true, true, true, true, true, true, true, true, true, true, true, true, true, true, true, true, true, true, true, true, true, true, true, true, true, true, true, true, true, true, true, true, true, true, true, true, true, true, true, true, true, true, true, true, true, true, true, true, true, true, true, true, true, true, true, true, true, true, true, true, true, true, true, true, true, true, true, true, true, false, true, true, false, false, true, true, false, false, false, false] rfl rfl (any_of HT_.out (by kernel_rfl)) (fun _ _ _ h => h) (Or.inl ⟨by rfl, ?_⟩) ?_ ?_
             rotate_left
             ·intro w'
              go_simp
              with_reducible rfl
             rotate_left
             ·simp only [Act.put, List.setIfInBounds_toArray, List.set_cons_zero, List.set_cons_succ, i64_w, i32_w]
              rfl
             refine take_ (i := 91) (N := some 132) (v := ?_) (a' := ?_) #[true, true, true, true, true, true, true, true, true, true, true, true, true, true, true, true, true, true, true, true, true, true, true, true, true, true, true, true, true, true, true, true, true, true, true, true, true, true, true, true, true, true, true, true, true, true, true, true, true, true, true, true, true, true, true, true, true, true, true, true, true, true, true, true, true, true, true, true, true, true, true, true, true, true, true, true, true, true, true, true, true, true, true, true, true, true, true, true, true, true, true, true, true, true, false, false, true, true, false, false, false, false] rfl rfl (take_ofW HT_.out HW_.out (by kernel_rfl)) (fun _ _ _ h => h) (Or.inl ⟨by rfl, ?_⟩) hHeld ?_ ?_
             rotate_left
             ·rintro w' ⟨s0, s1, s2, s3, s4, s5, s6, s7⟩
              go_simp
              with_reducible rfl
             rotate_left
             ·simp only [Act.put, List.setIfInBounds_toArray, List.set_cons_zero, List.set_cons_succ, i64_w, i32_w]
              rfl
             refine take_ (i := 95) (N := some 136) (v := ?_) (a' := ?_) #[true, true, true, true, true, true, true, true, true, true, true, true, true, true, true, true, true, true, true, true, true, true, true, true, true, true, true, true, true, true, true, true, true, true, true, true, true, true, true, true, true, true, true, true, true, true, true, true, true, true, true, true, true, true, true, true, true, true, true, true, true, true, true, true, true, true, true, true, true, true, true, true, true, true, true, true, true, true, true, true, true, true, true, true, true, true, true, true, true, true, true, true, true, true, false, true, true, true, false, false, false, false] rfl rfl (take_ofW HT_.out HW_.out (by kernel_rfl)) (fun _ _ _ h => h) (Or.inl ⟨by rfl, ?_⟩) hHeld ?_ ?_
             rotate_left
             ·rintro w' ⟨s0, s1, s2, s3, s4, s5, s6, s7⟩
              go_simp
              with_reducible rfl
             rotate_left
             ·simp only [Act.put, List.setIfInBounds_toArray, List.set_cons_zero, List.set_cons_succ, i64_w, i32_w]
              rfl
             refine one_ (i := 94) (N := some 135) #[true, true, true, true, true, true, true, true, true, true, true, true, true, true, true, true, true, true, true, true, true, true, true, true, true, true, true, true, true, true, true, true, true, true, true, true, true, true, true, true, true, true, true, true, true, true, true, true, true, true, true, true, true, true, true, true, true, true, true, true, true, true, true, true, true, true, true, true, true, true, true, true, true, true, true, true, true, true, true, true, true, true, true, true, true, true, true, true, true, true, true, true, true, true, true, true, true, true, false, false, false, false] rfl rfl (one_of HT_.out (by kernel_rfl)) (by decide) (fun K hK => ?_)
             refine goes_ Try.func24 (by kernel_rfl) rfl #[.agg #[.int .i64 t188, .int .i64 t189], .int .i64 a2, .int .i64 a3] (by rfl) rfl rfl (by (try simp only [List.map_toArray, List.map_cons, List.map_nil]); first | done | rfl | (simp only [List.length_drop, List.length_take]; rfl)) ?_
             with_reducible refine (span_Clamp.calls t188 t189 a2 a3 t240 t241 _ A49.out).mono ?_
             rintro e w101 ⟨rfl, hb⟩
             refine ⟨_, rfl, ?_⟩
             have n0_ := Aside0.mk (blk_below (g := gb190) (o := .cells #[.int .i64 t188, .int .i64 t189] 24 (0, 0)) (by (with_reducible repeat (first | refine blk_drewN ?_ _ | refine blk_drew ?_ | refine blk_alloc ?_ _)); exact BK190.out) hb)
             have n1_ := Aside0.mk (blk_below (g := gb193) (o := .cells #[.int .i64 t191, .int .i64 t192] 24 (0, 0)) (by (with_reducible repeat (first | refine blk_drewN ?_ _ | refine blk_drew ?_ | refine blk_alloc ?_ _)); exact BK193.out) hb)
             have n2_ := Aside0.mk (blk_below (g := gb197) (o := .cells #[.int .i64 t194, .int .i64 t195] 24 (0, 0)) (by (with_reducible repeat (first | refine blk_drewN ?_ _ | refine blk_drew ?_ | refine blk_alloc ?_ _)); exact BK197.out) hb)
             have n3_ := Aside0.mk (blk_below (g := gb201) (o := .cells #[.int .i64 t198, .int .i64 t199] 24 (0, 0)) (by (with_reducible repeat (first | refine blk_drewN ?_ _ | refine blk_drew ?_ | refine blk_alloc ?_ _)); exact BK201.out) hb)
             have n4_ := Aside0.mk (below_step (by repeat (first | (with_reducible first | exact HB.out | apply below_alloc | apply pw_below_drewN | apply below_drew1 | refine below_set ?_ GE190.out | refine below_set ?_ GE193.out | refine below_set ?_ GE197.out | refine below_set ?_ GE201.out) | exact HB.out)) hb)
             clear BK190
             clear BK193
             clear BK197
             clear BK201
             clear HB
             have BK190 := n0_
             have BK193 := n1_
             have BK197 := n2_
             have BK201 := n3_
             have HB := n4_
             clear n0_ n1_ n2_ n3_ n4_
             (try clear hb)
             (try clear hb2)
             (try clear hk)
             (try clear hi)
             refine hK.out _ _ ⟨(blk_cell BK190.out 0).trans rfl, (blk_cell BK190.out 1).trans rfl, (blk_cell BK193.out 0).trans rfl, (blk_cell BK193.out 1).trans rfl, (blk_cell BK197.out 0).trans rfl, (blk_cell BK197.out 1).trans rfl, (blk_cell BK201.out 0).trans rfl, (blk_cell BK201.out 1).trans rfl⟩ (fun hHeld => ?_)
             clear hK K
             refine norm_ (a' := ?_) ?_ ?_
             rotate_left
             ·show Act.put _ (some 135) _ = _
              simp only [Act.put, List.setIfInBounds_toArray, List.set_cons_zero, List.set_cons_succ, i64_w, i32_w]
              rfl
             refine one_ (i := 98) (N := some 139) #[true, true, true, true, true, true, true, true, true, true, true, true, true, true, true, true, true, true, true, true, true, true, true, true, true, true, true, true, true, true, true, true, true, true, true, true, true, true, true, true, true, true, true, true, true, true, true, true, true, true, true, true, true, true, true, true, true, true, true, true, true, true, true, true, true, true, true, true, true, true, true, true, true, true, true, true, true, true, true, true, true, true, true, true, true, true, true, true, true, true, true, true, true, true, true, true, true, true, true, false, false, false] rfl rfl (one_of HT_.out (by kernel_rfl)) (by decide) (fun K hK => ?_)
             refine goes_ Try.func52 (by kernel_rfl) rfl #[.agg #[.int .i64 t188, .int .i64 t189], .int .i64 a2, .int .i64 a3] (by rfl) rfl rfl (by (try simp only [List.map_toArray, List.map_cons, List.map_nil]); first | done | rfl | (simp only [List.length_drop, List.length_take]; rfl)) ?_
             with_reducible refine (dynamoref1_ClampSpan.calls t188 t189 a2 a3 t242 t243 _ A50.out).mono ?_
             rintro e w102 ⟨rfl, hb⟩
             refine ⟨_, rfl, ?_⟩
             have n0_ := Aside0.mk (blk_below (g := gb190) (o := .cells #[.int .i64 t188, .int .i64 t189] 24 (0, 0)) (by (with_reducible repeat (first | refine blk_drewN ?_ _ | refine blk_drew ?_ | refine blk_alloc ?_ _)); exact BK190.out) hb)
             have n1_ := Aside0.mk (blk_below (g := gb193) (o := .cells #[.int .i64 t191, .int .i64 t192] 24 (0, 0)) (by (with_reducible repeat (first | refine blk_drewN ?_ _ | refine blk_drew ?_ | refine blk_alloc ?_ _)); exact BK193.out) hb)
             have n2_ := Aside0.mk (blk_below (g := gb197) (o := .cells #[.int .i64 t194, .int .i64 t195] 24 (0, 0)) (by (with_reducible repeat (first | refine blk_drewN ?_ _ | refine blk_drew ?_ | refine blk_alloc ?_ _)); exact BK197.out) hb)
             have n3_ := Aside0.mk (blk_below (g := gb201) (o := .cells #[.int .i64 t198, .int .i64 t199] 24 (0, 0)) (by (with_reducible repeat (first | refine blk_drewN ?_ _ | refine blk_drew ?_ | refine blk_alloc ?_ _)); exact BK201.out) hb)
             have n4_ := Aside0.mk (below_step (by repeat (first | (with_reducible first | exact HB.out | apply below_alloc | apply pw_below_drewN | apply below_drew1 | refine below_set ?_ GE190.out | refine below_set ?_ GE193.out | refine below_set ?_ GE197.out | refine below_set ?_ GE201.out) | exact HB.out)) hb)
             clear BK190
             clear BK193
             clear BK197
             clear BK201
             clear HB
             have BK190 := n0_
             have BK193 := n1_
             have BK197 := n2_
             have BK201 := n3_
             have HB := n4_
             clear n0_ n1_ n2_ n3_ n4_
             (try clear hb)
             (try clear hb2)
             (try clear hk)
             (try clear hi)
             refine hK.out _ _ ⟨(blk_cell BK190.out 0).trans rfl, (blk_cell BK190.out 1).trans rfl, (blk_cell BK193.out 0).trans rfl, (blk_cell BK193.out 1).trans rfl, (blk_cell BK197.out 0).trans rfl, (blk_cell BK197.out 1).trans rfl, (blk_cell BK201.out 0).trans rfl, (blk_cell BK201.out 1).trans rfl⟩ (fun hHeld => ?_)
             clear hK K
             refine norm_ (a' := ?_) ?_ ?_
             rotate_left
             ·show Act.put _ (some 139) _ = _
              simp only [Act.put, List.setIfInBounds_toArray, List.set_cons_zero, List.set_cons_succ, i64_w, i32_w]
              rfl
             refine one_ (i := 99) (N := some 140) #[true, true, true, true, true, true, true, true, true, true, true, true, true, true, true, true, true, true, true, true, true, true, true, true, true, true, true, true, true, true, true, true, true, true, true, true, true, true, true, true, true, true, true, true, true, true, true, true, true, true, true, true, true, true, true, true, true, true, true, true, true, true, true, true, true, true, true, true, true, true, true, true, true, true, true, true, true, true, true, true, true, true, true, true, true, true, true, true, true, true, true, true, true, true, true, true, true, true, true, true, false, false] rfl rfl (one_of HT_.out (by kernel_rfl)) (by decide) (fun K hK => ?_)
             refine goes_ Try.func17 (by kernel_rfl) rfl #[.agg #[.int .i64 t240, .int .i64 t241], .agg #[.int .i64 t242, .int .i64 t243]] (by rfl) rfl rfl (by (try simp only [List.map_toArray, List.map_cons, List.map_nil]); first | done | rfl | (simp only [List.length_drop, List.length_take]; rfl)) ?_
             with_reducible refine (dynamoref_SameSpan.calls t240 t241 t242 t243 t244 _ A51.out).mono ?_
             rintro e w103 ⟨rfl, hb⟩
             refine ⟨_, rfl, ?_⟩
             have n0_ := Aside0.mk (blk_below (g := gb190) (o := .cells #[.int .i64 t188, .int .i64 t189] 24 (0, 0)) (by (with_reducible repeat (first | refine blk_drewN ?_ _ | refine blk_drew ?_ | refine blk_alloc ?_ _)); exact BK190.out) hb)
             have n1_ := Aside0.mk (blk_below (g := gb193) (o := .cells #[.int .i64 t191, .int .i64 t192] 24 (0, 0)) (by (with_reducible repeat (first | refine blk_drewN ?_ _ | refine blk_drew ?_ | refine blk_alloc ?_ _)); exact BK193.out) hb)
             have n2_ := Aside0.mk (blk_below (g := gb197) (o := .cells #[.int .i64 t194, .int .i64 t195] 24 (0, 0)) (by (with_reducible repeat (first | refine blk_drewN ?_ _ | refine blk_drew ?_ | refine blk_alloc ?_ _)); exact BK197.out) hb)
             have n3_ := Aside0.mk (blk_below (g := gb201) (o := .cells #[.int .i64 t198, .int .i64 t199] 24 (0, 0)) (by (with_reducible repeat (first | refine blk_drewN ?_ _ | refine blk_drew ?_ | refine blk_alloc ?_ _)); exact BK201.out) hb)
             have n4_ := Aside0.mk (below_step (by repeat (first | (with_reducible first | exact HB.out | apply below_alloc | apply pw_below_drewN | apply below_drew1 | refine below_set ?_ GE190.out | refine below_set ?_ GE193.out | refine below_set ?_ GE197.out | refine below_set ?_ GE201.out) | exact HB.out)) hb)
             clear BK190
             clear BK193
             clear BK197
             clear BK201
             clear HB
             have BK190 := n0_
             have BK193 := n1_
             have BK197 := n2_
             have BK201 := n3_
             have HB := n4_
             clear n0_ n1_ n2_ n3_ n4_
             (try clear hb)
             (try clear hb2)
             (try clear hk)
             (try clear hi)
             refine hK.out _ _ ⟨(blk_cell BK190.out 0).trans rfl, (blk_cell BK190.out 1).trans rfl, (blk_cell BK193.out 0).trans rfl, (blk_cell BK193.out 1).trans rfl, (blk_cell BK197.out 0).trans rfl, (blk_cell BK197.out 1).trans rfl, (blk_cell BK201.out 0).trans rfl, (blk_cell BK201.out 1).trans rfl⟩ (fun hHeld => ?_)
             clear hK K
             refine norm_ (a' := ?_) ?_ ?_
             rotate_left
             ·show Act.put _ (some 140) _ = _
              simp only [Act.put, List.setIfInBounds_toArray, List.set_cons_zero, List.set_cons_succ, i64_w, i32_w]
              rfl
             refine pure_ (i := 100) (N := some 141) (v := ?_) (a' := ?_) #[true, true, true, true, true, true, true, true, true, true, true, true, true, true, true, true, true, true, true, true, true, true, true, true, true, true, true, true, true, true, true, true, true, true, true, true, true, true, true, true, true, true, true, true, true, true, true, true, true, true, true, true, true, true, true, true, true, true, true, true, true, true, true, true, true, true, true, true, true, true, true, true, true, true, true, true, true, true, true, true, true, true, true, true, true, true, true, true, true, true, true, true, true, true, true, true, true, true, true, true, true, false] rfl rfl (any_of HT_.out (by kernel_rfl)) (fun _ _ _ h => h) (Or.inl ⟨by rfl, ?_⟩) ?_ ?_
             rotate_left
             ·intro w'
              go_simp
              with_reducible rfl
             rotate_left
             ·simp only [Act.put, List.setIfInBounds_toArray, List.set_cons_zero, List.set_cons_succ, i64_w, i32_w]
              rfl
             refine pure_ (i := 101) (N := some 12) (v := ?_) (a' := ?_) #[true, true, true, true, true, true, true, true, true, true, true, true, true, true, true, true, true, true, true, true, true, true, true, true, true, true, true, true, true, true, true, true, true, true, true, true, true, true, true, true, true, true, true, true, true, true, true, true, true, true, true, true, true, true, true, true, true, true, true, true, true, true, true, true, true, true, true, true, true, true, true, true, true, true, true, true, true, true, true, true, true, true, true, true, true, true, true, true, true, true, true, true, true, true, true, true, true, true, true, true, true, true] rfl rfl (any_of HT_.out (by kernel_rfl)) (fun _ _ _ h => h) (Or.inl ⟨by rfl, ?_⟩) ?_ ?_
             rotate_left
             ·intro w'
              go_simp
              with_reducible rfl
             rotate_left
             ·simp only [Act.put, List.setIfInBounds_toArray, List.set_cons_zero, List.set_cons_succ, i64_w, i32_w]
              rfl
             refine done_ (done_of HT_.out (by kernel_rfl)) ?_
             try go_wp2
             all_goals (try go_ret)
             all_goals first | (exfalso; simp_all; done) | exact ⟨by first | rfl | (rw [HLAST.out]; done) | (simp [HLAST.out]; done) | (have HL_ := HLAST.out; simp_all; done) | (simp [errW_none, errW_some] <;> rfl) | (simp [*, errW_none, errW_some] <;> rfl), by repeat (first | (with_reducible first | exact HB.out | apply below_alloc | apply pw_below_drewN | apply below_drew1 | refine below_set ?_ GE190.out | refine below_set ?_ GE193.out | refine below_set ?_ GE197.out | refine below_set ?_ GE201.out) | exact HB.out)⟩
            ·rw [if_neg c48] at H
             have c48b0 : (t238 == t239) = false := by simpa using c48
             (try (have c48b1 : decide (t238 = t239) = false := by simpa using c48))
             (try (have c48b2 : (t238 == t239) = false := by simpa using c48))
             (try (have c48b3 : ¬ (t238 = t239) := by simpa using c48))
             clear c48
             exact absurd H (by simp)
           ·rw [if_neg c45] at H
            have c45b0 : (t236 == t237) = false := by simpa using c45
            (try (have c45b1 : decide (t236 = t237) = false := by simpa using c45))
            (try (have c45b2 : (t236 == t237) = false := by simpa using c45))
            (try (have c45b3 : ¬ (t236 = t237) := by simpa using c45))
            clear c45
            exact absurd H (by simp)
          ·replace c42 := Bool.eq_false_iff.mpr c42
           subst c42
           have H1 : (some false) = some true := by first | (rw [if_neg (show ¬ (false = true) by decide)] at H; exact H) | exact H | rfl
           clear H
           have H := H1
           clear H1
           exact absurd H (by simp)
         ·rw [if_neg c38] at H
          have c38b0 : (t196 == t200) = false := by simpa using c38
          (try (have c38b1 : decide (t196 = t200) = false := by simpa using c38))
          (try (have c38b2 : (t196 == t200) = false := by simpa using c38))
          (try (have c38b3 : ¬ (t196 = t200) := by simpa using c38))
          clear c38
          exact absurd H (by simp)
        ·replace c37 := Bool.eq_false_iff.mpr c37
         subst c37
         have H1 : (some false) = some true := by first | (rw [if_neg (show ¬ (false = true) by decide)] at H; exact H) | exact H | rfl
         clear H
         have H := H1
         clear H1
         exact absurd H (by simp)
       ·replace c35 := Bool.eq_false_iff.mpr c35
        subst c35
        have H1 : (some false) = some true := by first | (rw [if_neg (show ¬ (false = true) by decide)] at H; exact H) | exact H | rfl
        clear H
        have H := H1
        clear H1
        exact absurd H (by simp)
      ·replace c31 := Bool.eq_false_iff.mpr c31
       subst c31
       have H1 : (some false) = some true := by first | (rw [if_neg (show ¬ (false = true) by decide)] at H; exact H) | exact H | rfl
       clear H
       have H := H1
       clear H1
       exact absurd H (by simp)
     ·replace c27 := Bool.eq_false_iff.mpr c27
      subst c27
      have H1 : (some false) = some true := by first | (rw [if_neg (show ¬ (false = true) by decide)] at H; exact H) | exact H | rfl
      clear H
      have H := H1
      clear H1
      exact absurd H (by simp)
    ·replace c23 := Bool.eq_false_iff.mpr c23
     subst c23
     have H1 : (some false) = some true := by first | (rw [if_neg (show ¬ (false = true) by decide)] at H; exact H) | exact H | rfl
     clear H
     have H := H1
     clear H1
     exact absurd H (by simp)
   ·replace c19 := Bool.eq_false_iff.mpr c19
    subst c19
    have H1 : (some false) = some true := by first | (rw [if_neg (show ¬ (false = true) by decide)] at H; exact H) | exact H | rfl
    clear H
    have H := H1
    clear H1
    exact absurd H (by simp)
  ·replace c15 := Bool.eq_false_iff.mpr c15
   subst c15
   have H1 : (some false) = some true := by first | (rw [if_neg (show ¬ (false = true) by decide)] at H; exact H) | exact H | rfl
   clear H
   have H := H1
   clear H1
   exact absurd H (by simp)
 ·replace c8 := Bool.eq_false_iff.mpr c8
  subst c8
  have H1 : (some false) = some true := by first | (rw [if_neg (show ¬ (false = true) by decide)] at H; exact H) | exact H | rfl
  clear H
  have H := H1
  clear H1
  exact absurd H (by simp)

/-- THE ONE PURE STATEMENT of dynamolaw2_SpanSays: yours. -/
def dynamolaw2_SpanSays.Pure : Prop := ∀ (a0 : Int) (a1 : Int) (a2 : Int) (a3 : Int) (a4 : Int) (a5 : Int), (Lit.int .i64 a0).wf = true → (Lit.int .i64 a1).wf = true → (Lit.int .i64 a2).wf = true → (Lit.int .i64 a3).wf = true → (Lit.int .i64 a4).wf = true → (Lit.int .i64 a5).wf = true → ∃ k, dynamolaw2_SpanSays.f k a0 a1 a2 a3 a4 a5 = some true
theorem dynamolaw2_SpanSays.walk (P : dynamolaw2_SpanSays.Pure) (a0 : Int) (a1 : Int) (a2 : Int) (a3 : Int) (a4 : Int) (a5 : Int) (w : World) (w0 : (Lit.int .i64 a0).wf = true) (w1 : (Lit.int .i64 a1).wf = true) (w2 : (Lit.int .i64 a2).wf = true) (w3 : (Lit.int .i64 a3).wf = true) (w4 : (Lit.int .i64 a4).wf = true) (w5 : (Lit.int .i64 a5).wf = true) :
  Calls Try.prog 11 #[.int .i64 a0, .int .i64 a1, .int .i64 a2, .int .i64 a3, .int .i64 a4, .int .i64 a5] w fun e w' => e = .returned (.bool true) ∧ Below w.heap.size w w' := by
 obtain ⟨k, h⟩ := P a0 a1 a2 a3 a4 a5 w0 w1 w2 w3 w4 w5
 refine (dynamolaw2_SpanSays.calls k a0 a1 a2 a3 a4 a5 w h).mono ?_
 rintro e w' ⟨rfl, hd⟩
 exact ⟨rfl, hd⟩

end Go.Proofs.Ytjecaenloilkcaa.PSpanSays
