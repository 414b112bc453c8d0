/- What functions of this program do, each as a contract that its callers use, and what follows of it in plain numbers.
   By an AI agent. -/
import Derived.Test.YtlhhcongoplfpaaDoorRows
import Derived.Test.YtlhhcongoplfpaaDoorSR4
import Derived.Test.YtlhhcongoplfpaaDoorABM
import Derived.Test.YtlhhcongoplfpaaDoorKT2
import Derived.Test.YtlhhcongoplfpaaDoorDJ2
import Derived.Test.YtlhhcongoplfpaaDoorDJ3
import Derived.Test.YtlhhcongoplfpaaDoorCards
import Derived.Test.YtlhhcongoplfpaaDoorTie
import Derived.SevenTiedAt
import Derived.ChangeSame
import Derived.ChangeVars
import Derived.JoinedOf
import Derived.RowKitTokens
import Derived.LaidLaws
import Derived.LaidHandle
import Derived.Lay
import Derived.LaidMore
import Derived.LaidOnce
import Derived.WalkKit
import Derived.ProofKit
import Derived.OpenShut
import Derived.ShutString
import Derived.ChangeOld
import Derived.Below
import Derived.SizedLaws
-- written by this work with wip/ab/genlaw.py
namespace Go.Proofs.YtlhhcongoplfpaaDoor.shedSays
open Go.ChangeShapes Go.WideShapes Go.ChangeAt Go.RowKit Go.Proofs.YtlhhcongoplfpaaDoorAB
open Go.ChangeMaps (open_string shut_string)
set_option linter.unusedVariables false
def laid0 : List (String × DataW Unit) := [("math/bits.deBruijn32tab", Rows.laid_math_bits_deBruijn32tab), ("math/bits.deBruijn64tab", Rows.laid_math_bits_deBruijn64tab)]
theorem own : ownKnob Tryd.prog.godebug = none := by kernel_rfl
theorem laidOut : laidOutB Tryd.prog = true := by kernel_rfl
set_option maxRecDepth 100000 in
theorem lifted (os : Os) (started : os.Started) (H : Type) (enc : TypeId × Value → H) :
  ReturnsInHanded {} Tryd.checked os 26 .any (fun w args => (Rows.shedSaysSpec.pre enc Tryd.prog Tryd.f26 [] false w args ∧ laidMetH Tryd.prog laid0 w) ∧ sizedMet enc Tryd.prog Tryd.f26 (OpenSpec.ofChange Rows.shedSaysSpec) false w args)
   (Rows.shedSaysSpec.post enc Tryd.prog Tryd.f26 false true false false) := by
 refine returnsInHanded_of_change_and (C := Tryd.checked) (X := fun w _ => laidMetH Tryd.prog laid0 w) (fun _ _ _ hh h => h.of_heap hh) own started (by kernel_rfl) Tryd.func26
  (ChangeSpec.witness_shaped (enc := enc) (C := Tryd.checked) (os := os) (X := fun w _ => laidMetH Tryd.prog laid0 w) false (World.laidAll Tryd.prog os laid0) #[.int .i64 0, .int .i64 0, .int .i64 0, .int .i64 0, .int .i64 0, .int .i64 0, .int .i64 0, .bool false, .agg #[.bool false, .bool false], .agg #[.int .i64 0, .int .i64 0], .agg #[.int .i64 0, .int .i64 0, .int .i64 0, .int .i64 0]] 8 (World.laidAll_os _ _ _) (World.shaped_of_ZipB (by kernel_rfl) (by kernel_rfl)) (by kernel_rfl) (by kernel_rfl) (by kernel_rfl)
   (by rw [MakeChecks.laidMetH_plain _ _ _ (by kernel_rfl)]; exact laidMet_laidAll _ (by kernel_rfl) (by kernel_rfl))) ?_
 intro W base args ds gs before hval0 hW hcnd hsz0 hL _
 have hval : ∀ (j : Nat) t v, Tryd.f26.params[j]? = some t → args[j]? = some v → Value.okWide Tryd.prog W .any base t v := hval0
 have hW' := hW
 obtain ⟨p, q, hA0, hV, rfl, hfz, hnd⟩ := hW
 have hA : DataW.TrodAll enc Tryd.prog W 0 (fun _ => true) true Tryd.f26.params.toList args.toList ds p := hA0
 rw [Tryd.params26] at hA hval
 obtain ⟨v0, vs0, d0, ds0, p0, q0, hargs, rfl, rfl, h0, r0⟩ := trodAll_cons hA
 obtain ⟨v1, vs1, d1, ds1, p1, q1, rfl, rfl, rfl, h1, r1⟩ := trodAll_cons r0
 obtain ⟨v2, vs2, d2, ds2, p2, q2, rfl, rfl, rfl, h2, r2⟩ := trodAll_cons r1
 obtain ⟨v3, vs3, d3, ds3, p3, q3, rfl, rfl, rfl, h3, r3⟩ := trodAll_cons r2
 obtain ⟨v4, vs4, d4, ds4, p4, q4, rfl, rfl, rfl, h4, r4⟩ := trodAll_cons r3
 obtain ⟨v5, vs5, d5, ds5, p5, q5, rfl, rfl, rfl, h5, r5⟩ := trodAll_cons r4
 obtain ⟨v6, vs6, d6, ds6, p6, q6, rfl, rfl, rfl, h6, r6⟩ := trodAll_cons r5
 obtain ⟨v7, vs7, d7, ds7, p7, q7, rfl, rfl, rfl, h7, r7⟩ := trodAll_cons r6
 obtain ⟨v8, vs8, d8, ds8, p8, q8, rfl, rfl, rfl, h8, r8⟩ := trodAll_cons r7
 obtain ⟨v9, vs9, d9, ds9, p9, q9, rfl, rfl, rfl, h9, r9⟩ := trodAll_cons r8
 obtain ⟨v10, vs10, d10, ds10, p10, q10, rfl, rfl, rfl, h10, r10⟩ := trodAll_cons r9
 obtain ⟨rfl, rfl, rfl⟩ := trodAll_nil r10
 obtain rfl : args = #[v0, v1, v2, v3, v4, v5, v6, v7, v8, v9, v10] := by cases args; simp_all
 obtain ⟨rfl, rfl⟩ := trodVars_none hV
 obtain ⟨a0, rfl, rfl, rfl, w0⟩ := open_int Tryd.underlying3 (hval 0 3 v0 rfl rfl) h0
 obtain ⟨a1, rfl, rfl, rfl, w1⟩ := open_int Tryd.underlying3 (hval 1 3 v1 rfl rfl) h1
 obtain ⟨a2, rfl, rfl, rfl, w2⟩ := open_int Tryd.underlying3 (hval 2 3 v2 rfl rfl) h2
 obtain ⟨a3, rfl, rfl, rfl, w3⟩ := open_int Tryd.underlying3 (hval 3 3 v3 rfl rfl) h3
 obtain ⟨a4, rfl, rfl, rfl, w4⟩ := open_int Tryd.underlying3 (hval 4 3 v4 rfl rfl) h4
 obtain ⟨a5, rfl, rfl, rfl, w5⟩ := open_int Tryd.underlying3 (hval 5 3 v5 rfl rfl) h5
 obtain ⟨a6, rfl, rfl, rfl, w6⟩ := open_int Tryd.underlying3 (hval 6 3 v6 rfl rfl) h6
 obtain ⟨a7, rfl, rfl, rfl⟩ := open_bool Tryd.underlying4 (hval 7 4 v7 rfl rfl) h7
 obtain ⟨b0_8, b1_8, rfl⟩ := Go.Proofs.YtlhhcongoplfpaaDoor.Top.open_r110 (hval 8 110 v8 rfl rfl)
 have k8 := h8
 have lt8 : ∀ x ∈ p8, x.block < W.heap.size := by obtain ⟨m, hm⟩ := k8; exact DataW.trod_lt m _ _ _ hm
 obtain ⟨n0_9, n1_9, rfl⟩ := Go.Proofs.YtlhhcongoplfpaaDoor.Top.open_r112 (hval 9 112 v9 rfl rfl)
 have k9 := h9
 have lt9 : ∀ x ∈ p9, x.block < W.heap.size := by obtain ⟨m, hm⟩ := k9; exact DataW.trod_lt m _ _ _ hm
 obtain ⟨n0_10, n1_10, n2_10, n3_10, rfl⟩ := Go.Proofs.YtlhhcongoplfpaaDoor.Top.open_r113 (hval 10 113 v10 rfl rfl)
 have k10 := h10
 have lt10 : ∀ x ∈ p10, x.block < W.heap.size := by obtain ⟨m, hm⟩ := k10; exact DataW.trod_lt m _ _ _ hm
 clear hA0 hval0 hsz0
 have HW : Calls Tryd.prog 26 #[.int .i64 a0, .int .i64 a1, .int .i64 a2, .int .i64 a3, .int .i64 a4, .int .i64 a5, .int .i64 a6, .bool a7, .agg ⟨[.bool b0_8, .bool b1_8]⟩, .agg ⟨[.int .i64 n0_9, .int .i64 n1_9]⟩, .agg ⟨[.int .i64 n0_10, .int .i64 n1_10, .int .i64 n2_10, .int .i64 n3_10]⟩] W fun e w' => e = .returned (.bool true) ∧ Below W.heap.size W w' := by
  exact Go.Proofs.YtlhhcongoplfpaaDoor.Top.top6 hL (shedSays a0 a1 a2 a3 a4 a5 a6 a7 b0_8 b1_8 n0_9 n1_9 n0_10 n1_10 n2_10 n3_10) (.cons (.int _ _) (.cons (.int _ _) (.cons (.int _ _) (.cons (.int _ _) (.cons (.int _ _) (.cons (.int _ _) (.cons (.int _ _) (.cons (.bool _) (.cons (.agg (.cons (.bool _) (.cons (.bool _) .nil))) (.cons (.agg (.cons (.int _ _) (.cons (.int _ _) .nil))) (.cons (.agg (.cons (.int _ _) (.cons (.int _ _) (.cons (.int _ _) (.cons (.int _ _) .nil))))) .nil)))))))))))
 refine HW.mono fun e W' ⟨he, bel⟩ => ?_
 subst he
 exact ⟨_, rfl, _, _, _, [], _, [], hW', trodAll_mk1 (shut_bool Tryd.underlying4 _), (trodAll_cons_mk (shut_int Tryd.underlying3 w0) (trodAll_cons_mk (shut_int Tryd.underlying3 w1) (trodAll_cons_mk (shut_int Tryd.underlying3 w2) (trodAll_cons_mk (shut_int Tryd.underlying3 w3) (trodAll_cons_mk (shut_int Tryd.underlying3 w4) (trodAll_cons_mk (shut_int Tryd.underlying3 w5) (trodAll_cons_mk (shut_int Tryd.underlying3 w6) (trodAll_cons_mk (shut_bool Tryd.underlying4 _) (trodAll_cons_mk (Below.trod laidOut (by kernel_rfl) (of_decide_eq_true (by kernel_rfl)) k8 bel lt8) (trodAll_cons_mk (Below.trod laidOut (by kernel_rfl) (of_decide_eq_true (by kernel_rfl)) k9 bel lt9) (trodAll_cons_mk (Below.trod laidOut (by kernel_rfl) (of_decide_eq_true (by kernel_rfl)) k10 bel lt10) trodAll_mk0))))))))))), rfl, bel.frame _, fun h => by cases h⟩
set_option maxRecDepth 20000
theorem jf0 : (Rows.shedSaysRow.wf (OpenSpec.ofChange Rows.shedSaysSpec)) = true := by kernel_rfl
theorem jf1 : (laidOutB Tryd.prog) = true := by kernel_rfl
theorem jf2 : (mapsRowed Tryd.prog) = true := by kernel_rfl
theorem jf3 : (Tryd.f26.params.all (Tryd.prog.readableRec ·)) = true := by kernel_rfl
theorem jf4 : (namedTie Tryd.prog Rows.shedSaysRow.named Rows.shedSaysSpec.vars) = true := by kernel_rfl
theorem jf5 : ((Rows.shedSaysRow.stops == [])) = true := by kernel_rfl
theorem jf6 : ((Tryd.prog.stops == [])) = true := by kernel_rfl
theorem jf7 : ((Rows.shedSaysRow.knobs == [])) = true := by kernel_rfl
theorem jf8 : ((Tryd.prog.stopKnobs == [])) = true := by kernel_rfl
theorem jf9 : ((Rows.shedSaysRow.inPlace == Tryd.prog.inPlace 26)) = true := by kernel_rfl
theorem jf10 : ((Rows.shedSaysRow.unfollowed == Tryd.prog.unfollowed 26)) = true := by kernel_rfl
theorem jf11 : ((Rows.shedSaysRow.recurses == Tryd.prog.recurses 26)) = true := by kernel_rfl
theorem jf12 : ((Rows.shedSaysRow.named == Tryd.prog.varsNamed 26)) = true := by kernel_rfl
theorem jf13 : ((Rows.shedSaysRow.maps == (Tryd.f26.params.toList ++ Rows.shedSaysSpec.plain.varTypes Tryd.prog).any (Tryd.prog.mapsRec ·))) = true := by kernel_rfl
theorem jf14 : ((Rows.shedSaysRow.ifaces == (Tryd.f26.params.toList ++ Rows.shedSaysSpec.plain.varTypes Tryd.prog).any (Tryd.prog.ifacesRec ·))) = true := by kernel_rfl
theorem jf15 : ((Rows.shedSaysRow.mapsOut == Tryd.prog.mapsAmong Tryd.f26.resultTypes.toList)) = true := by kernel_rfl
theorem jf16 : ((Rows.shedSaysRow.loops == (Tryd.f26.params.toList ++ Rows.shedSaysSpec.plain.varTypes Tryd.prog).any (Tryd.prog.loopsFrom ·))) = true := by kernel_rfl
theorem jf17 : ((Rows.shedSaysRow.wideKeys == (Tryd.f26.params.toList ++ Rows.shedSaysSpec.plain.varTypes Tryd.prog ++ Tryd.f26.resultTypes.toList).any (Tryd.prog.wideKeysFrom ·))) = true := by kernel_rfl
theorem jf18 : (Rows.shedSaysSpec.vars.all (Tryd.prog.varReadable ·)) = true := by kernel_rfl
theorem jf19 : (Tryd.f26.resultTypes.all (fun t => Tryd.prog.readableRec t && decide (t < Tryd.prog.types.size))) = true := by kernel_rfl
theorem jf20 : ((Rows.shedSaysRow.ifacesOut == Tryd.f26.resultTypes.toList.any (Tryd.prog.ifacesRec ·))) = true := by kernel_rfl
theorem jf21 : ((Rows.shedSaysRow.loopsOut == Tryd.f26.resultTypes.toList.any (Tryd.prog.loopsFrom ·))) = true := by kernel_rfl
theorem jf22 : ((Rows.shedSaysRow.plainKeys == Tryd.prog.plainKeys)) = true := by kernel_rfl
theorem jf23 : (Rows.shedSaysRow.shortTexts.isNone) = true := by kernel_rfl
theorem jf24 : (Tryd.prog.stopsHeard) = true := by kernel_rfl
theorem jf25 : (Tryd.prog.mayEnter) = true := Words.mayEnter
theorem jf26 : ((Rows.shedSaysRow.lifted == Tryd.prog.liftsFinal)) = true := (by rw [Words.liftsFinal]; rfl)
theorem jf27 : ((Tryd.prog.make == some Rows.shedSaysRow.make)) = true := (by rw [Words.make]; rfl)
theorem jf28 : ((Rows.shedSaysRow.kinds == (if Rows.shedSaysRow.domain.isEmpty then [] else Tryd.f26.params.toList.map fun t => match Tryd.prog.underlying t with | some (.int k) => some k | _ => none))) = true := by kernel_rfl
theorem jf29 : ((Rows.shedSaysRow.pinned == Rows.shedSaysRow.pinnedBy)) = true := by kernel_rfl
theorem jf30 : ((Rows.shedSaysRow.veiled == (Tryd.f26.params.toList ++ Rows.shedSaysSpec.plain.varTypes Tryd.prog ++ Tryd.f26.resultTypes.toList).any (Tryd.prog.veiledRec ·))) = true := by kernel_rfl
theorem jf31 : (Rows.shedSaysRow.veiledFits Tryd.prog Tryd.f26.params.toList (Tryd.f26.params.toList ++ Rows.shedSaysSpec.plain.varTypes Tryd.prog ++ Tryd.f26.resultTypes.toList)) = true := by kernel_rfl
theorem andi {a b : Bool} (h : a = true) (k : b = true) : (a && b) = true := by rw [h, k]; rfl
theorem joined : joinedFacts Tryd.prog 26 Tryd.f26 Rows.shedSaysSpec Rows.shedSaysRow = true := (andi (andi (andi (andi (andi (andi (andi (andi (andi (andi (andi (andi (andi (andi (andi (andi (andi (andi (andi (andi (andi (andi (andi (andi (andi (andi (andi (andi (andi (andi (andi jf0 jf1) jf2) jf3) jf4) jf5) jf6) jf7) jf8) jf9) jf10) jf11) jf12) jf13) jf14) jf15) jf16) jf17) jf18) jf19) jf20) jf21) jf22) jf23) jf24) jf25) jf26) jf27) jf28) jf29) jf30) jf31)
theorem over : Rows.shedSaysRow.holds Tryd.pinned (OpenSpec.ofChange Rows.shedSaysSpec) :=
 OpenClaim.holds_of_wide 26 Tryd.f26 rfl rfl rfl rfl rfl rfl rfl ⟨rfl, rfl, rfl, rfl, rfl⟩ rfl rfl rfl rfl rfl (by kernel_rfl) Tryd.func26 joined
  (of_decide_eq_true (by kernel_rfl)) (by unfold Func.isWrapper; first | (rw [if_pos (by decide +kernel)]; kernel_rfl) | (rw [if_neg (by decide +kernel)]; exact ⟨rfl, rfl⟩))
  (fun os started H enc _ => lifted os started H enc)
end Go.Proofs.YtlhhcongoplfpaaDoor.shedSays
