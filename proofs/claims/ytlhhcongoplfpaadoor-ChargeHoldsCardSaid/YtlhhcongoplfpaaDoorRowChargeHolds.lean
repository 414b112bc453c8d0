/- What functions of this program do, each as a contract that its callers use, and what follows of it in plain numbers.
   By an AI agent. -/
import Derived.Test.YtlhhcongoplfpaaDoorRows
import Derived.Test.YtlhhcongoplfpaaDoorDHold
import Derived.Test.YtlhhcongoplfpaaDoorABM
import Derived.Test.YtlhhcongoplfpaaDoorDJ2
import Derived.Test.YtlhhcongoplfpaaDoorDJ3
import Derived.Test.YtlhhcongoplfpaaDoorCards
import Derived.Test.YtlhhcongoplfpaaDoorTie
import Derived.SevenTiedAt
import Derived.ChangeSame
import Derived.ChangeVars
import Derived.JoinedOf
import Derived.RowKitTokens
import Derived.LaidLaws
import Derived.LaidHandle
import Derived.Lay
import Derived.LaidMore
import Derived.LaidOnce
import Derived.WalkKit
import Derived.ProofKit
import Derived.OpenShut
import Derived.ShutString
import Derived.ChangeOld
import Derived.Below
import Derived.SizedLaws
-- written by this work with wip/ab/genlaw.py
namespace Go.Proofs.YtlhhcongoplfpaaDoor.chargeHolds
open Go.ChangeShapes Go.WideShapes Go.ChangeAt Go.RowKit Go.Proofs.YtlhhcongoplfpaaDoorAB
open Go.ChangeMaps (open_string shut_string)
set_option linter.unusedVariables false
def laid0 : List (String × DataW Unit) := [("dynamo/api.ErrRange", Rows.laid_dynamo_api_ErrRange), ("dynamo/api.ErrLong", Rows.laid_dynamo_api_ErrLong), ("dynamo/api.ErrShort", Rows.laid_dynamo_api_ErrShort), ("dynamo/api.ErrTable", Rows.laid_dynamo_api_ErrTable)]
theorem own : ownKnob Tryd.prog.godebug = none := by kernel_rfl
theorem laidOut : laidOutB Tryd.prog = true := by kernel_rfl
set_option maxRecDepth 100000 in
theorem lifted (os : Os) (started : os.Started) (H : Type) (enc : TypeId × Value → H) :
  ReturnsInHanded {} Tryd.checked os 17 .any (fun w args => (Rows.chargeHoldsSpec.pre enc Tryd.prog Tryd.f17 [] false w args ∧ laidMetH Tryd.prog laid0 w) ∧ sizedMet enc Tryd.prog Tryd.f17 (OpenSpec.ofChange Rows.chargeHoldsSpec) false w args)
   (Rows.chargeHoldsSpec.post enc Tryd.prog Tryd.f17 false true false false) := by
 refine returnsInHanded_of_change_and (C := Tryd.checked) (X := fun w _ => laidMetH Tryd.prog laid0 w) (fun _ _ _ hh h => h.of_heap hh) own started (by kernel_rfl) Tryd.func17
  (ChangeSpec.witness_shaped (enc := enc) (C := Tryd.checked) (os := os) (X := fun w _ => laidMetH Tryd.prog laid0 w) false (World.laidAll Tryd.prog os laid0) #[.int .i64 0, .int .i64 0, .int .i64 0, .int .i64 0, .slice none 0 0, .slice none 0 0, .int .i64 0, .slice none 0 0] 8 (World.laidAll_os _ _ _) (World.shaped_of_ZipB (by kernel_rfl) (by kernel_rfl)) (by kernel_rfl) (by kernel_rfl) (by kernel_rfl)
   (by rw [MakeChecks.laidMetH_plain _ _ _ (by kernel_rfl)]; exact laidMet_laidAll _ (by kernel_rfl) (by kernel_rfl))) ?_
 intro W base args ds gs before hval0 hW hcnd hsz0 hL _
 have hval : ∀ (j : Nat) t v, Tryd.f17.params[j]? = some t → args[j]? = some v → Value.okWide Tryd.prog W .any base t v := hval0
 have hW' := hW
 obtain ⟨p, q, hA0, hV, rfl, hfz, hnd⟩ := hW
 have hA : DataW.TrodAll enc Tryd.prog W 0 (fun _ => true) true Tryd.f17.params.toList args.toList ds p := hA0
 rw [Tryd.params17] at hA hval
 obtain ⟨v0, vs0, d0, ds0, p0, q0, hargs, rfl, rfl, h0, r0⟩ := trodAll_cons hA
 obtain ⟨v1, vs1, d1, ds1, p1, q1, rfl, rfl, rfl, h1, r1⟩ := trodAll_cons r0
 obtain ⟨v2, vs2, d2, ds2, p2, q2, rfl, rfl, rfl, h2, r2⟩ := trodAll_cons r1
 obtain ⟨v3, vs3, d3, ds3, p3, q3, rfl, rfl, rfl, h3, r3⟩ := trodAll_cons r2
 obtain ⟨v4, vs4, d4, ds4, p4, q4, rfl, rfl, rfl, h4, r4⟩ := trodAll_cons r3
 obtain ⟨v5, vs5, d5, ds5, p5, q5, rfl, rfl, rfl, h5, r5⟩ := trodAll_cons r4
 obtain ⟨v6, vs6, d6, ds6, p6, q6, rfl, rfl, rfl, h6, r6⟩ := trodAll_cons r5
 obtain ⟨v7, vs7, d7, ds7, p7, q7, rfl, rfl, rfl, h7, r7⟩ := trodAll_cons r6
 obtain ⟨rfl, rfl, rfl⟩ := trodAll_nil r7
 obtain rfl : args = #[v0, v1, v2, v3, v4, v5, v6, v7] := by cases args; simp_all
 obtain ⟨rfl, rfl⟩ := trodVars_none hV
 obtain ⟨a0, rfl, rfl, rfl, w0⟩ := open_int Tryd.underlying3 (hval 0 3 v0 rfl rfl) h0
 obtain ⟨a1, rfl, rfl, rfl, w1⟩ := open_int Tryd.underlying3 (hval 1 3 v1 rfl rfl) h1
 obtain ⟨a2, rfl, rfl, rfl, w2⟩ := open_int Tryd.underlying3 (hval 2 3 v2 rfl rfl) h2
 obtain ⟨a3, rfl, rfl, rfl, w3⟩ := open_int Tryd.underlying2 (hval 3 2 v3 rfl rfl) h3
 obtain ⟨s4, len4, cap4, rfl⟩ := okWide_slice Tryd.underlying89 (hval 4 89 v4 rfl rfl)
 have k4 := h4
 have lt4 : ∀ x ∈ p4, x.block < W.heap.size := by obtain ⟨m, hm⟩ := k4; exact DataW.trod_lt m _ _ _ hm
 obtain ⟨z4, o4, g4, e4, f4, y4⟩ := in_ints 0 Tryd.underlying89 Tryd.underlying2 (by kernel_rfl) k4
 obtain ⟨s5, len5, cap5, rfl⟩ := okWide_slice Tryd.underlying89 (hval 5 89 v5 rfl rfl)
 have k5 := h5
 have lt5 : ∀ x ∈ p5, x.block < W.heap.size := by obtain ⟨m, hm⟩ := k5; exact DataW.trod_lt m _ _ _ hm
 obtain ⟨z5, o5, g5, e5, f5, y5⟩ := in_ints 1 Tryd.underlying89 Tryd.underlying2 (by kernel_rfl) k5
 obtain ⟨a6, rfl, rfl, rfl, w6⟩ := open_int Tryd.underlying3 (hval 6 3 v6 rfl rfl) h6
 obtain ⟨s7, len7, cap7, rfl⟩ := okWide_slice Tryd.underlying90 (hval 7 90 v7 rfl rfl)
 have k7 := h7
 have lt7 : ∀ x ∈ p7, x.block < W.heap.size := by obtain ⟨m, hm⟩ := k7; exact DataW.trod_lt m _ _ _ hm
 obtain ⟨z7, o7, g7, e7, f7, y7⟩ := in_bools 2 Tryd.underlying90 Tryd.underlying4 (by kernel_rfl) k7
 clear hA0 hval0 hsz0
 have HW : Calls Tryd.prog 17 #[.int .i64 a0, .int .i64 a1, .int .i64 a2, .int .i64 a3, .slice s4 len4 cap4, .slice s5 len5 cap5, .int .i64 a6, .slice s7 len7 cap7] W fun e w' => e = .returned (.bool true) ∧ Below W.heap.size W w' := by
  exact Ctr.tops (chargeHoldsA a0 a1 a2 a3 a6 o4 o5 o7 len4 cap4 len5 cap5 len7 cap7 f4 f5 f7 z4 z5 z7 g4 g5 g7 y4.at0 y5.at0 y7.at0) (.cons y4.onIn (.cons y5.onIn (.cons y7.onIn .nil))) (.cons (.int _ _) (.cons (.int _ _) (.cons (.int _ _) (.cons (.int _ _) (.cons (y4.vr _ (oblks_at rfl)) (.cons (y5.vr _ (oblks_at rfl)) (.cons (.int _ _) (.cons (y7.vr _ (oblks_at rfl)) .nil))))))))
 refine HW.mono fun e W' ⟨he, bel⟩ => ?_
 subst he
 exact ⟨_, rfl, _, _, _, [], _, [], hW', trodAll_mk1 (shut_bool Tryd.underlying4 _), (trodAll_cons_mk (shut_int Tryd.underlying3 w0) (trodAll_cons_mk (shut_int Tryd.underlying3 w1) (trodAll_cons_mk (shut_int Tryd.underlying3 w2) (trodAll_cons_mk (shut_int Tryd.underlying2 w3) (trodAll_cons_mk (Below.trod laidOut (by kernel_rfl) (of_decide_eq_true (by kernel_rfl)) k4 bel lt4) (trodAll_cons_mk (Below.trod laidOut (by kernel_rfl) (of_decide_eq_true (by kernel_rfl)) k5 bel lt5) (trodAll_cons_mk (shut_int Tryd.underlying3 w6) (trodAll_cons_mk (Below.trod laidOut (by kernel_rfl) (of_decide_eq_true (by kernel_rfl)) k7 bel lt7) trodAll_mk0)))))))), rfl, bel.frame _, fun h => by cases h⟩
set_option maxRecDepth 20000
theorem jf0 : (Rows.chargeHoldsRow.wf (OpenSpec.ofChange Rows.chargeHoldsSpec)) = true := by kernel_rfl
theorem jf1 : (laidOutB Tryd.prog) = true := by kernel_rfl
theorem jf2 : (mapsRowed Tryd.prog) = true := by kernel_rfl
theorem jf3 : (Tryd.f17.params.all (Tryd.prog.readableRec ·)) = true := by kernel_rfl
theorem jf4 : (namedTie Tryd.prog Rows.chargeHoldsRow.named Rows.chargeHoldsSpec.vars) = true := by kernel_rfl
theorem jf5 : ((Rows.chargeHoldsRow.stops == [])) = true := by kernel_rfl
theorem jf6 : ((Tryd.prog.stops == [])) = true := by kernel_rfl
theorem jf7 : ((Rows.chargeHoldsRow.knobs == [])) = true := by kernel_rfl
theorem jf8 : ((Tryd.prog.stopKnobs == [])) = true := by kernel_rfl
theorem jf9 : ((Rows.chargeHoldsRow.inPlace == Tryd.prog.inPlace 17)) = true := by kernel_rfl
theorem jf10 : ((Rows.chargeHoldsRow.unfollowed == Tryd.prog.unfollowed 17)) = true := by kernel_rfl
theorem jf11 : ((Rows.chargeHoldsRow.recurses == Tryd.prog.recurses 17)) = true := by kernel_rfl
theorem jf12 : ((Rows.chargeHoldsRow.named == Tryd.prog.varsNamed 17)) = true := by kernel_rfl
theorem jf13 : ((Rows.chargeHoldsRow.maps == (Tryd.f17.params.toList ++ Rows.chargeHoldsSpec.plain.varTypes Tryd.prog).any (Tryd.prog.mapsRec ·))) = true := by kernel_rfl
theorem jf14 : ((Rows.chargeHoldsRow.ifaces == (Tryd.f17.params.toList ++ Rows.chargeHoldsSpec.plain.varTypes Tryd.prog).any (Tryd.prog.ifacesRec ·))) = true := by kernel_rfl
theorem jf15 : ((Rows.chargeHoldsRow.mapsOut == Tryd.prog.mapsAmong Tryd.f17.resultTypes.toList)) = true := by kernel_rfl
theorem jf16 : ((Rows.chargeHoldsRow.loops == (Tryd.f17.params.toList ++ Rows.chargeHoldsSpec.plain.varTypes Tryd.prog).any (Tryd.prog.loopsFrom ·))) = true := by kernel_rfl
theorem jf17 : ((Rows.chargeHoldsRow.wideKeys == (Tryd.f17.params.toList ++ Rows.chargeHoldsSpec.plain.varTypes Tryd.prog ++ Tryd.f17.resultTypes.toList).any (Tryd.prog.wideKeysFrom ·))) = true := by kernel_rfl
theorem jf18 : (Rows.chargeHoldsSpec.vars.all (Tryd.prog.varReadable ·)) = true := by kernel_rfl
theorem jf19 : (Tryd.f17.resultTypes.all (fun t => Tryd.prog.readableRec t && decide (t < Tryd.prog.types.size))) = true := by kernel_rfl
theorem jf20 : ((Rows.chargeHoldsRow.ifacesOut == Tryd.f17.resultTypes.toList.any (Tryd.prog.ifacesRec ·))) = true := by kernel_rfl
theorem jf21 : ((Rows.chargeHoldsRow.loopsOut == Tryd.f17.resultTypes.toList.any (Tryd.prog.loopsFrom ·))) = true := by kernel_rfl
theorem jf22 : ((Rows.chargeHoldsRow.plainKeys == Tryd.prog.plainKeys)) = true := by kernel_rfl
theorem jf23 : (Rows.chargeHoldsRow.shortTexts.isNone) = true := by kernel_rfl
theorem jf24 : (Tryd.prog.stopsHeard) = true := by kernel_rfl
theorem jf25 : (Tryd.prog.mayEnter) = true := Words.mayEnter
theorem jf26 : ((Rows.chargeHoldsRow.lifted == Tryd.prog.liftsFinal)) = true := (by rw [Words.liftsFinal]; rfl)
theorem jf27 : ((Tryd.prog.make == some Rows.chargeHoldsRow.make)) = true := (by rw [Words.make]; rfl)
theorem jf28 : ((Rows.chargeHoldsRow.kinds == (if Rows.chargeHoldsRow.domain.isEmpty then [] else Tryd.f17.params.toList.map fun t => match Tryd.prog.underlying t with | some (.int k) => some k | _ => none))) = true := by kernel_rfl
theorem jf29 : ((Rows.chargeHoldsRow.pinned == Rows.chargeHoldsRow.pinnedBy)) = true := by kernel_rfl
theorem jf30 : ((Rows.chargeHoldsRow.veiled == (Tryd.f17.params.toList ++ Rows.chargeHoldsSpec.plain.varTypes Tryd.prog ++ Tryd.f17.resultTypes.toList).any (Tryd.prog.veiledRec ·))) = true := by kernel_rfl
theorem jf31 : (Rows.chargeHoldsRow.veiledFits Tryd.prog Tryd.f17.params.toList (Tryd.f17.params.toList ++ Rows.chargeHoldsSpec.plain.varTypes Tryd.prog ++ Tryd.f17.resultTypes.toList)) = true := by kernel_rfl
theorem andi {a b : Bool} (h : a = true) (k : b = true) : (a && b) = true := by rw [h, k]; rfl
theorem joined : joinedFacts Tryd.prog 17 Tryd.f17 Rows.chargeHoldsSpec Rows.chargeHoldsRow = true := (andi (andi (andi (andi (andi (andi (andi (andi (andi (andi (andi (andi (andi (andi (andi (andi (andi (andi (andi (andi (andi (andi (andi (andi (andi (andi (andi (andi (andi (andi (andi jf0 jf1) jf2) jf3) jf4) jf5) jf6) jf7) jf8) jf9) jf10) jf11) jf12) jf13) jf14) jf15) jf16) jf17) jf18) jf19) jf20) jf21) jf22) jf23) jf24) jf25) jf26) jf27) jf28) jf29) jf30) jf31)
theorem over : Rows.chargeHoldsRow.holds Tryd.pinned (OpenSpec.ofChange Rows.chargeHoldsSpec) :=
 OpenClaim.holds_of_wide 17 Tryd.f17 rfl rfl rfl rfl rfl rfl rfl ⟨rfl, rfl, rfl, rfl, rfl⟩ rfl rfl rfl rfl rfl (by kernel_rfl) Tryd.func17 joined
  (of_decide_eq_true (by kernel_rfl)) (by unfold Func.isWrapper; first | (rw [if_pos (by decide +kernel)]; kernel_rfl) | (rw [if_neg (by decide +kernel)]; exact ⟨rfl, rfl⟩))
  (fun os started H enc _ => lifted os started H enc)
end Go.Proofs.YtlhhcongoplfpaaDoor.chargeHolds
