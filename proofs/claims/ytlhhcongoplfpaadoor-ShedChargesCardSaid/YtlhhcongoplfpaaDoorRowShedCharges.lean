/- What functions of this program do, each as a contract that its callers use, and what follows of it in plain numbers.
   By an AI agent. -/
import Derived.Test.YtlhhcongoplfpaaDoorRows
import Derived.Test.YtlhhcongoplfpaaDoorSK4
import Derived.Test.YtlhhcongoplfpaaDoorABM
import Derived.Test.YtlhhcongoplfpaaDoorKT2
import Derived.Test.YtlhhcongoplfpaaDoorDJ2
import Derived.Test.YtlhhcongoplfpaaDoorDJ3
import Derived.Test.YtlhhcongoplfpaaDoorCards
import Derived.Test.YtlhhcongoplfpaaDoorTie
import Derived.SevenTiedAt
import Derived.ChangeSame
import Derived.ChangeVars
import Derived.JoinedOf
import Derived.RowKitTokens
import Derived.LaidLaws
import Derived.LaidHandle
import Derived.Lay
import Derived.LaidMore
import Derived.LaidOnce
import Derived.WalkKit
import Derived.ProofKit
import Derived.OpenShut
import Derived.ShutString
import Derived.ChangeOld
import Derived.Below
import Derived.SizedLaws
-- written by this work with wip/ab/genlaw.py
namespace Go.Proofs.YtlhhcongoplfpaaDoor.shedCharges
open Go.ChangeShapes Go.WideShapes Go.ChangeAt Go.RowKit Go.Proofs.YtlhhcongoplfpaaDoorAB
open Go.ChangeMaps (open_string shut_string)
set_option linter.unusedVariables false
def laid0 : List (String × DataW Unit) := [("math/bits.deBruijn32tab", Rows.laid_math_bits_deBruijn32tab), ("math/bits.deBruijn64tab", Rows.laid_math_bits_deBruijn64tab)]
theorem own : ownKnob Tryd.prog.godebug = none := by kernel_rfl
theorem laidOut : laidOutB Tryd.prog = true := by kernel_rfl
set_option maxRecDepth 100000 in
theorem lifted (os : Os) (started : os.Started) (H : Type) (enc : TypeId × Value → H) :
  ReturnsInHanded {} Tryd.checked os 25 .any (fun w args => (Rows.shedChargesSpec.pre enc Tryd.prog Tryd.f25 [] false w args ∧ laidMetH Tryd.prog laid0 w) ∧ sizedMet enc Tryd.prog Tryd.f25 (OpenSpec.ofChange Rows.shedChargesSpec) false w args)
   (Rows.shedChargesSpec.post enc Tryd.prog Tryd.f25 false true false false) := by
 refine returnsInHanded_of_change_and (C := Tryd.checked) (X := fun w _ => laidMetH Tryd.prog laid0 w) (fun _ _ _ hh h => h.of_heap hh) own started (by kernel_rfl) Tryd.func25
  (ChangeSpec.witness_shaped (enc := enc) (C := Tryd.checked) (os := os) (X := fun w _ => laidMetH Tryd.prog laid0 w) false (World.laidAll Tryd.prog os laid0) #[.int .i64 0, .agg #[.bool false, .bool false], .agg #[.bool false, .bool false], .agg #[.int .i64 0, .int .i64 0]] 8 (World.laidAll_os _ _ _) (World.shaped_of_ZipB (by kernel_rfl) (by kernel_rfl)) (by kernel_rfl) (by kernel_rfl) (by kernel_rfl)
   (by rw [MakeChecks.laidMetH_plain _ _ _ (by kernel_rfl)]; exact laidMet_laidAll _ (by kernel_rfl) (by kernel_rfl))) ?_
 intro W base args ds gs before hval0 hW hcnd hsz0 hL _
 have hval : ∀ (j : Nat) t v, Tryd.f25.params[j]? = some t → args[j]? = some v → Value.okWide Tryd.prog W .any base t v := hval0
 have hW' := hW
 obtain ⟨p, q, hA0, hV, rfl, hfz, hnd⟩ := hW
 have hA : DataW.TrodAll enc Tryd.prog W 0 (fun _ => true) true Tryd.f25.params.toList args.toList ds p := hA0
 rw [Tryd.params25] at hA hval
 obtain ⟨v0, vs0, d0, ds0, p0, q0, hargs, rfl, rfl, h0, r0⟩ := trodAll_cons hA
 obtain ⟨v1, vs1, d1, ds1, p1, q1, rfl, rfl, rfl, h1, r1⟩ := trodAll_cons r0
 obtain ⟨v2, vs2, d2, ds2, p2, q2, rfl, rfl, rfl, h2, r2⟩ := trodAll_cons r1
 obtain ⟨v3, vs3, d3, ds3, p3, q3, rfl, rfl, rfl, h3, r3⟩ := trodAll_cons r2
 obtain ⟨rfl, rfl, rfl⟩ := trodAll_nil r3
 obtain rfl : args = #[v0, v1, v2, v3] := by cases args; simp_all
 obtain ⟨rfl, rfl⟩ := trodVars_none hV
 obtain ⟨a0, rfl, rfl, rfl, w0⟩ := open_int Tryd.underlying3 (hval 0 3 v0 rfl rfl) h0
 obtain ⟨b0_1, b1_1, rfl⟩ := Go.Proofs.YtlhhcongoplfpaaDoor.Top.open_r110 (hval 1 110 v1 rfl rfl)
 have k1 := h1
 have lt1 : ∀ x ∈ p1, x.block < W.heap.size := by obtain ⟨m, hm⟩ := k1; exact DataW.trod_lt m _ _ _ hm
 obtain ⟨b0_2, b1_2, rfl⟩ := Go.Proofs.YtlhhcongoplfpaaDoor.Top.open_r110 (hval 2 110 v2 rfl rfl)
 have k2 := h2
 have lt2 : ∀ x ∈ p2, x.block < W.heap.size := by obtain ⟨m, hm⟩ := k2; exact DataW.trod_lt m _ _ _ hm
 obtain ⟨n0_3, n1_3, rfl⟩ := Go.Proofs.YtlhhcongoplfpaaDoor.Top.open_r111 (hval 3 111 v3 rfl rfl)
 have k3 := h3
 have lt3 : ∀ x ∈ p3, x.block < W.heap.size := by obtain ⟨m, hm⟩ := k3; exact DataW.trod_lt m _ _ _ hm
 clear hA0 hval0 hsz0
 have HW : Calls Tryd.prog 25 #[.int .i64 a0, .agg ⟨[.bool b0_1, .bool b1_1]⟩, .agg ⟨[.bool b0_2, .bool b1_2]⟩, .agg ⟨[.int .i64 n0_3, .int .i64 n1_3]⟩] W fun e w' => e = .returned (.bool true) ∧ Below W.heap.size W w' := by
  exact Go.Proofs.YtlhhcongoplfpaaDoor.Top.top6 hL (shedCharges a0 b0_1 b1_1 b0_2 b1_2 n0_3 n1_3) (.cons (.int _ _) (.cons (.agg (.cons (.bool _) (.cons (.bool _) .nil))) (.cons (.agg (.cons (.bool _) (.cons (.bool _) .nil))) (.cons (.agg (.cons (.int _ _) (.cons (.int _ _) .nil))) .nil))))
 refine HW.mono fun e W' ⟨he, bel⟩ => ?_
 subst he
 exact ⟨_, rfl, _, _, _, [], _, [], hW', trodAll_mk1 (shut_bool Tryd.underlying4 _), (trodAll_cons_mk (shut_int Tryd.underlying3 w0) (trodAll_cons_mk (Below.trod laidOut (by kernel_rfl) (of_decide_eq_true (by kernel_rfl)) k1 bel lt1) (trodAll_cons_mk (Below.trod laidOut (by kernel_rfl) (of_decide_eq_true (by kernel_rfl)) k2 bel lt2) (trodAll_cons_mk (Below.trod laidOut (by kernel_rfl) (of_decide_eq_true (by kernel_rfl)) k3 bel lt3) trodAll_mk0)))), rfl, bel.frame _, fun h => by cases h⟩
set_option maxRecDepth 20000
theorem jf0 : (Rows.shedChargesRow.wf (OpenSpec.ofChange Rows.shedChargesSpec)) = true := by kernel_rfl
theorem jf1 : (laidOutB Tryd.prog) = true := by kernel_rfl
theorem jf2 : (mapsRowed Tryd.prog) = true := by kernel_rfl
theorem jf3 : (Tryd.f25.params.all (Tryd.prog.readableRec ·)) = true := by kernel_rfl
theorem jf4 : (namedTie Tryd.prog Rows.shedChargesRow.named Rows.shedChargesSpec.vars) = true := by kernel_rfl
theorem jf5 : ((Rows.shedChargesRow.stops == [])) = true := by kernel_rfl
theorem jf6 : ((Tryd.prog.stops == [])) = true := by kernel_rfl
theorem jf7 : ((Rows.shedChargesRow.knobs == [])) = true := by kernel_rfl
theorem jf8 : ((Tryd.prog.stopKnobs == [])) = true := by kernel_rfl
theorem jf9 : ((Rows.shedChargesRow.inPlace == Tryd.prog.inPlace 25)) = true := by kernel_rfl
theorem jf10 : ((Rows.shedChargesRow.unfollowed == Tryd.prog.unfollowed 25)) = true := by kernel_rfl
theorem jf11 : ((Rows.shedChargesRow.recurses == Tryd.prog.recurses 25)) = true := by kernel_rfl
theorem jf12 : ((Rows.shedChargesRow.named == Tryd.prog.varsNamed 25)) = true := by kernel_rfl
theorem jf13 : ((Rows.shedChargesRow.maps == (Tryd.f25.params.toList ++ Rows.shedChargesSpec.plain.varTypes Tryd.prog).any (Tryd.prog.mapsRec ·))) = true := by kernel_rfl
theorem jf14 : ((Rows.shedChargesRow.ifaces == (Tryd.f25.params.toList ++ Rows.shedChargesSpec.plain.varTypes Tryd.prog).any (Tryd.prog.ifacesRec ·))) = true := by kernel_rfl
theorem jf15 : ((Rows.shedChargesRow.mapsOut == Tryd.prog.mapsAmong Tryd.f25.resultTypes.toList)) = true := by kernel_rfl
theorem jf16 : ((Rows.shedChargesRow.loops == (Tryd.f25.params.toList ++ Rows.shedChargesSpec.plain.varTypes Tryd.prog).any (Tryd.prog.loopsFrom ·))) = true := by kernel_rfl
theorem jf17 : ((Rows.shedChargesRow.wideKeys == (Tryd.f25.params.toList ++ Rows.shedChargesSpec.plain.varTypes Tryd.prog ++ Tryd.f25.resultTypes.toList).any (Tryd.prog.wideKeysFrom ·))) = true := by kernel_rfl
theorem jf18 : (Rows.shedChargesSpec.vars.all (Tryd.prog.varReadable ·)) = true := by kernel_rfl
theorem jf19 : (Tryd.f25.resultTypes.all (fun t => Tryd.prog.readableRec t && decide (t < Tryd.prog.types.size))) = true := by kernel_rfl
theorem jf20 : ((Rows.shedChargesRow.ifacesOut == Tryd.f25.resultTypes.toList.any (Tryd.prog.ifacesRec ·))) = true := by kernel_rfl
theorem jf21 : ((Rows.shedChargesRow.loopsOut == Tryd.f25.resultTypes.toList.any (Tryd.prog.loopsFrom ·))) = true := by kernel_rfl
theorem jf22 : ((Rows.shedChargesRow.plainKeys == Tryd.prog.plainKeys)) = true := by kernel_rfl
theorem jf23 : (Rows.shedChargesRow.shortTexts.isNone) = true := by kernel_rfl
theorem jf24 : (Tryd.prog.stopsHeard) = true := by kernel_rfl
theorem jf25 : (Tryd.prog.mayEnter) = true := Words.mayEnter
theorem jf26 : ((Rows.shedChargesRow.lifted == Tryd.prog.liftsFinal)) = true := (by rw [Words.liftsFinal]; rfl)
theorem jf27 : ((Tryd.prog.make == some Rows.shedChargesRow.make)) = true := (by rw [Words.make]; rfl)
theorem jf28 : ((Rows.shedChargesRow.kinds == (if Rows.shedChargesRow.domain.isEmpty then [] else Tryd.f25.params.toList.map fun t => match Tryd.prog.underlying t with | some (.int k) => some k | _ => none))) = true := by kernel_rfl
theorem jf29 : ((Rows.shedChargesRow.pinned == Rows.shedChargesRow.pinnedBy)) = true := by kernel_rfl
theorem jf30 : ((Rows.shedChargesRow.veiled == (Tryd.f25.params.toList ++ Rows.shedChargesSpec.plain.varTypes Tryd.prog ++ Tryd.f25.resultTypes.toList).any (Tryd.prog.veiledRec ·))) = true := by kernel_rfl
theorem jf31 : (Rows.shedChargesRow.veiledFits Tryd.prog Tryd.f25.params.toList (Tryd.f25.params.toList ++ Rows.shedChargesSpec.plain.varTypes Tryd.prog ++ Tryd.f25.resultTypes.toList)) = true := by kernel_rfl
theorem andi {a b : Bool} (h : a = true) (k : b = true) : (a && b) = true := by rw [h, k]; rfl
theorem joined : joinedFacts Tryd.prog 25 Tryd.f25 Rows.shedChargesSpec Rows.shedChargesRow = true := (andi (andi (andi (andi (andi (andi (andi (andi (andi (andi (andi (andi (andi (andi (andi (andi (andi (andi (andi (andi (andi (andi (andi (andi (andi (andi (andi (andi (andi (andi (andi jf0 jf1) jf2) jf3) jf4) jf5) jf6) jf7) jf8) jf9) jf10) jf11) jf12) jf13) jf14) jf15) jf16) jf17) jf18) jf19) jf20) jf21) jf22) jf23) jf24) jf25) jf26) jf27) jf28) jf29) jf30) jf31)
theorem over : Rows.shedChargesRow.holds Tryd.pinned (OpenSpec.ofChange Rows.shedChargesSpec) :=
 OpenClaim.holds_of_wide 25 Tryd.f25 rfl rfl rfl rfl rfl rfl rfl ⟨rfl, rfl, rfl, rfl, rfl⟩ rfl rfl rfl rfl rfl (by kernel_rfl) Tryd.func25 joined
  (of_decide_eq_true (by kernel_rfl)) (by unfold Func.isWrapper; first | (rw [if_pos (by decide +kernel)]; kernel_rfl) | (rw [if_neg (by decide +kernel)]; exact ⟨rfl, rfl⟩))
  (fun os started H enc _ => lifted os started H enc)
end Go.Proofs.YtlhhcongoplfpaaDoor.shedCharges
