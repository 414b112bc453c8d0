/- The row CoulombBounds: for every input the law returns true, and each argument reads behind the call as it read before. No condition beyond those of the given row.
   By an AI agent. -/
-- written by this work with wip/ab/genlaw.py
import Derived.Test.YtlhhcongoplfpaaRows
import Derived.Test.YtlhhcongoplfpaaT13
import Derived.Test.YtlhhcongoplfpaaABX
import Derived.WalkKit
import Derived.ProofKit
import Derived.OpenShut
import Derived.ShutString
import Derived.ChangeOld
import Derived.Below
import Derived.SizedLaws
namespace Go.Proofs.Ytlhhcongoplfpaa.coulombBounds
open Go.ChangeShapes Go.WideShapes Go.ChangeAt Go.RowKit Go.Proofs.YtlhhcongoplfpaaAB
open Go.ChangeMaps (open_string shut_string)
set_option linter.unusedVariables false
theorem own : ownKnob Try.prog.godebug = none := by kernel_rfl
theorem laidOut : laidOutB Try.prog = true := by kernel_rfl
set_option maxRecDepth 100000 in
theorem lifted (os : Os) (started : os.Started) (H : Type) (enc : TypeId × Value → H) :
  ReturnsInHanded {} Try.checked os 6 .any (Rows.coulombBoundsSpec.pre6 enc Try.prog Try.f6 Rows.coulombBoundsRow.domain false) (Rows.coulombBoundsSpec.post enc Try.prog Try.f6 false true false false) := by
 refine returnsInHanded_of_change_sized (C := Try.checked) own started (by kernel_rfl) Try.func6
  (ChangeSpec.witness6 (enc := enc) (C := Try.checked) false ⟨#[], #[.agg #[.int .i64 0, .int .i64 0], .slice none 0 0, .agg #[.int .i64 0, .int .i64 0]], []⟩ 8 (by kernel_rfl) (by kernel_rfl) (by kernel_rfl) (by kernel_rfl)) ?_
 intro W base args ds gs before hval0 hW hcnd hsz0 _
 have hval : ∀ (j : Nat) t v, Try.f6.params[j]? = some t → args[j]? = some v → Value.okWide Try.prog W .any base t v := hval0
 have hW' := hW
 obtain ⟨p, q, hA0, hV, rfl, hfz, hnd⟩ := hW
 have hA : DataW.TrodAll enc Try.prog W 0 (fun _ => true) true Try.f6.params.toList args.toList ds p := hA0
 rw [Try.params6] at hA hval
 obtain ⟨v0, vs0, d0, ds0, p0, q0, hargs, rfl, rfl, h0, r0⟩ := trodAll_cons hA
 obtain ⟨v1, vs1, d1, ds1, p1, q1, rfl, rfl, rfl, h1, r1⟩ := trodAll_cons r0
 obtain ⟨v2, vs2, d2, ds2, p2, q2, rfl, rfl, rfl, h2, r2⟩ := trodAll_cons r1
 obtain ⟨rfl, rfl, rfl⟩ := trodAll_nil r2
 obtain rfl : args = #[v0, v1, v2] := by cases args; simp_all
 obtain ⟨rfl, rfl⟩ := trodVars_none hV
 obtain ⟨a0, b0, rfl⟩ := agg2 Try.underlying23 (by kernel_rfl) (by kernel_rfl) Try.underlying2 (hval 0 23 v0 rfl rfl)
 have k0 := h0
 have lt0 : ∀ x ∈ p0, x.block < W.heap.size := by obtain ⟨m, hm⟩ := k0; exact DataW.trod_lt m _ _ _ hm
 obtain ⟨s1, len1, cap1, rfl⟩ := okWide_slice Try.underlying25 (hval 1 25 v1 rfl rfl)
 have k1 := h1
 have lt1 : ∀ x ∈ p1, x.block < W.heap.size := by obtain ⟨m, hm⟩ := k1; exact DataW.trod_lt m _ _ _ hm
 have y1 : (s1 = none ∧ len1 = 0 ∧ cap1 = 0) ∨ (∃ x, s1 = some x ∧ len1 = 0 ∧ cap1 = 0) ∨ ∃ b f zs, s1 = some ⟨b, f, none⟩ ∧ len1 ≤ List.length zs ∧ cap1 ≠ grown ∧ Rd W b f (zs.map (.int .i64)) := by
  obtain ⟨fuel, hf⟩ := h1
  rcases open_ints Try.underlying25 Try.underlying2 (by kernel_rfl) hf with ⟨hcs, _⟩ | ⟨x, l, c, zs, hcs, _, hl, hm, hz, _, hcell, hwz⟩
  · simp [Value.cells] at hcs
    exact .inl hcs
  · simp [Value.cells] at hcs
    obtain ⟨rfl, rfl, rfl⟩ := hcs
    rcases row_ints (.inr ⟨x, rfl, hl, hm, by simpa using hz, hcell⟩) with h | h | ⟨b, f, h⟩
    · exact .inl h
    · exact .inr (.inl h)
    · exact .inr (.inr ⟨b, f, zs, h⟩)
 obtain ⟨a2, b2, rfl⟩ := agg2 Try.underlying23 (by kernel_rfl) (by kernel_rfl) Try.underlying2 (hval 2 23 v2 rfl rfl)
 have k2 := h2
 have lt2 : ∀ x ∈ p2, x.block < W.heap.size := by obtain ⟨m, hm⟩ := k2; exact DataW.trod_lt m _ _ _ hm
 clear hA0 hval0 hsz0
 have HW : Calls Try.prog 6 #[.agg #[.int .i64 a0, .int .i64 b0], .slice s1 len1 cap1, .agg #[.int .i64 a2, .int .i64 b2]] W fun e w' => e = .returned (.bool true) ∧ Below W.heap.size W w' := by
  rcases y1 with ⟨rfl, rfl, rfl⟩ | ⟨x, rfl, rfl, rfl⟩ | ⟨b, f, zs, rfl, hlen, hcap, hrd⟩
  · exact Ctr.top0 (coulombBounds_nil a0 b0 a2 b2) (.cons (.agg (.cons (.int _ _) (.cons (.int _ _) .nil))) (.cons (.sliceNil _ _) (.cons (.agg (.cons (.int _ _) (.cons (.int _ _) .nil))) .nil)))
  · exact Ctr.top0 (coulombBounds_dead a0 b0 a2 b2) (.cons (.agg (.cons (.int _ _) (.cons (.int _ _) .nil))) (.cons (.dead x) (.cons (.agg (.cons (.int _ _) (.cons (.int _ _) .nil))) .nil)))
  · exact Ctr.top [b] [(f, zs.map (.int .i64))] (coulombBounds a0 b0 a2 b2 f _ _ zs hlen) rfl (fun j b' p h1 h2 => by
      match j, h1, h2 with
      | 0, h1, h2 => cases h1; cases h2; exact hrd) (.cons (.agg (.cons (.int _ _) (.cons (.int _ _) .nil))) (.cons (.slice _ _ _ _ _ rfl ⟨id, fun h => absurd h hcap⟩) (.cons (.agg (.cons (.int _ _) (.cons (.int _ _) .nil))) .nil)))
 refine HW.mono fun e W' ⟨he, bel⟩ => ?_
 subst he
 exact ⟨_, rfl, _, _, _, [], _, [], hW', trodAll_mk1 (shut_bool Try.underlying4 _), (trodAll_cons_mk (Below.trod laidOut (by kernel_rfl) (of_decide_eq_true (by kernel_rfl)) k0 bel lt0) (trodAll_cons_mk (Below.trod laidOut (by kernel_rfl) (of_decide_eq_true (by kernel_rfl)) k1 bel lt1) (trodAll_cons_mk (Below.trod laidOut (by kernel_rfl) (of_decide_eq_true (by kernel_rfl)) k2 bel lt2) trodAll_mk0))), rfl, bel.frame _, fun h => by cases h⟩
theorem over : Rows.coulombBoundsRow.holds Try.pinned (OpenSpec.ofChange Rows.coulombBoundsSpec) :=
 OpenClaim.holds_of_wide 6 Try.f6 rfl rfl rfl rfl rfl rfl rfl ⟨rfl, rfl, rfl, rfl, rfl⟩ rfl rfl rfl rfl rfl (by kernel_rfl) Try.func6 (by kernel_rfl)
  (of_decide_eq_true (by kernel_rfl)) (by unfold Func.isWrapper; first | (rw [if_pos (by decide +kernel)]; kernel_rfl) | (rw [if_neg (by decide +kernel)]; exact ⟨rfl, rfl⟩))
  (fun os started H enc _ => lifted os started H enc)
theorem proved : Rows.CoulombBoundsSaid := over
#print axioms proved
end Go.Proofs.Ytlhhcongoplfpaa.coulombBounds
namespace Go.Proofs.Ytlhhcongoplfpaa
/-- The row, under a short name, for the claim. -/
theorem coulombBounds_holds : Rows.CoulombBoundsSaid := coulombBounds.proved
end Go.Proofs.Ytlhhcongoplfpaa
