/- What functions of this program do, each as a contract that its callers use, and what follows of it in plain numbers.
   By an AI agent. -/
import Derived.Test.YtlhhcongoplfpaaDoorAB
import Derived.Test.YtlhhcongoplfpaaDoorDLO
import Derived.Test.YtlhhcongoplfpaaDoorDCB
import Derived.Test.YtlhhcongoplfpaaDoorABM
namespace Go.Proofs.YtlhhcongoplfpaaDoor
open Go Go.Proofs.YtlhhcongoplfpaaDoorAB
variable {G : Nat}
set_option linter.unusedSimpArgs false
set_option linter.unusedVariables false

theorem ro_atI {zs : List Int} {f i : Nat} (hi : i < zs.length) : ∃ z, AObj.at (.ro f (zs.map I64)) (f + i * 1) = some (I64 z) := ⟨_, ro_at hi⟩
theorem ro_atB {zs : List Bool} {f i : Nat} (hi : i < zs.length) : ∃ z, AObj.at (.ro f (zs.map Value.bool)) (f + i * 1) = some (.bool z) := ⟨_, ro_at hi⟩
abbrev hA (c : Cfg) (q z : Int) : Int := mn (mx (z.tmod (IntKind.i64.wrap (c.Imax + 1))) (IntKind.i64.wrap (q - c.Cap))) q
abbrev hQ (c : Cfg) (q z : Int) : Int := IntKind.i64.wrap (q - hA c q z)
noncomputable abbrev hV (c : Cfg) (q z : Int) : Int := IntKind.i64.wrap (tLo 4 oX oY (hQ c q z) - dn (IntKind.i64.wrap (hA c q z * c.Ohm)) 1000)
theorem hold_num {c : Cfg} (F : Fx c) {q : Int} (q0 : 0 ≤ q) (q1 : q ≤ 100000) (z : Int) : (-500 ≤ hA c q z ∧ hA c q z ≤ 500) ∧ hQ c q z = q - hA c q z ∧ (0 ≤ q - hA c q z ∧ q - hA c q z ≤ 100000) ∧ (-4611686018427387904 ≤ IntKind.i64.wrap (hA c q z * c.Ohm) ∧ IntKind.i64.wrap (hA c q z * c.Ohm) ≤ 4611686018427387904) ∧ hV c q z = tLo 4 oX oY (q - hA c q z) - dn (hA c q z * 20) 1000 ∧ ¬ hV c q z < 10000 ∧ hV c q z ≤ 1000000 := by
  have w1 : IntKind.i64.wrap (c.Imax + 1) = 501 := by rw [F.hI]; decide
  have z1 : -501 < z.tmod 501 := Int.lt_tmod_of_pos z (by decide)
  have z2 : z.tmod 501 < 501 := Int.tmod_lt_of_pos z (by decide)
  obtain ⟨A, hA'⟩ : ∃ A, hA c q z = A := ⟨_, rfl⟩
  have eA : min (max (z.tmod 501) (q - 100000)) q = A := by
    rw [← hA']; show _ = mn (mx (z.tmod (IntKind.i64.wrap (c.Imax + 1))) (IntKind.i64.wrap (q - c.Cap))) q
    rw [w1, F.hC, wrap_in (by omega) (by omega), mn_eq, mx_eq]
  have b : -500 ≤ A ∧ A ≤ 500 ∧ 0 ≤ q - A ∧ q - A ≤ 100000 := by omega
  have eQ : hQ c q z = q - A := by show IntKind.i64.wrap (q - hA c q z) = _; rw [hA', wrap_in (by omega) (by omega)]
  have t1 := ocOk.lo0 (q - A)
  have t2 := ocOk.hi1 (q - A)
  have t3 := ocOk.apart (q - A)
  have y0 : oY 0 = 20000 := rfl
  have y3 : oY (4 - 1) = 28000 := rfl
  have d : -11 ≤ dn (A * 20) 1000 ∧ dn (A * 20) 1000 ≤ 11 := by unfold dn; omega
  have w2 : IntKind.i64.wrap (A * c.Ohm) = A * 20 := by rw [F.hO]; exact wrap_in (by omega) (by omega)
  have eV : hV c q z = tLo 4 oX oY (q - A) - dn (A * 20) 1000 := by
    show IntKind.i64.wrap (tLo 4 oX oY (hQ c q z) - dn (IntKind.i64.wrap (hA c q z * c.Ohm)) 1000) = _
    rw [eQ, hA', w2, wrap_in (by omega) (by omega)]
  rw [eQ, eV, hA', w2]
  omega
abbrev at0 (s : Int) : Int := ((IntKind.i64.wrap (IntKind.i64.wrap (s.tmod (IntKind.i64.wrap (100000 + 1)) + 100000) + 1)).tmod (IntKind.i64.wrap (100000 + 1)))
theorem at0_in (s : Int) : 0 ≤ at0 s ∧ at0 s ≤ 100000 := by
  have w1 : IntKind.i64.wrap (100000 + 1) = 100001 := by decide
  have s1 : -100001 < s.tmod 100001 := Int.lt_tmod_of_pos s (by decide)
  have s2 : s.tmod 100001 < 100001 := Int.tmod_lt_of_pos s (by decide)
  show 0 ≤ ((IntKind.i64.wrap (IntKind.i64.wrap (s.tmod (IntKind.i64.wrap (100000 + 1)) + 100000) + 1)).tmod (IntKind.i64.wrap (100000 + 1))) ∧ ((IntKind.i64.wrap (IntKind.i64.wrap (s.tmod (IntKind.i64.wrap (100000 + 1)) + 100000) + 1)).tmod (IntKind.i64.wrap (100000 + 1))) ≤ 100000
  rw [w1, wrap_in (x := s.tmod 100001 + 100000) (by omega) (by omega), wrap_in (by omega) (by omega)]
  have a1 := Int.tmod_nonneg (a := s.tmod 100001 + 100000 + 1) 100001 (by omega)
  have a2 := Int.tmod_lt_of_pos (s.tmod 100001 + 100000 + 1) (show (0 : Int) < 100001 by decide)
  omega
end Go.Proofs.YtlhhcongoplfpaaDoor
