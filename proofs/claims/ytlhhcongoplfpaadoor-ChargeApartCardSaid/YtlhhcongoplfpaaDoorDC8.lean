/- What functions of this program do, each as a contract that its callers use.
   By an AI agent. -/
import Derived.Test.YtlhhcongoplfpaaDoorAB
import Derived.Test.YtlhhcongoplfpaaDoorLayD
import Derived.Test.YtlhhcongoplfpaaDoorDC5
import Derived.Test.YtlhhcongoplfpaaDoorDC6
import Derived.Test.YtlhhcongoplfpaaDoorDC7
import Derived.Test.YtlhhcongoplfpaaDoorABW
namespace Go.Proofs.YtlhhcongoplfpaaDoor
open Go Go.Proofs.YtlhhcongoplfpaaDoorAB
variable {G : Nat}
set_option linter.unusedSimpArgs false
set_option linter.unusedVariables false

/-- A counter ahead of the vote: set to what the volts say, if nothing was known; else stepped. -/
noncomputable def pLo (c : Cfg) (X Y : Nat → Int) (v a1 : Int) (pv f1 kn : Bool) (lo a : Int) (fr : Bool) : Int := if sIs c v pv f1 = true ∧ kn = false then mx (mn (sLo c X Y v a1 pv f1) c.Cap) 0 else qLo c lo a fr
noncomputable def pHi (c : Cfg) (X Y : Nat → Int) (v a1 : Int) (pv f1 kn : Bool) (hi a : Int) (fr : Bool) : Int := if sIs c v pv f1 = true ∧ kn = false then mx (mn (sHi c X Y v a1 pv f1) c.Cap) 0 else qHi c hi a fr
theorem st_t {c : Cfg} {lo hi x y : Int} (h : mIs lo hi x y = true) : stLo c lo hi x y = lo ∧ stHi c lo hi x y = hi := by unfold stLo stHi; rw [if_pos h, if_pos h]; exact ⟨rfl, rfl⟩
theorem st_f {c : Cfg} {lo hi x y : Int} (h : mIs lo hi x y = false) : stLo c lo hi x y = mx (mn (wLo x c.Drift) c.Cap) 0 ∧ stHi c lo hi x y = mx (mn (wHi y c.Drift) c.Cap) 0 := by
  have h' : ¬ mIs lo hi x y = true := by rw [h]; decide
  unfold stLo stHi; rw [if_neg h', if_neg h']; exact ⟨rfl, rfl⟩
theorem bat_Step (c : Cfg) {ob : AObj} {k f : Nat} {X Y : Nat → Int} (tb : Tb ob f c.ocL X Y) (ok : TOk c.ocL X Y) (ha : 0 < c.ocL → c.ocA = some ⟨k, f, none⟩) (b p q : Nat) (kn : Bool) (lo hi lo1 hi1 lo2 hi2 v a1 a2 : Int) (pv f1 f2 : Bool) (hO : c.Ohm = 20) (h1 : -1000000000 ≤ a1) (h2 : a1 ≤ 1000000000) (v1 : -1000000000 ≤ v) (v2 : v ≤ 1000000000) (e1 : 0 ≤ c.SagErr) (e2 : c.SagErr ≤ 1000000000) : Ctr Tryd.prog G 60 [.pointer (some ⟨b, 0, none⟩), .agg #[I64 (v), .bool pv], .agg #[I64 (a1), .bool f1], .agg #[I64 (a2), .bool f2]] [(b, .cells (bat c p q kn (lo) (hi)) 137), (p, .cells (cnt_ c (lo1) (hi1)) 159), (q, .cells (cnt_ c (lo2) (hi2)) 159), (k, ob)] (.agg #[I64 ((vtLo (pLo c X Y v a1 pv f1 kn lo1 a1 f1) (pHi c X Y v a1 pv f1 kn hi1 a1 f1) (pLo c X Y v a1 pv f1 kn lo2 a2 f2) (pHi c X Y v a1 pv f1 kn hi2 a2 f2) (sLo c X Y v a1 pv f1) (sHi c X Y v a1 pv f1) (sIs c v pv f1))), I64 ((vtHi (pLo c X Y v a1 pv f1 kn lo1 a1 f1) (pHi c X Y v a1 pv f1 kn hi1 a1 f1) (pLo c X Y v a1 pv f1 kn lo2 a2 f2) (pHi c X Y v a1 pv f1 kn hi2 a2 f2) (sLo c X Y v a1 pv f1) (sHi c X Y v a1 pv f1) (sIs c v pv f1)))]) [.cells (bat c p q (kn || (sIs c v pv f1)) ((vtLo (pLo c X Y v a1 pv f1 kn lo1 a1 f1) (pHi c X Y v a1 pv f1 kn hi1 a1 f1) (pLo c X Y v a1 pv f1 kn lo2 a2 f2) (pHi c X Y v a1 pv f1 kn hi2 a2 f2) (sLo c X Y v a1 pv f1) (sHi c X Y v a1 pv f1) (sIs c v pv f1))) ((vtHi (pLo c X Y v a1 pv f1 kn lo1 a1 f1) (pHi c X Y v a1 pv f1 kn hi1 a1 f1) (pLo c X Y v a1 pv f1 kn lo2 a2 f2) (pHi c X Y v a1 pv f1 kn hi2 a2 f2) (sLo c X Y v a1 pv f1) (sHi c X Y v a1 pv f1) (sIs c v pv f1)))) 137, .cells (cnt_ c (stLo c (pLo c X Y v a1 pv f1 kn lo1 a1 f1) (pHi c X Y v a1 pv f1 kn hi1 a1 f1) (vtLo (pLo c X Y v a1 pv f1 kn lo1 a1 f1) (pHi c X Y v a1 pv f1 kn hi1 a1 f1) (pLo c X Y v a1 pv f1 kn lo2 a2 f2) (pHi c X Y v a1 pv f1 kn hi2 a2 f2) (sLo c X Y v a1 pv f1) (sHi c X Y v a1 pv f1) (sIs c v pv f1)) (vtHi (pLo c X Y v a1 pv f1 kn lo1 a1 f1) (pHi c X Y v a1 pv f1 kn hi1 a1 f1) (pLo c X Y v a1 pv f1 kn lo2 a2 f2) (pHi c X Y v a1 pv f1 kn hi2 a2 f2) (sLo c X Y v a1 pv f1) (sHi c X Y v a1 pv f1) (sIs c v pv f1))) (stHi c (pLo c X Y v a1 pv f1 kn lo1 a1 f1) (pHi c X Y v a1 pv f1 kn hi1 a1 f1) (vtLo (pLo c X Y v a1 pv f1 kn lo1 a1 f1) (pHi c X Y v a1 pv f1 kn hi1 a1 f1) (pLo c X Y v a1 pv f1 kn lo2 a2 f2) (pHi c X Y v a1 pv f1 kn hi2 a2 f2) (sLo c X Y v a1 pv f1) (sHi c X Y v a1 pv f1) (sIs c v pv f1)) (vtHi (pLo c X Y v a1 pv f1 kn lo1 a1 f1) (pHi c X Y v a1 pv f1 kn hi1 a1 f1) (pLo c X Y v a1 pv f1 kn lo2 a2 f2) (pHi c X Y v a1 pv f1 kn hi2 a2 f2) (sLo c X Y v a1 pv f1) (sHi c X Y v a1 pv f1) (sIs c v pv f1)))) 159, .cells (cnt_ c (stLo c (pLo c X Y v a1 pv f1 kn lo2 a2 f2) (pHi c X Y v a1 pv f1 kn hi2 a2 f2) (vtLo (pLo c X Y v a1 pv f1 kn lo1 a1 f1) (pHi c X Y v a1 pv f1 kn hi1 a1 f1) (pLo c X Y v a1 pv f1 kn lo2 a2 f2) (pHi c X Y v a1 pv f1 kn hi2 a2 f2) (sLo c X Y v a1 pv f1) (sHi c X Y v a1 pv f1) (sIs c v pv f1)) (vtHi (pLo c X Y v a1 pv f1 kn lo1 a1 f1) (pHi c X Y v a1 pv f1 kn hi1 a1 f1) (pLo c X Y v a1 pv f1 kn lo2 a2 f2) (pHi c X Y v a1 pv f1 kn hi2 a2 f2) (sLo c X Y v a1 pv f1) (sHi c X Y v a1 pv f1) (sIs c v pv f1))) (stHi c (pLo c X Y v a1 pv f1 kn lo2 a2 f2) (pHi c X Y v a1 pv f1 kn hi2 a2 f2) (vtLo (pLo c X Y v a1 pv f1 kn lo1 a1 f1) (pHi c X Y v a1 pv f1 kn hi1 a1 f1) (pLo c X Y v a1 pv f1 kn lo2 a2 f2) (pHi c X Y v a1 pv f1 kn hi2 a2 f2) (sLo c X Y v a1 pv f1) (sHi c X Y v a1 pv f1) (sIs c v pv f1)) (vtHi (pLo c X Y v a1 pv f1 kn lo1 a1 f1) (pHi c X Y v a1 pv f1 kn hi1 a1 f1) (pLo c X Y v a1 pv f1 kn lo2 a2 f2) (pHi c X Y v a1 pv f1 kn hi2 a2 f2) (sLo c X Y v a1 pv f1) (sHi c X Y v a1 pv f1) (sIs c v pv f1)))) 159, ob] := by
  cases hs : sIs c v pv f1 with
  | false =>
    have hn : ¬ (sIs c v pv f1 = true ∧ kn = false) := by rw [hs]; simp
    have p0 : ∀ lo a fr, pLo c X Y v a1 pv f1 kn lo a fr = qLo c lo a fr := fun lo a fr => by unfold pLo; rw [if_neg hn]
    have p1 : ∀ lo a fr, pHi c X Y v a1 pv f1 kn lo a fr = qHi c lo a fr := fun lo a fr => by unfold pHi; rw [if_neg hn]
    have z1 : sLo c X Y v a1 pv f1 = 0 := by unfold sLo; rw [if_neg (of_decide_eq_false hs)]
    have z2 : sHi c X Y v a1 pv f1 = 0 := by unfold sHi; rw [if_neg (of_decide_eq_false hs)]
    simp only [p0, p1, z1, z2, Bool.or_false]
    cases hm1 : mIs (qLo c lo1 a1 f1) (qHi c hi1 a1 f1) (vtLo (qLo c lo1 a1 f1) (qHi c hi1 a1 f1) (qLo c lo2 a2 f2) (qHi c hi2 a2 f2) 0 0 false) (vtHi (qLo c lo1 a1 f1) (qHi c hi1 a1 f1) (qLo c lo2 a2 f2) (qHi c hi2 a2 f2) 0 0 false) with
    | true =>
      cases hm2 : mIs (qLo c lo2 a2 f2) (qHi c hi2 a2 f2) (vtLo (qLo c lo1 a1 f1) (qHi c hi1 a1 f1) (qLo c lo2 a2 f2) (qHi c hi2 a2 f2) 0 0 false) (vtHi (qLo c lo1 a1 f1) (qHi c hi1 a1 f1) (qLo c lo2 a2 f2) (qHi c hi2 a2 f2) 0 0 false) with
      | true =>
        rw [(st_t hm1).1, (st_t hm1).2, (st_t hm2).1, (st_t hm2).2]
        exact stepN3 c tb ok ha b p q kn lo hi lo1 hi1 lo2 hi2 v a1 a2 pv f1 f2 hO h1 h2 v1 v2 e1 e2 hs hm1 hm2
      | false =>
        rw [(st_t hm1).1, (st_t hm1).2, (st_f hm2).1, (st_f hm2).2]
        exact stepN1 c tb ok ha b p q kn lo hi lo1 hi1 lo2 hi2 v a1 a2 pv f1 f2 hO h1 h2 v1 v2 e1 e2 hs hm1 hm2
    | false =>
      cases hm2 : mIs (qLo c lo2 a2 f2) (qHi c hi2 a2 f2) (vtLo (qLo c lo1 a1 f1) (qHi c hi1 a1 f1) (qLo c lo2 a2 f2) (qHi c hi2 a2 f2) 0 0 false) (vtHi (qLo c lo1 a1 f1) (qHi c hi1 a1 f1) (qLo c lo2 a2 f2) (qHi c hi2 a2 f2) 0 0 false) with
      | true =>
        rw [(st_f hm1).1, (st_f hm1).2, (st_t hm2).1, (st_t hm2).2]
        exact stepN2 c tb ok ha b p q kn lo hi lo1 hi1 lo2 hi2 v a1 a2 pv f1 f2 hO h1 h2 v1 v2 e1 e2 hs hm1 hm2
      | false =>
        rw [(st_f hm1).1, (st_f hm1).2, (st_f hm2).1, (st_f hm2).2]
        exact stepN0 c tb ok ha b p q kn lo hi lo1 hi1 lo2 hi2 v a1 a2 pv f1 f2 hO h1 h2 v1 v2 e1 e2 hs hm1 hm2
  | true =>
    cases kn with
    | true =>
      have hn : ¬ (sIs c v pv f1 = true ∧ true = false) := by simp
      have p0 : ∀ lo a fr, pLo c X Y v a1 pv f1 true lo a fr = qLo c lo a fr := fun lo a fr => by unfold pLo; rw [if_neg hn]
      have p1 : ∀ lo a fr, pHi c X Y v a1 pv f1 true lo a fr = qHi c lo a fr := fun lo a fr => by unfold pHi; rw [if_neg hn]
      simp only [p0, p1, Bool.or_true]
      cases hm1 : mIs (qLo c lo1 a1 f1) (qHi c hi1 a1 f1) (vtLo (qLo c lo1 a1 f1) (qHi c hi1 a1 f1) (qLo c lo2 a2 f2) (qHi c hi2 a2 f2) (sLo c X Y v a1 pv f1) (sHi c X Y v a1 pv f1) true) (vtHi (qLo c lo1 a1 f1) (qHi c hi1 a1 f1) (qLo c lo2 a2 f2) (qHi c hi2 a2 f2) (sLo c X Y v a1 pv f1) (sHi c X Y v a1 pv f1) true) with
      | true =>
        cases hm2 : mIs (qLo c lo2 a2 f2) (qHi c hi2 a2 f2) (vtLo (qLo c lo1 a1 f1) (qHi c hi1 a1 f1) (qLo c lo2 a2 f2) (qHi c hi2 a2 f2) (sLo c X Y v a1 pv f1) (sHi c X Y v a1 pv f1) true) (vtHi (qLo c lo1 a1 f1) (qHi c hi1 a1 f1) (qLo c lo2 a2 f2) (qHi c hi2 a2 f2) (sLo c X Y v a1 pv f1) (sHi c X Y v a1 pv f1) true) with
        | true =>
          rw [(st_t hm1).1, (st_t hm1).2, (st_t hm2).1, (st_t hm2).2]
          exact stepK3 c tb ok ha b p q lo hi lo1 hi1 lo2 hi2 v a1 a2 pv f1 f2 hO h1 h2 v1 v2 e1 e2 hs hm1 hm2
        | false =>
          rw [(st_t hm1).1, (st_t hm1).2, (st_f hm2).1, (st_f hm2).2]
          exact stepK1 c tb ok ha b p q lo hi lo1 hi1 lo2 hi2 v a1 a2 pv f1 f2 hO h1 h2 v1 v2 e1 e2 hs hm1 hm2
      | false =>
        cases hm2 : mIs (qLo c lo2 a2 f2) (qHi c hi2 a2 f2) (vtLo (qLo c lo1 a1 f1) (qHi c hi1 a1 f1) (qLo c lo2 a2 f2) (qHi c hi2 a2 f2) (sLo c X Y v a1 pv f1) (sHi c X Y v a1 pv f1) true) (vtHi (qLo c lo1 a1 f1) (qHi c hi1 a1 f1) (qLo c lo2 a2 f2) (qHi c hi2 a2 f2) (sLo c X Y v a1 pv f1) (sHi c X Y v a1 pv f1) true) with
        | true =>
          rw [(st_f hm1).1, (st_f hm1).2, (st_t hm2).1, (st_t hm2).2]
          exact stepK2 c tb ok ha b p q lo hi lo1 hi1 lo2 hi2 v a1 a2 pv f1 f2 hO h1 h2 v1 v2 e1 e2 hs hm1 hm2
        | false =>
          rw [(st_f hm1).1, (st_f hm1).2, (st_f hm2).1, (st_f hm2).2]
          exact stepK0 c tb ok ha b p q lo hi lo1 hi1 lo2 hi2 v a1 a2 pv f1 f2 hO h1 h2 v1 v2 e1 e2 hs hm1 hm2
    | false =>
      have hn : sIs c v pv f1 = true ∧ false = false := ⟨hs, rfl⟩
      have p0 : ∀ lo a fr, pLo c X Y v a1 pv f1 false lo a fr = mx (mn (sLo c X Y v a1 pv f1) c.Cap) 0 := fun lo a fr => by unfold pLo; rw [if_pos hn]
      have p1 : ∀ lo a fr, pHi c X Y v a1 pv f1 false lo a fr = mx (mn (sHi c X Y v a1 pv f1) c.Cap) 0 := fun lo a fr => by unfold pHi; rw [if_pos hn]
      simp only [p0, p1, Bool.or_true]
      cases hm1 : mIs (mx (mn (sLo c X Y v a1 pv f1) c.Cap) 0) (mx (mn (sHi c X Y v a1 pv f1) c.Cap) 0) (vtLo (mx (mn (sLo c X Y v a1 pv f1) c.Cap) 0) (mx (mn (sHi c X Y v a1 pv f1) c.Cap) 0) (mx (mn (sLo c X Y v a1 pv f1) c.Cap) 0) (mx (mn (sHi c X Y v a1 pv f1) c.Cap) 0) (sLo c X Y v a1 pv f1) (sHi c X Y v a1 pv f1) true) (vtHi (mx (mn (sLo c X Y v a1 pv f1) c.Cap) 0) (mx (mn (sHi c X Y v a1 pv f1) c.Cap) 0) (mx (mn (sLo c X Y v a1 pv f1) c.Cap) 0) (mx (mn (sHi c X Y v a1 pv f1) c.Cap) 0) (sLo c X Y v a1 pv f1) (sHi c X Y v a1 pv f1) true) with
      | true =>
        cases hm2 : mIs (mx (mn (sLo c X Y v a1 pv f1) c.Cap) 0) (mx (mn (sHi c X Y v a1 pv f1) c.Cap) 0) (vtLo (mx (mn (sLo c X Y v a1 pv f1) c.Cap) 0) (mx (mn (sHi c X Y v a1 pv f1) c.Cap) 0) (mx (mn (sLo c X Y v a1 pv f1) c.Cap) 0) (mx (mn (sHi c X Y v a1 pv f1) c.Cap) 0) (sLo c X Y v a1 pv f1) (sHi c X Y v a1 pv f1) true) (vtHi (mx (mn (sLo c X Y v a1 pv f1) c.Cap) 0) (mx (mn (sHi c X Y v a1 pv f1) c.Cap) 0) (mx (mn (sLo c X Y v a1 pv f1) c.Cap) 0) (mx (mn (sHi c X Y v a1 pv f1) c.Cap) 0) (sLo c X Y v a1 pv f1) (sHi c X Y v a1 pv f1) true) with
        | true =>
          rw [(st_t hm1).1, (st_t hm1).2]
          exact stepU3 c tb ok ha b p q lo hi lo1 hi1 lo2 hi2 v a1 a2 pv f1 f2 hO h1 h2 v1 v2 e1 e2 hs hm1 hm2
        | false =>
          exact absurd (hm1.symm.trans hm2) (by decide)
      | false =>
        cases hm2 : mIs (mx (mn (sLo c X Y v a1 pv f1) c.Cap) 0) (mx (mn (sHi c X Y v a1 pv f1) c.Cap) 0) (vtLo (mx (mn (sLo c X Y v a1 pv f1) c.Cap) 0) (mx (mn (sHi c X Y v a1 pv f1) c.Cap) 0) (mx (mn (sLo c X Y v a1 pv f1) c.Cap) 0) (mx (mn (sHi c X Y v a1 pv f1) c.Cap) 0) (sLo c X Y v a1 pv f1) (sHi c X Y v a1 pv f1) true) (vtHi (mx (mn (sLo c X Y v a1 pv f1) c.Cap) 0) (mx (mn (sHi c X Y v a1 pv f1) c.Cap) 0) (mx (mn (sLo c X Y v a1 pv f1) c.Cap) 0) (mx (mn (sHi c X Y v a1 pv f1) c.Cap) 0) (sLo c X Y v a1 pv f1) (sHi c X Y v a1 pv f1) true) with
        | true =>
          exact absurd (hm1.symm.trans hm2) (by decide)
        | false =>
          rw [(st_f hm1).1, (st_f hm1).2]
          exact stepU0 c tb ok ha b p q lo hi lo1 hi1 lo2 hi2 v a1 a2 pv f1 f2 hO h1 h2 v1 v2 e1 e2 hs hm1 hm2
end Go.Proofs.YtlhhcongoplfpaaDoor
