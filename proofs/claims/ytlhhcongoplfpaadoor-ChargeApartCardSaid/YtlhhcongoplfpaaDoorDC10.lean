/- What functions of this program do, each as a contract that its callers use.
   By an AI agent. -/
import Derived.Test.YtlhhcongoplfpaaDoorAB
import Derived.Test.YtlhhcongoplfpaaDoorLayD
import Derived.Test.YtlhhcongoplfpaaDoorCP
import Derived.Test.YtlhhcongoplfpaaDoorABW
namespace Go.Proofs.YtlhhcongoplfpaaDoor
open Go Go.Proofs.YtlhhcongoplfpaaDoorAB
variable {G : Nat}
set_option linter.unusedSimpArgs false
set_option linter.unusedVariables false

theorem err_in (m : Int) : 0 ≤ (n20 m).tmod 5 ∧ (n20 m).tmod 5 ≤ 4 := by
  have h := Int.tmod_lt_of_pos (n20 m) (show (0 : Int) < 5 by decide)
  have h2 := Int.tmod_nonneg 5 (n20_nonneg m)
  omega
/-- What is the same in all configurations. -/
structure Fx (c : Cfg) : Prop where
  hC : c.Cap = 100000
  hI : c.Imax = 500
  hD : c.Drift = 50
  hL : c.ocL = 4
  hV : c.Vmin = 10000
  hS : c.SagErr = 100
  hO : c.Ohm = 20
  e0 : 0 ≤ c.AmpErr
  e4 : c.AmpErr ≤ 4
theorem fx (n m k : Int) (oc fa : Option Addr) (fl fc : Nat) : Fx (cfgOf n m k oc fa fl fc) := ⟨rfl, rfl, rfl, rfl, rfl, rfl, rfl, (err_in m).1, (err_in m).2⟩

/-- A cycle whose volts and first amps are true: Q stands in two of three. -/
theorem hold_a {c : Cfg} (F : Fx c) {k : Nat} (hc : c.ocA = some ⟨k, 0, none⟩) (b p q : Nat) {lo hi lo1 hi1 lo2 hi2 v a1 a2 Q : Int} {f2 : Bool} (w1 : Wd lo1 hi1) (w2 : Wd lo2 hi2) (g1 : Hs lo1 hi1 Q) (A1 : -500000 ≤ a1) (A2 : a1 ≤ 500000) (A3 : -500000 ≤ a2) (A4 : a2 ≤ 500000) (q0 : 0 ≤ Q - a1) (q1 : Q - a1 ≤ 100000) (hv : v = tLo 4 oX oY (Q - a1) - dn (a1 * 20) 1000) (hv2 : ¬ v < 10000) :
    ∃ L H m1 n1 m2 n2, Hs L H (Q - a1) ∧ Wd m1 n1 ∧ Wd m2 n2 ∧ Hs m1 n1 (Q - a1) ∧ mIs m1 n1 L H = true ∧ mIs m2 n2 L H = true ∧ Ctr Tryd.prog G 60 [.pointer (some ⟨b, 0, none⟩), .agg #[I64 (v), .bool true], .agg #[I64 (a1), .bool true], .agg #[I64 (a2), .bool f2]] [(b, .cells (bat c p q true (lo) (hi)) 137), (p, .cells (cnt_ c (lo1) (hi1)) 159), (q, .cells (cnt_ c (lo2) (hi2)) 159), (k, .cells ocv 27)] (.agg #[I64 (L), I64 (H)]) [.cells (bat c p q true (L) (H)) 137, .cells (cnt_ c (m1) (n1)) 159, .cells (cnt_ c (m2) (n2)) 159, .cells ocv 27] := by
  have d1 : -10001 ≤ dn (a1 * 20) 1000 := by unfold dn; omega
  have t2 := ocOk.hi1 (Q - a1)
  have t3 := ocOk.apart (Q - a1)
  have y3 : oY (4 - 1) = 28000 := rfl
  have h := bat_Step (G := G) c (k := k) (f := 0) (X := oX) (Y := oY) (by rw [F.hL]; exact ocTb) (by rw [F.hL]; exact ocOk) (fun _ => hc) b p q true lo hi lo1 hi1 lo2 hi2 v a1 a2 true true f2 F.hO (by omega) (by omega) (by omega) (by omega) (by rw [F.hS]; decide) (by rw [F.hS]; decide)
  obtain ⟨s1, s2⟩ := sag_hasQ F.hL F.hV F.hS q0 q1 hv hv2
  have p0 : ∀ lo a fr, pLo c oX oY v a1 true true true lo a fr = qLo c lo a fr := fun lo a fr => by unfold pLo; rw [if_neg (by simp)]
  have p1 : ∀ lo a fr, pHi c oX oY v a1 true true true lo a fr = qHi c lo a fr := fun lo a fr => by unfold pHi; rw [if_neg (by simp)]
  simp only [p0, p1] at h
  rw [s1] at h
  have r1 := q_wd F.hC F.hI F.e0 F.e4 w1 (v := a1) (fr := true) (by omega) (by omega)
  have r2 := q_wd F.hC F.hI F.e0 F.e4 w2 (v := a2) (fr := f2) (by omega) (by omega)
  have r3 := sag_wd (a := a1) F.hL s1
  have k1 := q_has F.hC F.hI F.e0 F.e4 w1 g1 (v := a1) (by omega) (by omega) q0 q1
  have V := vt_has3 (a2 := qLo c lo2 a2 f2) (b2 := qHi c hi2 a2 f2) (.inr (.inl ⟨k1, s2⟩))
  have VW := vt_wd (says := true) r1 r2 (fun _ => r3)
  exact ⟨_, _, _, _, _, _, V, st_wd F.hC F.hD r1 VW, st_wd F.hC F.hD r2 VW, st_has F.hC F.hD VW k1 V, st_meets F.hC F.hD r1 VW, st_meets F.hC F.hD r2 VW, h⟩

/-- A cycle of which the amps are true, both: Q stands in both counters. -/
theorem hold_b {c : Cfg} (F : Fx c) {k : Nat} (hc : c.ocA = some ⟨k, 0, none⟩) (b p q : Nat) {lo hi lo1 hi1 lo2 hi2 v a1 Q : Int} {pv : Bool} (w1 : Wd lo1 hi1) (w2 : Wd lo2 hi2) (g1 : Hs lo1 hi1 Q) (g2 : Hs lo2 hi2 Q) (A1 : -500000 ≤ a1) (A2 : a1 ≤ 500000) (q0 : 0 ≤ Q - a1) (q1 : Q - a1 ≤ 100000) (v1 : -1000000 ≤ v) (v2 : v ≤ 1000000) :
    ∃ L H m1 n1 m2 n2, Hs L H (Q - a1) ∧ Wd m1 n1 ∧ Wd m2 n2 ∧ Hs m1 n1 (Q - a1) ∧ Hs m2 n2 (Q - a1) ∧ Ctr Tryd.prog G 60 [.pointer (some ⟨b, 0, none⟩), .agg #[I64 (v), .bool pv], .agg #[I64 (a1), .bool true], .agg #[I64 (a1), .bool true]] [(b, .cells (bat c p q true (lo) (hi)) 137), (p, .cells (cnt_ c (lo1) (hi1)) 159), (q, .cells (cnt_ c (lo2) (hi2)) 159), (k, .cells ocv 27)] (.agg #[I64 (L), I64 (H)]) [.cells (bat c p q true (L) (H)) 137, .cells (cnt_ c (m1) (n1)) 159, .cells (cnt_ c (m2) (n2)) 159, .cells ocv 27] := by
  have h := bat_Step (G := G) c (k := k) (f := 0) (X := oX) (Y := oY) (by rw [F.hL]; exact ocTb) (by rw [F.hL]; exact ocOk) (fun _ => hc) b p q true lo hi lo1 hi1 lo2 hi2 v a1 a1 pv true true F.hO (by omega) (by omega) (by omega) (by omega) (by rw [F.hS]; decide) (by rw [F.hS]; decide)
  have p0 : ∀ lo a fr, pLo c oX oY v a1 pv true true lo a fr = qLo c lo a fr := fun lo a fr => by unfold pLo; rw [if_neg (by simp)]
  have p1 : ∀ lo a fr, pHi c oX oY v a1 pv true true lo a fr = qHi c lo a fr := fun lo a fr => by unfold pHi; rw [if_neg (by simp)]
  simp only [p0, p1, Bool.true_or] at h
  have r1 := q_wd F.hC F.hI F.e0 F.e4 w1 (v := a1) (fr := true) (by omega) (by omega)
  have r2 := q_wd F.hC F.hI F.e0 F.e4 w2 (v := a1) (fr := true) (by omega) (by omega)
  have k1 := q_has F.hC F.hI F.e0 F.e4 w1 g1 (v := a1) (by omega) (by omega) q0 q1
  have k2 := q_has F.hC F.hI F.e0 F.e4 w2 g2 (v := a1) (by omega) (by omega) q0 q1
  have V := vt_has (a3 := sLo c oX oY v a1 pv true) (b3 := sHi c oX oY v a1 pv true) (says := sIs c v pv true) k1 k2
  have VW := vt_wd (says := sIs c v pv true) r1 r2 (fun s => sag_wd (a := a1) F.hL s)
  exact ⟨_, _, _, _, _, _, V, st_wd F.hC F.hD r1 VW, st_wd F.hC F.hD r2 VW, st_has F.hC F.hD VW k1 V, st_has F.hC F.hD VW k2 V, h⟩

/-- A cycle whose second counter's amps, and the volts, are true, as the first amps are reckoned away. -/
theorem hold_c {c : Cfg} (F : Fx c) {k : Nat} (hc : c.ocA = some ⟨k, 0, none⟩) (b p q : Nat) {lo hi lo1 hi1 lo2 hi2 v a1 Q : Int} (w1 : Wd lo1 hi1) (w2 : Wd lo2 hi2) (g2 : Hs lo2 hi2 Q) (A1 : -500000 ≤ a1) (A2 : a1 ≤ 500000) (q0 : 0 ≤ Q) (q1 : Q ≤ 100000) (hv : v = tLo 4 oX oY Q - dn (a1 * 20) 1000) (hv2 : ¬ v < 10000) :
    ∃ L H m1 n1 m2 n2, Hs L H Q ∧ Wd m1 n1 ∧ Wd m2 n2 ∧ mIs m1 n1 L H = true ∧ mIs m2 n2 L H = true ∧ Ctr Tryd.prog G 60 [.pointer (some ⟨b, 0, none⟩), .agg #[I64 (v), .bool true], .agg #[I64 (a1), .bool true], .agg #[I64 (0), .bool true]] [(b, .cells (bat c p q true (lo) (hi)) 137), (p, .cells (cnt_ c (lo1) (hi1)) 159), (q, .cells (cnt_ c (lo2) (hi2)) 159), (k, .cells ocv 27)] (.agg #[I64 (L), I64 (H)]) [.cells (bat c p q true (L) (H)) 137, .cells (cnt_ c (m1) (n1)) 159, .cells (cnt_ c (m2) (n2)) 159, .cells ocv 27] := by
  have d1 : -10001 ≤ dn (a1 * 20) 1000 := by unfold dn; omega
  have t2 := ocOk.hi1 Q
  have t3 := ocOk.apart Q
  have y3 : oY (4 - 1) = 28000 := rfl
  have h := bat_Step (G := G) c (k := k) (f := 0) (X := oX) (Y := oY) (by rw [F.hL]; exact ocTb) (by rw [F.hL]; exact ocOk) (fun _ => hc) b p q true lo hi lo1 hi1 lo2 hi2 v a1 0 true true true F.hO (by omega) (by omega) (by omega) (by omega) (by rw [F.hS]; decide) (by rw [F.hS]; decide)
  obtain ⟨s1, s2⟩ := sag_hasQ F.hL F.hV F.hS q0 q1 hv hv2
  have p0 : ∀ lo a fr, pLo c oX oY v a1 true true true lo a fr = qLo c lo a fr := fun lo a fr => by unfold pLo; rw [if_neg (by simp)]
  have p1 : ∀ lo a fr, pHi c oX oY v a1 true true true lo a fr = qHi c lo a fr := fun lo a fr => by unfold pHi; rw [if_neg (by simp)]
  simp only [p0, p1] at h
  rw [s1] at h
  have r1 := q_wd F.hC F.hI F.e0 F.e4 w1 (v := a1) (fr := true) (by omega) (by omega)
  have r2 := q_wd F.hC F.hI F.e0 F.e4 w2 (v := 0) (fr := true) (by omega) (by omega)
  have r3 := sag_wd (a := a1) F.hL s1
  have k2 := q_has F.hC F.hI F.e0 F.e4 w2 g2 (v := 0) (by omega) (by omega) (by omega) (by omega)
  rw [Int.sub_zero] at k2
  have V := vt_has3 (a1 := qLo c lo1 a1 true) (b1 := qHi c hi1 a1 true) (.inr (.inr ⟨k2, s2⟩))
  have VW := vt_wd (says := true) r1 r2 (fun _ => r3)
  exact ⟨_, _, _, _, _, _, V, st_wd F.hC F.hD r1 VW, st_wd F.hC F.hD r2 VW, st_meets F.hC F.hD r1 VW, st_meets F.hC F.hD r2 VW, h⟩

theorem hs00 : Hs 0 100000 0 := by unfold Hs; omega
/-- A cycle without volts, and without a current: nothing is known still. -/
theorem step_blind20 {c : Cfg} (F : Fx c) {k : Nat} (hc : c.ocA = some ⟨k, 0, none⟩) (b p q : Nat) : Ctr Tryd.prog G 60 [.pointer (some ⟨b, 0, none⟩), .agg #[I64 (0), .bool false], .agg #[I64 (0), .bool true], .agg #[I64 (0), .bool true]] [(b, .cells (bat c p q false (0) (100000)) 137), (p, .cells (cnt_ c (0) (100000)) 159), (q, .cells (cnt_ c (0) (100000)) 159), (k, .cells ocv 27)] (.agg #[I64 (0), I64 (100000)]) [.cells (bat c p q false (0) (100000)) 137, .cells (cnt_ c (0) (100000)) 159, .cells (cnt_ c (0) (100000)) 159, .cells ocv 27] := by
  have h := bat_Step (G := G) c (k := k) (f := 0) (X := oX) (Y := oY) (by rw [F.hL]; exact ocTb) (by rw [F.hL]; exact ocOk) (fun _ => hc) b p q false 0 100000 0 100000 0 100000 0 0 0 false true true F.hO (by omega) (by omega) (by omega) (by omega) (by rw [F.hS]; decide) (by rw [F.hS]; decide)
  have s0 : sIs c 0 false true = false := by unfold sIs; exact decide_eq_false (fun h => absurd h.1 (by decide))
  have p0 : ∀ lo a fr, pLo c oX oY 0 0 false true false lo a fr = qLo c lo a fr := fun lo a fr => by unfold pLo; rw [if_neg (by rw [s0]; simp)]
  have p1 : ∀ lo a fr, pHi c oX oY 0 0 false true false lo a fr = qHi c lo a fr := fun lo a fr => by unfold pHi; rw [if_neg (by rw [s0]; simp)]
  simp only [p0, p1] at h
  rw [s0] at h
  have o1 := out_eq F.hI F.e0 F.e4 (v := 0) (fr := true) (by decide) (by decide)
  have q1 : qLo c 0 0 true = 0 := by
    unfold qLo; rw [o1.2, if_pos rfl, F.hC]
    have := F.e0; have := F.e4
    rw [fSub_in (by omega) (by omega) (by omega) (by omega), mx_eq, mn_eq]; omega
  have q2 : qHi c 100000 0 true = 100000 := by
    unfold qHi; rw [o1.1, if_pos rfl, F.hC]
    have := F.e0; have := F.e4
    rw [fSub_in (by omega) (by omega) (by omega) (by omega), mx_eq, mn_eq]; omega
  rw [q1, q2] at h
  have v1 : vtLo 0 100000 0 100000 (sLo c oX oY 0 0 false true) (sHi c oX oY 0 0 false true) false = 0 := by unfold vtLo; rw [if_neg (show ¬ (false = true) by decide), if_pos (show mIs 0 100000 0 100000 = true by decide)]; decide
  have v2 : vtHi 0 100000 0 100000 (sLo c oX oY 0 0 false true) (sHi c oX oY 0 0 false true) false = 100000 := by unfold vtHi; rw [if_neg (show ¬ (false = true) by decide), if_pos (show mIs 0 100000 0 100000 = true by decide)]; decide
  rw [v1, v2] at h
  have t1 : stLo c 0 100000 0 100000 = 0 := by unfold stLo; rw [if_pos (by decide)]
  have t2 : stHi c 0 100000 0 100000 = 100000 := by unfold stHi; rw [if_pos (by decide)]
  rw [t1, t2] at h
  exact h

section
variable {n : Nat} {X Y : Nat → Int}
theorem bA_gt (o : TOk n X Y) {x y : Int} (h : tHi n X Y x < y) (hx : x < X (n - 1)) : x < bA n X Y y := by
  obtain ⟨a, b, c, d⟩ := o.least1 y
  unfold bA
  simp only [mn_eq]
  generalize leastV (YtlhhcongoplfpaaDoorAB.pHi n X Y y) (X 0) (X (n - 1)) = r at *
  rcases ltge x r with h1 | h1
  · omega
  · have := d x h1 (by omega)
    simp only [YtlhhcongoplfpaaDoorAB.pHi, decide_eq_true_eq] at this
    omega
theorem bB_lt (o : TOk n X Y) {x y : Int} (h : y < tLo n X Y x) (hx : X 0 < x) : bB n X Y y < x := by
  obtain ⟨a, b, c, d⟩ := o.least2 y
  unfold bB
  simp only [mx_eq]
  generalize leastV (YtlhhcongoplfpaaDoorAB.pLo n X Y y) (X 0) (X (n - 1)) = r at *
  rcases ltge x r with h1 | h1
  · have := c x (by omega) h1
    simp only [YtlhhcongoplfpaaDoorAB.pLo, decide_eq_false_iff_not] at this
    omega
  · omega
end
theorem oc1 : tHi 4 oX oY 1 = 20001 := by decide
theorem oc2 : tLo 4 oX oY 50000 = 24000 := by decide
theorem oc3 : tHi 4 oX oY 50000 = 24000 := by decide
/-- What the volts say is less than all. -/
theorem narrow {y w : Int} (h : y ≤ w) (h2 : w ≤ y + 200) : hHi 4 oX oY y w - hLo 4 oX oY y w < 100000 := by
  have x0 : oX 0 = 0 := rfl
  have x3 : oX (4 - 1) = 100000 := rfl
  have b1 := ocOk.k_in y
  have b2 := ocOk.k_in w
  have m := ocOk.k_mono h
  have e1 : hLo 4 oX oY y w = kLo 4 oX oY y := by unfold hLo; rw [mn_eq]; omega
  have e2 : hHi 4 oX oY y w = kHi 4 oX oY w := by unfold hHi; rw [mx_eq]; omega
  rw [e1, e2]
  rcases ltge 20001 y with g | g
  · have a1 := bA_gt ocOk (x := 1) (y := y) (by rw [oc1]; exact g) (by rw [x3]; decide)
    have a2 := ocOk.bB_ge (x := 1) (y := y) (by have := (ocOk.apart 1).1; rw [oc1] at this; omega) (by rw [x3]; decide)
    have : 1 ≤ kLo 4 oX oY y := by unfold kLo; rw [mn_eq]; omega
    omega
  · have a1 := bB_lt ocOk (x := 50000) (y := w) (by rw [oc2]; omega) (by rw [x0]; decide)
    have a2 := ocOk.bA_le (x := 50000) (y := w) (by rw [oc3]; omega) (by rw [x0]; decide)
    have : kHi 4 oX oY w ≤ 50000 := by unfold kHi; rw [mx_eq]; omega
    omega

/-- The first cycle that says something: it is known, and is what it says. -/
theorem step_known {c : Cfg} (F : Fx c) {k : Nat} (hc : c.ocA = some ⟨k, 0, none⟩) (b p q : Nat) {Q v : Int} (q0 : 0 ≤ Q) (q1 : Q ≤ 100000) (hv : v = tLo 4 oX oY Q) :
    ∃ L H, Hs L H Q ∧ Wd L H ∧ H - L < 100000 ∧ Ctr Tryd.prog G 60 [.pointer (some ⟨b, 0, none⟩), .agg #[I64 (v), .bool true], .agg #[I64 (0), .bool true], .agg #[I64 (0), .bool true]] [(b, .cells (bat c p q false (0) (100000)) 137), (p, .cells (cnt_ c (0) (100000)) 159), (q, .cells (cnt_ c (0) (100000)) 159), (k, .cells ocv 27)] (.agg #[I64 (L), I64 (H)]) [.cells (bat c p q true (L) (H)) 137, .cells (cnt_ c (L) (H)) 159, .cells (cnt_ c (L) (H)) 159, .cells ocv 27] := by
  have t1 := ocOk.lo0 Q
  have t2 := ocOk.hi1 Q
  have t3 := ocOk.apart Q
  have y0 : oY 0 = 20000 := rfl
  have y3 : oY (4 - 1) = 28000 := rfl
  have dz : dn (0 * 20) 1000 = 0 := by decide
  have uz : up (0 * 20) 1000 = 0 := by decide
  have h := bat_Step (G := G) c (k := k) (f := 0) (X := oX) (Y := oY) (by rw [F.hL]; exact ocTb) (by rw [F.hL]; exact ocOk) (fun _ => hc) b p q false 0 100000 0 100000 0 100000 v 0 0 true true true F.hO (by omega) (by omega) (by omega) (by omega) (by rw [F.hS]; decide) (by rw [F.hS]; decide)
  obtain ⟨s1, s2⟩ := sag_hasQ F.hL F.hV F.hS (v := v) (a := 0) q0 q1 (by rw [dz]; omega) (by omega)
  have r3 := sag_wd (a := 0) F.hL s1
  have nr : sHi c oX oY v 0 true true - sLo c oX oY v 0 true true < 100000 := by
    have hn : true = true ∧ true = true ∧ ¬ v < c.Vmin := ⟨rfl, rfl, by rw [F.hV]; omega⟩
    unfold sHi sLo
    rw [if_pos hn, if_pos hn, F.hL, F.hS, dz, uz]
    exact narrow (by omega) (by omega)
  generalize hS : sLo c oX oY v 0 true true = L at *
  generalize hT : sHi c oX oY v 0 true true = H at *
  have c1 : mx (mn L c.Cap) 0 = L := by rw [F.hC]; unfold Wd at r3; exact clip_id (by omega) (by omega)
  have c2 : mx (mn H c.Cap) 0 = H := by rw [F.hC]; unfold Wd at r3; exact clip_id (by omega) (by omega)
  have p0 : ∀ lo a fr, pLo c oX oY v 0 true true false lo a fr = L := fun lo a fr => by unfold pLo; rw [if_pos ⟨s1, rfl⟩, hS, c1]
  have p1 : ∀ lo a fr, pHi c oX oY v 0 true true false lo a fr = H := fun lo a fr => by unfold pHi; rw [if_pos ⟨s1, rfl⟩, hT, c2]
  simp only [p0, p1] at h
  rw [s1] at h
  obtain ⟨v1, v2⟩ := vt_same (a1 := L) (b1 := H) r3.2.1
  rw [v1, v2] at h
  have m : mIs L H L H = true := mIs_iff.2 (by have := r3.2.1; omega)
  have t1 : stLo c L H L H = L := by unfold stLo; rw [if_pos m]
  have t2 : stHi c L H L H = H := by unfold stHi; rw [if_pos m]
  rw [t1, t2] at h
  exact ⟨L, H, s2, r3, nr, h⟩

theorem bat_at (c : Cfg) (hC : c.Cap = 100000) (kb k1 k2 : Nat) (Q : Int) (h0 : 0 ≤ Q) (h1 : Q ≤ 100000) : Ctr Tryd.prog G 57 [.agg ⟨c.cells⟩, .agg #[I64 (Q), I64 (Q)], .bool true] [(kb, .gone), (k1, .gone), (k2, .gone)] (.pointer (some ⟨kb, 0, none⟩)) [.cells (bat c k1 k2 true (Q) (Q)) 137, .cells (cnt_ c (Q) (Q)) 159, .cells (cnt_ c (Q) (Q)) 159] := by
  have h := Bat_New_true (G := G) c kb k1 k2 Q Q
  rw [hC, clip_id h0 h1] at h
  exact h
theorem bat_none (c : Cfg) (hC : c.Cap = 100000) (kb k1 k2 : Nat) (a b : Int) : Ctr Tryd.prog G 57 [.agg ⟨c.cells⟩, .agg #[I64 (a), I64 (b)], .bool false] [(kb, .gone), (k1, .gone), (k2, .gone)] (.pointer (some ⟨kb, 0, none⟩)) [.cells (bat c k1 k2 false (0) (100000)) 137, .cells (cnt_ c (0) (100000)) 159, .cells (cnt_ c (0) (100000)) 159] := by
  have h := Bat_New_false (G := G) c kb k1 k2 a b
  have e1 : mx (mn (mn 0 c.Cap) c.Cap) 0 = 0 := by rw [hC]; decide
  have e2 : mx (mn (mx 0 c.Cap) c.Cap) 0 = 100000 := by rw [hC]; decide
  rw [e1, e2] at h
  exact h
end Go.Proofs.YtlhhcongoplfpaaDoor
