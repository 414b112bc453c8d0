/- What functions of this program do, each as a contract that its callers use, and what follows of it in plain numbers.
   By an AI agent. -/
import Derived.Test.YtlhhcongoplfpaaDoorAB
import Derived.Test.YtlhhcongoplfpaaDoorDLO
import Derived.Test.YtlhhcongoplfpaaDoorDRB
import Derived.Test.YtlhhcongoplfpaaDoorDCB
import Derived.Test.YtlhhcongoplfpaaDoorABM
namespace Go.Proofs.YtlhhcongoplfpaaDoor
open Go Go.Proofs.YtlhhcongoplfpaaDoorAB
variable {G : Nat}
set_option linter.unusedSimpArgs false
set_option linter.unusedVariables false

theorem bne_self (b : Bool) : ¬ (!(b == b)) = true := by cases b <;> decide
theorem p_wd {c : Cfg} (F : Fx c) {v a1 a : Int} {pv f1 kn fr : Bool} {lo hi : Int} (w : Wd lo hi) (h4 : -1000000 < a) (h5 : a < 1000000) : Wd (pLo c oX oY v a1 pv f1 kn lo a fr) (pHi c oX oY v a1 pv f1 kn hi a fr) := by
  unfold pLo pHi
  by_cases h : sIs c v pv f1 = true ∧ kn = false
  · have s := sag_wd (a := a1) F.hL h.1
    rw [if_pos h, if_pos h, F.hC]
    exact ⟨clip_in.1, clip_mono s.2.1, clip_in.2⟩
  · rw [if_neg h, if_neg h]
    exact q_wd F.hC F.hI F.e0 F.e4 w h4 h5
/-- A cycle of both batteries. -/
theorem plays_step {c : Cfg} (F : Fx c) {k : Nat} (hc : c.ocA = some ⟨k, 0, none⟩) (b p q r : Nat) (kn : Bool) (q1 q2 : Int) {x1 x2 y1 y2 v a1 a2 : Int} (pv f1 f2 : Bool) (w1 : Wd x1 x2) (w2 : Wd y1 y2) (A1 : -1000000 < a1) (A2 : a1 < 1000000) (A3 : -1000000 < a2) (A4 : a2 < 1000000) (v1 : -1000000 ≤ v) (v2 : v ≤ 1000000) :
    ∃ kn' L H m1 n1 m2 n2, Wd m1 n1 ∧ Wd m2 n2 ∧ Ctr Tryd.prog G 60 [.pointer (some ⟨b, 0, none⟩), .agg #[I64 (v), .bool pv], .agg #[I64 (a1), .bool f1], .agg #[I64 (a2), .bool f2]] [(b, .cells (bat c p q (kn) (q1) (q2)) 137), (p, .cells (cnt_ c (x1) (x2)) 159), (q, .cells (cnt_ c (y1) (y2)) 159), (k, .cells ocv 27)] (.agg #[I64 (L), I64 (H)]) [.cells (bat c p q (kn') (L) (H)) 137, .cells (cnt_ c (m1) (n1)) 159, .cells (cnt_ c (m2) (n2)) 159, .cells ocv 27] ∧ Ctr Tryd.prog G 61 [.pointer (some ⟨r, 0, none⟩), .agg #[I64 (v), .bool pv], .agg #[I64 (a1), .bool f1], .agg #[I64 (a2), .bool f2]] [(r, .cells (rbat c (x1) (x2) (y1) (y2) (q1) (q2) (kn)) 82), (k, .cells ocv 27)] (.agg #[I64 (L), I64 (H)]) [.cells (rbat c (m1) (n1) (m2) (n2) (L) (H) (kn')) 82, .cells ocv 27] := by
  have h1 := bat_Step (G := G) c (k := k) (f := 0) (X := oX) (Y := oY) (by rw [F.hL]; exact ocTb) (by rw [F.hL]; exact ocOk) (fun _ => hc) b p q kn q1 q2 x1 x2 y1 y2 v a1 a2 pv f1 f2 F.hO (by omega) (by omega) (by omega) (by omega) (by rw [F.hS]; decide) (by rw [F.hS]; decide)
  have h2 := rbat_Step (G := G) F hc r kn q1 q2 (v := v) pv f1 f2 w1 w2 A1 A2 A3 A4 v1 v2
  have W1 := p_wd F (v := v) (a1 := a1) (pv := pv) (f1 := f1) (kn := kn) (fr := f1) w1 A1 A2
  have W2 := p_wd F (v := v) (a1 := a1) (pv := pv) (f1 := f1) (kn := kn) (fr := f2) w2 A3 A4
  have VW := vt_wd (says := sIs c v pv f1) (a3 := sLo c oX oY v a1 pv f1) (b3 := sHi c oX oY v a1 pv f1) W1 W2 (fun s => sag_wd F.hL s)
  exact ⟨_, _, _, _, _, _, _, st_wd F.hC F.hD W1 VW, st_wd F.hC F.hD W2 VW, h1, h2⟩

theorem plays_new_true (c : Cfg) (F : Fx c) (a b : Int) (hab : a ≤ b) : ∃ L H, Wd L H ∧ (∀ kb k1 k2 : Nat, Ctr Tryd.prog G 57 [.agg ⟨c.cells⟩, .agg #[I64 (a), I64 (b)], .bool true] [(kb, .gone), (k1, .gone), (k2, .gone)] (.pointer (some ⟨kb, 0, none⟩)) [.cells (bat c k1 k2 (true) (L) (H)) 137, .cells (cnt_ c (L) (H)) 159, .cells (cnt_ c (L) (H)) 159]) ∧ ∀ kb : Nat, Ctr Tryd.prog G 58 [.agg ⟨c.cells⟩, .agg #[I64 (a), I64 (b)], .bool true] [(kb, .gone)] (.pointer (some ⟨kb, 0, none⟩)) [.cells (rbat c (L) (H) (L) (H) (L) (H) (true)) 82] := by
  have hC := F.hC
  refine ⟨mx (mn a c.Cap) 0, mx (mn b c.Cap) 0, ?_, fun kb k1 k2 => Bat_New_true c kb k1 k2 a b, fun kb => rbat_New_true c kb a b⟩
  rw [hC]; exact ⟨clip_in.1, clip_mono hab, clip_in.2⟩

theorem plays_new_false (c : Cfg) (F : Fx c) (a b : Int) (hab : a ≤ b) : ∃ L H, Wd L H ∧ (∀ kb k1 k2 : Nat, Ctr Tryd.prog G 57 [.agg ⟨c.cells⟩, .agg #[I64 (a), I64 (b)], .bool false] [(kb, .gone), (k1, .gone), (k2, .gone)] (.pointer (some ⟨kb, 0, none⟩)) [.cells (bat c k1 k2 (false) (L) (H)) 137, .cells (cnt_ c (L) (H)) 159, .cells (cnt_ c (L) (H)) 159]) ∧ ∀ kb : Nat, Ctr Tryd.prog G 58 [.agg ⟨c.cells⟩, .agg #[I64 (a), I64 (b)], .bool false] [(kb, .gone)] (.pointer (some ⟨kb, 0, none⟩)) [.cells (rbat c (L) (H) (L) (H) (L) (H) (false)) 82] := by
  have hC := F.hC
  refine ⟨0, 100000, by unfold Wd; omega, fun kb k1 k2 => bat_none c hC kb k1 k2 a b, fun kb => ?_⟩
  have h := rbat_New_false (G := G) c kb a b
  have e1 : mx (mn 0 c.Cap) 0 = 0 := by rw [hC]; decide
  have e2 : mx (mn c.Cap c.Cap) 0 = 100000 := by rw [hC]; decide
  rw [e1, e2] at h
  exact h
end Go.Proofs.YtlhhcongoplfpaaDoor
