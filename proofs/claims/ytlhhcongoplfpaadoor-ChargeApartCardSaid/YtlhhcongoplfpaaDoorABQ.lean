/- What functions of this program do, each as a contract that its callers use.
   By an AI agent. -/
import Derived.Test.YtlhhcongoplfpaaDoorABW
/-! Loops of few rounds, unrolled; a state told anew between two parts of a code. -/
namespace Go.Proofs.YtlhhcongoplfpaaDoorAB
open Go
set_option linter.unusedVariables false
section
variable {P : Program} {G : Nat} {Q : Exit → T → H → Prop} {t : T} {h : H}
theorem thn_mono {K K' : T → H → Prop} (k : ∀ t h, K t h → K' t h) {e : Exit} (q : thn K Q e t h) : thn K' Q e t h := by
  unfold thn at q ⊢
  cases e with
  | normal => exact k _ _ q
  | _ => exact q
/-- So many rounds at most are left. -/
def loopW (P : Program) (G : Nat) (c : Code) (Q : Exit → T → H → Prop) : Nat → T → H → Prop
  | 0, _, _ => False
  | m + 1, t, h => WP P G c t h (thn (fun t' h' => loopW P G c Q m t' h') Q)
theorem loopW_s {c : Code} {m : Nat} (k : WP P G c t h (thn (fun t' h' => loopW P G c Q m t' h') Q)) : loopW P G c Q (m + 1) t h := k
theorem WP.unroll {c : Code} (n : Nat) (k : loopW P G c Q n t h) : WP P G (.loop c) t h Q :=
  WP.loop (fun m t h => loopW P G c Q m t h) k fun m t h hI => by
    cases m with
    | zero => exact hI.elim
    | succ m => exact WP.mono (fun e t h q => thn_mono (fun t h x => ⟨m, Nat.lt_succ_self m, x⟩) q) hI
/-- A code, and what is said behind it. -/
theorem WP.seqW {a b : Code} {n : Nat} (s : As) (hh : H) (first : WP P G a t h (thn (fun t' h' => Wk t' h' (mkT n s) hh) Q)) (second : WP P G b (mkT n s) hh Q) : WP P G (.seq a b) t h Q :=
  WP.seq (WP.mono (fun e t h q => thn_mono (fun t h x => WP.weak x second) q) first)
end
attribute [irreducible] loopW
end Go.Proofs.YtlhhcongoplfpaaDoorAB
