/- What functions of this program do, each as a contract that its callers use.
   By an AI agent. -/
import Derived.Test.YtlhhcongoplfpaaDoorABU
import Derived.Scope
/-! A scope with labels, and jumps back to them. -/
namespace Go.Proofs.YtlhhcongoplfpaaDoorAB
open Go
/-- By a goto: J of its label; else Q. -/
def jmp (J : Nat → T → H → Prop) (Q : Exit → T → H → Prop) : Exit → T → H → Prop
  | .goto l, t, h => J l t h
  | e, t, h => Q e t h
def Exit.jmpA (J : Nat → Act → World → Prop) (Q : Exit → Act → World → Prop) : Exit → Act → World → Prop
  | .goto l, a, w => J l a w
  | e, a, w => Q e a w
section
variable {P : Program} {G : Nat} {Q : Exit → T → H → Prop} {t : T} {h : H}
theorem scope_rel {c : Code} {Q : Exit → Act → World → Prop} {a : Act} {w : World} (J : Nat → Nat → Act → World → Prop) (first : c.wp P (Exit.jmpA (fun l a' w' => ∃ m, J l m a' w') Q) a w)
    (pass : ∀ l m a w, J l m a w → ∃ rest, findLabel c l = some rest ∧ rest.wp P (Exit.jmpA (fun l' a' w' => ∃ m', m' < m ∧ J l' m' a' w') Q) a w) : (Code.scope c).wp P Q a w := by
  intro b k cs
  have hg : ∀ l rest, findLabel c l = some rest → gotoIn l (.inScope c :: k) = some (.code rest :: .inScope c :: k) := fun l rest hf => by simp [gotoIn, hf]
  have key : ∀ m l a w, J l m a w → ∃ rest, findLabel c l = some rest ∧ ∃ e a' w', Q e a' w' ∧ Arrives P (lone (b.at a (.code rest :: .inScope c :: k)) cs w) b k cs e a' w' := by
    intro m
    induction m using Nat.strongRecOn with
    | _ m ih =>
      intro l a w hJ
      obtain ⟨rest, hf, hp⟩ := pass l m a w hJ
      refine ⟨rest, hf, ?_⟩
      obtain ⟨e, a₁, w₁, hq, harr⟩ := hp b (.inScope c :: k) cs
      cases e with
      | normal => exact ⟨.normal, a₁, w₁, hq, Steps.trans harr (.one step_inScope)⟩
      | exit id => exact ⟨.exit id, a₁, w₁, hq, fun k' hk => harr k' (by simp [exitTo, hk])⟩
      | goto l' =>
        obtain ⟨m', hlt, hJ'⟩ := hq
        obtain ⟨rest', hf', e₂, a₂, w₂, hq₂, harr₂⟩ := ih m' hlt l' a₁ w₁ hJ'
        exact ⟨e₂, a₂, w₂, hq₂, .of_steps (harr _ (hg _ _ hf')) harr₂⟩
      | ret => exact ⟨_, a₁, w₁, hq, harr⟩
      | panic ch => exact ⟨_, a₁, w₁, hq, harr⟩
      | outgrown => exact ⟨_, a₁, w₁, hq, harr⟩
  obtain ⟨e, a₁, w₁, hq, harr⟩ := first b (.inScope c :: k) cs
  cases e with
  | normal => exact ⟨.normal, a₁, w₁, hq, .head step_scope (Steps.trans harr (.one step_inScope))⟩
  | exit id => exact ⟨.exit id, a₁, w₁, hq, fun k' hk => .head step_scope (harr k' (by simp [exitTo, hk]))⟩
  | goto l' =>
    obtain ⟨m, hJ'⟩ := hq
    obtain ⟨rest', hf', e₂, a₂, w₂, hq₂, harr₂⟩ := key m l' a₁ w₁ hJ'
    exact ⟨e₂, a₂, w₂, hq₂, .of_steps (.head step_scope (harr _ (hg _ _ hf'))) harr₂⟩
  | ret => exact ⟨_, a₁, w₁, hq, .of_steps (.one step_scope) harr⟩
  | panic ch => exact ⟨_, a₁, w₁, hq, .of_steps (.one step_scope) harr⟩
  | outgrown => exact ⟨_, a₁, w₁, hq, .of_steps (.one step_scope) harr⟩
/-- A scope: I says the state at each of its labels; a number falls at every jump. -/
theorem WP.scope {c : Code} (I : Nat → Nat → T → H → Prop) (first : WP P G c t h (jmp (fun l t' h' => ∃ m, I l m t' h') Q))
    (pass : ∀ l m t h, I l m t h → ∃ rest, findLabel c l = some rest ∧ WP P G rest t h (jmp (fun l' t' h' => ∃ m', m' < m ∧ I l' m' t' h') Q)) : WP P G (.scope c) t h Q := by
  unfold WP at first pass ⊢
  intro ρ a w R s f
  refine scope_rel (fun l m a' w' => ∃ t' h' ρ', I l m t' h' ∧ St G ρ' t' h' a' w' ∧ Stp ρ h w ρ' h' w' ∧ Free ρ' h' R) ?_ ?_
  · refine wp_mono (first ρ a w R s f) fun e a2 w2 ⟨t2, h2, ρ2, q, r⟩ => ?_
    cases e with
    | goto l =>
      obtain ⟨m, hI⟩ := q
      exact ⟨m, t2, h2, ρ2, hI, r⟩
    | _ => exact ⟨t2, h2, ρ2, q, r⟩
  · rintro l m a1 w1 ⟨t1, h1, ρ1, hI, s1, st1, f1⟩
    obtain ⟨rest, hf, hp⟩ := pass l m t1 h1 hI
    refine ⟨rest, hf, wp_mono (hp ρ1 a1 w1 R s1 f1) fun e a2 w2 ⟨t2, h2, ρ2, q, s2, st2, f2⟩ => ?_⟩
    cases e with
    | goto l' =>
      obtain ⟨m', hlt, hI'⟩ := q
      exact ⟨m', hlt, t2, h2, ρ2, hI', s2, st1.trans st2, f2⟩
    | _ => exact ⟨t2, h2, ρ2, q, s2, st1.trans st2, f2⟩
variable {J : Nat → T → H → Prop}
theorem jmp_n (k : Q .normal t h) : jmp J Q .normal t h := k
theorem jmp_r (k : Q .ret t h) : jmp J Q .ret t h := k
theorem jmp_e {i : Nat} (k : Q (.exit i) t h) : jmp J Q (.exit i) t h := k
theorem jmp_g {l : Nat} (k : J l t h) : jmp J Q (.goto l) t h := k
end
attribute [irreducible] jmp
end Go.Proofs.YtlhhcongoplfpaaDoorAB
