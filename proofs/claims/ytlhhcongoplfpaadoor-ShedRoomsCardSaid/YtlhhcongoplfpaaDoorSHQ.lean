/- What functions of this program do, each as a contract that its callers use, and what follows of it in plain numbers.
   By an AI agent. -/
import Derived.Test.YtlhhcongoplfpaaDoorSHP
import Derived.Test.YtlhhcongoplfpaaDoorDLO
/-! Chapter 25's plain law: who is taken. -/
namespace Go.Proofs.YtlhhcongoplfpaaDoor
set_option linter.unusedSimpArgs false
set_option linter.unusedVariables false
/-- One more is wanted, if its source has room. -/
def wStep (src : Nat → Option Nat) (load cap : Nat → Int) (st : (Nat → Int) × Nat) (k : Nat) : (Nat → Int) × Nat :=
  match src k with
  | none => st
  | some s => if fAdd (st.1 s) (load k) ≤ cap s then (fun i => if i = s then fAdd (st.1 s) (load k) else st.1 i, st.2 ||| 2 ^ k) else st
def wantL (src : Nat → Option Nat) (load cap : Nat → Int) (ord : List Nat) : (Nat → Int) × Nat := ord.foldl (wStep src load cap) (fun _ => 0, 0)
/-- The same, of one source alone. -/
def oStep (src : Nat → Option Nat) (load cap : Nat → Int) (s : Nat) (st : Int × Nat) (k : Nat) : Int × Nat := if src k = some s ∧ fAdd st.1 (load k) ≤ cap s then (fAdd st.1 (load k), st.2 ||| 2 ^ k) else st
section
variable {src : Nat → Option Nat} {load cap : Nat → Int}
theorem wStep_none {st : (Nat → Int) × Nat} {k : Nat} (h : src k = none) : wStep src load cap st k = st := by unfold wStep; rw [h]
theorem wStep_no {st : (Nat → Int) × Nat} {k s : Nat} (h : src k = some s) (hc : ¬ fAdd (st.1 s) (load k) ≤ cap s) : wStep src load cap st k = st := by
  unfold wStep; rw [h]; exact if_neg hc
theorem wStep_yes {st : (Nat → Int) × Nat} {k s : Nat} (h : src k = some s) (hc : fAdd (st.1 s) (load k) ≤ cap s) : wStep src load cap st k = (fun i => if i = s then fAdd (st.1 s) (load k) else st.1 i, st.2 ||| 2 ^ k) := by
  unfold wStep; rw [h]; exact if_pos hc
def or4 (a b c d : Nat) : Nat := a ||| b ||| c ||| d
theorem or4_0 (a b c d x : Nat) : or4 a b c d ||| x = or4 (a ||| x) b c d := by
  unfold or4; refine Nat.eq_of_testBit_eq fun i => ?_
  simp only [Nat.testBit_or]; cases a.testBit i <;> cases b.testBit i <;> cases c.testBit i <;> cases d.testBit i <;> cases x.testBit i <;> rfl
theorem or4_1 (a b c d x : Nat) : or4 a b c d ||| x = or4 a (b ||| x) c d := by
  unfold or4; refine Nat.eq_of_testBit_eq fun i => ?_
  simp only [Nat.testBit_or]; cases a.testBit i <;> cases b.testBit i <;> cases c.testBit i <;> cases d.testBit i <;> cases x.testBit i <;> rfl
theorem or4_2 (a b c d x : Nat) : or4 a b c d ||| x = or4 a b (c ||| x) d := by
  unfold or4; refine Nat.eq_of_testBit_eq fun i => ?_
  simp only [Nat.testBit_or]; cases a.testBit i <;> cases b.testBit i <;> cases c.testBit i <;> cases d.testBit i <;> cases x.testBit i <;> rfl
theorem or4_3 (a b c d x : Nat) : or4 a b c d ||| x = or4 a b c (d ||| x) := by
  unfold or4; refine Nat.eq_of_testBit_eq fun i => ?_
  simp only [Nat.testBit_or]; cases a.testBit i <;> cases b.testBit i <;> cases c.testBit i <;> cases d.testBit i <;> cases x.testBit i <;> rfl
/-- Sources do not know each other. -/
theorem fold_split (hs : ∀ k s, src k = some s → s < 4) : ∀ (ord : List Nat) (st : (Nat → Int) × Nat) (f : Nat → Int × Nat), (∀ s, st.1 s = (f s).1) → st.2 = or4 (f 0).2 (f 1).2 (f 2).2 (f 3).2 →
    (∀ s, (ord.foldl (wStep src load cap) st).1 s = (ord.foldl (oStep src load cap s) (f s)).1) ∧
    (ord.foldl (wStep src load cap) st).2 = or4 (ord.foldl (oStep src load cap 0) (f 0)).2 (ord.foldl (oStep src load cap 1) (f 1)).2 (ord.foldl (oStep src load cap 2) (f 2)).2 (ord.foldl (oStep src load cap 3) (f 3)).2
  | [], st, f, h1, h2 => ⟨h1, h2⟩
  | k :: ord, st, f, h1, h2 => by
    simp only [List.foldl_cons]
    refine fold_split hs ord _ (fun s => oStep src load cap s (f s) k) (fun s => ?_) ?_
    · cases hk : src k with
      | none => rw [wStep_none hk, h1]; unfold oStep; rw [if_neg (by rw [hk]; rintro ⟨h, _⟩; cases h)]
      | some t =>
        by_cases hc : fAdd (st.1 t) (load k) ≤ cap t
        · rw [wStep_yes hk hc]
          show (if s = t then _ else _) = _
          by_cases e : s = t
          · subst e
            rw [if_pos rfl]; unfold oStep; rw [← h1, if_pos ⟨hk, hc⟩]
          · rw [if_neg e, h1]; unfold oStep; rw [if_neg (by rw [hk]; rintro ⟨h, _⟩; exact e (Option.some.inj h).symm)]
        · rw [wStep_no hk hc, h1]; unfold oStep
          rw [if_neg]
          rintro ⟨h, h'⟩
          rw [hk] at h
          obtain rfl := Option.some.inj h
          exact hc (by rw [h1]; exact h')
    · cases hk : src k with
      | none =>
        have e : ∀ s, oStep src load cap s (f s) k = f s := fun s => by unfold oStep; rw [if_neg (by rw [hk]; rintro ⟨h, _⟩; cases h)]
        rw [wStep_none hk, h2]; simp only [e]
      | some t =>
        have ne : ∀ s, s ≠ t → oStep src load cap s (f s) k = f s := fun s h => by unfold oStep; rw [if_neg (by rw [hk]; rintro ⟨h', _⟩; exact h (Option.some.inj h').symm)]
        by_cases hc : fAdd (st.1 t) (load k) ≤ cap t
        · have ye : (oStep src load cap t (f t) k).2 = (f t).2 ||| 2 ^ k := by unfold oStep; rw [if_pos ⟨hk, by rw [← h1]; exact hc⟩]
          rw [wStep_yes hk hc]
          show st.2 ||| 2 ^ k = _
          rw [h2]
          have ht := hs k t hk
          match t, ht, ne, ye with
          | 0, _, ne, ye => rw [ne 1 (by decide), ne 2 (by decide), ne 3 (by decide), ye, or4_0]
          | 1, _, ne, ye => rw [ne 0 (by decide), ne 2 (by decide), ne 3 (by decide), ye, or4_1]
          | 2, _, ne, ye => rw [ne 0 (by decide), ne 1 (by decide), ne 3 (by decide), ye, or4_2]
          | 3, _, ne, ye => rw [ne 0 (by decide), ne 1 (by decide), ne 2 (by decide), ye, or4_3]
        · have e : ∀ s, oStep src load cap s (f s) k = f s := fun s => by
            by_cases h : s = t
            · subst h; unfold oStep; rw [if_neg (fun hh => hc (by rw [h1]; exact hh.2))]
            · exact ne s h
          rw [wStep_no hk hc, h2]; simp only [e]
/-- Who is wanted is one of those that may be, and is fed. -/
theorem fold_bit : ∀ (ord : List Nat) (st : (Nat → Int) × Nat) (i : Nat), (ord.foldl (wStep src load cap) st).2.testBit i = true → st.2.testBit i = true ∨ (i ∈ ord ∧ ∃ s, src i = some s)
  | [], st, i, h => .inl h
  | k :: ord, st, i, h => by
    rcases fold_bit ord _ i h with h | ⟨h, r⟩
    · cases hk : src k with
      | none => rw [wStep_none hk] at h; exact .inl h
      | some s =>
        by_cases hc : fAdd (st.1 s) (load k) ≤ cap s
        · rw [wStep_yes hk hc] at h
          have h : (st.2 ||| 2 ^ k).testBit i = true := h
          rw [Nat.testBit_or, Bool.or_eq_true, Nat.testBit_two_pow] at h
          rcases h with h | h
          · exact .inl h
          · obtain rfl : k = i := of_decide_eq_true h
            exact .inr ⟨by simp, s, hk⟩
        · rw [wStep_no hk hc] at h; exact .inl h
    · exact .inr ⟨by simp [h], r⟩
theorem want_bit {ord : List Nat} {i : Nat} (h : (wantL src load cap ord).2.testBit i = true) : i ∈ ord ∧ ∃ s, src i = some s := by
  rcases fold_bit ord _ i h with h | h
  · simp at h
  · exact h
/-- More that may be wanted behind: none is wanted less. -/
theorem fold_more (k : Nat) : ∀ (ord : List Nat) (st : (Nat → Int) × Nat), st.2.testBit k = true → (ord.foldl (wStep src load cap) st).2.testBit k = true
  | [], st, h => h
  | x :: ord, st, h => by
    refine fold_more k ord _ ?_
    cases hk : src x with
    | none => rw [wStep_none hk]; exact h
    | some s =>
      by_cases hc : fAdd (st.1 s) (load x) ≤ cap s
      · rw [wStep_yes hk hc]; show (st.2 ||| 2 ^ x).testBit k = true
        rw [Nat.testBit_or, h]; rfl
      · rw [wStep_no hk hc]; exact h
theorem fold_lt {n : Nat} : ∀ (ord : List Nat) (st : (Nat → Int) × Nat), st.2 < 2 ^ n → (∀ k ∈ ord, k < n) → (ord.foldl (wStep src load cap) st).2 < 2 ^ n
  | [], st, h, _ => h
  | x :: ord, st, h, ho => by
    refine fold_lt ord _ ?_ (fun k hk => ho k (by simp [hk]))
    have hx := ho x (by simp)
    cases hk : src x with
    | none => rw [wStep_none hk]; exact h
    | some s =>
      by_cases hc : fAdd (st.1 s) (load x) ≤ cap s
      · rw [wStep_yes hk hc]; show st.2 ||| 2 ^ x < 2 ^ n
        exact Nat.or_lt_two_pow h (Nat.pow_lt_pow_right (by decide) hx)
      · rw [wStep_no hk hc]; exact h
end
end Go.Proofs.YtlhhcongoplfpaaDoor
