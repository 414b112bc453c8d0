/- What functions of this program do, each as a contract that its callers use, and what follows of it in plain numbers.
   By an AI agent. -/
import Derived.Test.YtlhhcongoplfpaaDoorSHR
/-! Chapter 25's plain law: sums; no source is asked for more than it has; who is not wanted has no room. -/
namespace Go.Proofs.YtlhhcongoplfpaaDoor
set_option linter.unusedSimpArgs false
set_option linter.unusedVariables false
/-- A sum over the first ones. -/
def sumN (f : Nat → Int) : Nat → Int
  | 0 => 0
  | n + 1 => sumN f n + f n
theorem sum_le {f g : Nat → Int} : ∀ n : Nat, (∀ k, k < n → f k ≤ g k) → sumN f n ≤ sumN g n
  | 0, _ => Int.le_refl _
  | n + 1, h => by have := sum_le n (fun k hk => h k (by omega)); have := h n (by omega); simp only [sumN]; omega
theorem sum_eq {f g : Nat → Int} : ∀ n : Nat, (∀ k, k < n → f k = g k) → sumN f n = sumN g n
  | 0, _ => rfl
  | n + 1, h => by have := sum_eq n (fun k hk => h k (by omega)); have := h n (by omega); simp only [sumN]; omega
theorem sum_nonneg {f : Nat → Int} : ∀ n : Nat, (∀ k, k < n → 0 ≤ f k) → 0 ≤ sumN f n
  | 0, _ => Int.le_refl _
  | n + 1, h => by have := sum_nonneg n (fun k hk => h k (by omega)); have := h n (by omega); simp only [sumN]; omega
theorem sum_bound {f : Nat → Int} {b : Int} : ∀ n : Nat, (∀ k, k < n → f k ≤ b) → sumN f n ≤ n * b
  | 0, _ => by simp [sumN]
  | n + 1, h => by
    have := sum_bound n (fun k hk => h k (by omega)); have := h n (by omega)
    simp only [sumN]
    rw [Int.natCast_succ, Int.add_mul, Int.one_mul]; omega
theorem sum_one {f g : Nat → Int} {j : Nat} {d : Int} : ∀ n : Nat, j < n → (∀ k, k ≠ j → f k = g k) → f j = g j + d → sumN f n = sumN g n + d
  | 0, h, _, _ => absurd h (Nat.not_lt_zero j)
  | n + 1, h, h1, h2 => by
    simp only [sumN]
    rcases Nat.lt_or_ge j n with hj | hj
    · rw [sum_one n hj h1 h2, h1 n (by omega)]; omega
    · obtain rfl : j = n := by omega
      rw [sum_eq j (fun k hk => h1 k (by omega)), h2]; omega
theorem sum_add {f g : Nat → Int} : ∀ n : Nat, sumN (fun k => f k + g k) n = sumN f n + sumN g n
  | 0 => rfl
  | n + 1 => by simp only [sumN]; rw [sum_add n]; omega
/-- What one asks of a source. -/
def askF (w : Nat) (src : Nat → Option Nat) (load : Nat → Int) (s : Nat) (k : Nat) : Int := if w.testBit k = true ∧ src k = some s then load k else 0
section
variable {ok : Nat → Bool} {pr : Nat → Int} {src : Nat → Option Nat} {load cap : Nat → Int}
theorem fAdd_small {a b : Int} (h1 : 0 ≤ a) (h2 : a ≤ 1000000000) (h3 : 0 ≤ b) (h4 : b ≤ 1000000000) : fAdd a b = a + b := by
  unfold fAdd
  rw [if_neg (show ¬ (b > 0 ∧ a > IntKind.i64.wrap (9223372036854775807 - b)) from by rintro ⟨_, h'⟩; rw [wrap_in (by omega) (by omega)] at h'; omega), if_neg (by rintro ⟨h', _⟩; omega), wrap_in (by omega) (by omega)]
/-- What holds of those that are taken so far. -/
structure TakeOk (src : Nat → Option Nat) (load cap : Nat → Int) (n : Nat) (A : List Nat) (st : (Nat → Int) × Nat) : Prop where
  sum : ∀ s, s < 4 → st.1 s = sumN (askF st.2 src load s) n
  le : ∀ s, s < 4 → st.1 s ≤ cap s
  bit : ∀ i, st.2.testBit i = true → i ∈ A ∧ ∃ s, src i = some s
theorem take_step (hl : ∀ k, 0 ≤ load k ∧ load k ≤ 1000000) (hc : ∀ s, 0 ≤ cap s ∧ cap s ≤ 1000000) (hs : ∀ k s, src k = some s → s < 4) {n : Nat} {A : List Nat} {st : (Nat → Int) × Nat} (h : TakeOk src load cap n A st) {k : Nat} (hk : k < n) (hn : k ∉ A) : TakeOk src load cap n (A ++ [k]) (wStep src load cap st k) := by
  have keep : TakeOk src load cap n (A ++ [k]) st := ⟨h.sum, h.le, fun i hi => ⟨by simp [(h.bit i hi).1], (h.bit i hi).2⟩⟩
  cases hk' : src k with
  | none => rw [wStep_none hk']; exact keep
  | some t =>
    by_cases hle : fAdd (st.1 t) (load k) ≤ cap t
    · have ht := hs k t hk'
      have hb : st.2.testBit k = false := by
        cases hb : st.2.testBit k with
        | false => rfl
        | true => exact absurd (h.bit k hb).1 hn
      have s0 : 0 ≤ st.1 t := by
        rw [h.sum t ht]
        exact sum_nonneg n (fun i _ => by unfold askF; split; exact (hl i).1; exact Int.le_refl _)
      have fa := fAdd_small s0 (by have := h.le t ht; have := hc t; omega) (hl k).1 (by have := (hl k).2; omega)
      rw [wStep_yes hk' hle]
      have bits : ∀ i, (st.2 ||| 2 ^ k).testBit i = (st.2.testBit i || decide (k = i)) := fun i => by rw [Nat.testBit_or, Nat.testBit_two_pow]
      refine ⟨fun s h4 => ?_, fun s h4 => ?_, fun i hi => ?_⟩
      · show (if s = t then _ else st.1 s) = sumN (askF (st.2 ||| 2 ^ k) src load s) n
        by_cases e : s = t
        · subst e
          rw [if_pos rfl, fa, h.sum s h4]
          refine (sum_one n hk (fun i hi => ?_) ?_).symm
          · unfold askF; rw [bits, decide_eq_false (fun e => hi e.symm), Bool.or_false]
          · unfold askF; rw [bits, hb, decide_eq_true rfl, if_pos ⟨rfl, hk'⟩, if_neg (by rintro ⟨h, _⟩; cases h)]; omega
        · rw [if_neg e, h.sum s h4]
          refine sum_eq n (fun i _ => ?_)
          unfold askF
          by_cases hi : k = i
          · subst hi
            rw [if_neg, if_neg]
            · rintro ⟨_, h⟩; rw [hk'] at h; exact e (Option.some.inj h).symm
            · rintro ⟨_, h⟩; rw [hk'] at h; exact e (Option.some.inj h).symm
          · rw [bits, decide_eq_false hi, Bool.or_false]
      · show (if s = t then _ else st.1 s) ≤ cap s
        by_cases e : s = t
        · subst e; rw [if_pos rfl]; exact hle
        · rw [if_neg e]; exact h.le s h4
      · have hi : (st.2 ||| 2 ^ k).testBit i = true := hi
        rw [bits, Bool.or_eq_true] at hi
        rcases hi with hi | hi
        · exact ⟨by simp [(h.bit i hi).1], (h.bit i hi).2⟩
        · obtain rfl := of_decide_eq_true hi
          exact ⟨by simp, t, hk'⟩
    · rw [wStep_no hk' hle]; exact keep
theorem take_fold (hl : ∀ k, 0 ≤ load k ∧ load k ≤ 1000000) (hc : ∀ s, 0 ≤ cap s ∧ cap s ≤ 1000000) (hs : ∀ k s, src k = some s → s < 4) {n : Nat} : ∀ (B A : List Nat) (st : (Nat → Int) × Nat), TakeOk src load cap n A st → (∀ k ∈ B, k < n) → (A ++ B).Nodup → TakeOk src load cap n (A ++ B) (B.foldl (wStep src load cap) st)
  | [], A, st, h, _, _ => by simpa using h
  | k :: B, A, st, h, hk, hn => by
    have e : A ++ k :: B = (A ++ [k]) ++ B := by simp
    rw [e] at hn ⊢
    refine take_fold hl hc hs B (A ++ [k]) _ (take_step hl hc hs h (hk k (by simp)) ?_) (fun i hi => hk i (by simp [hi])) hn
    have := (List.nodup_append.1 hn).1
    rw [List.nodup_append] at this
    exact fun hm => this.2.2 k hm k (by simp) rfl
theorem take_0 (hc : ∀ s, 0 ≤ cap s ∧ cap s ≤ 1000000) (n : Nat) : TakeOk src load cap n [] (fun _ => 0, 0) := by
  refine ⟨fun s h4 => ?_, fun s h4 => (hc s).1, fun i hi => ?_⟩
  · refine ((sum_eq n (g := fun _ => 0) (fun i _ => ?_)).trans ?_).symm
    · unfold askF; rw [if_neg]; simp
    · induction n with
      | zero => rfl
      | succ n ih => simp only [sumN]; rw [ih]; rfl
  · have hi : (0 : Nat).testBit i = true := hi
    simp at hi
/-- Those that come earlier rank less, or as much and stand further left. -/
abbrev dearer (pr : Nat → Int) (a b : Nat) : Prop := pr a < pr b ∨ (pr a = pr b ∧ a < b)
theorem cat_sorted (pr : Nat → Int) (ok : Nat → Bool) (n : Nat) : (catF pr (ordN ok n)).Pairwise (dearer pr) := by
  rw [ord_filter]
  have one : ∀ p : Int, (((List.range n).filter ok).filter (fun k => decide (pr k = p))).Pairwise (dearer pr) := fun p => by
    have h : ((List.range n).filter ok).Pairwise (· < ·) := List.Pairwise.filter _ List.pairwise_lt_range
    have h2 : (((List.range n).filter ok).filter (fun k => decide (pr k = p))).Pairwise (· < ·) := List.Pairwise.filter _ h
    refine List.Pairwise.imp_of_mem (fun ha hb hab => ?_) h2
    have e1 := of_decide_eq_true (List.mem_filter.1 ha).2
    have e2 := of_decide_eq_true (List.mem_filter.1 hb).2
    exact .inr ⟨by rw [e1, e2], hab⟩
  have mem : ∀ (p : Int) (a : Nat), a ∈ ((List.range n).filter ok).filter (fun k => decide (pr k = p)) → pr a = p := fun p a h => of_decide_eq_true (List.mem_filter.1 h).2
  unfold catF
  rw [List.pairwise_append, List.pairwise_append, List.pairwise_append]
  refine ⟨one 0, ⟨one 1, ⟨one 2, one 3, fun a ha b hb => ?_⟩, fun a ha b hb => ?_⟩, fun a ha b hb => ?_⟩
  · have := mem _ a ha; have := mem _ b hb; exact .inl (by omega)
  · have := mem _ a ha
    rcases List.mem_append.1 hb with hb | hb <;> (have := mem _ b hb; exact .inl (by omega))
  · have := mem _ a ha
    rcases List.mem_append.1 hb with hb | hb
    · have := mem _ b hb; exact .inl (by omega)
    · rcases List.mem_append.1 hb with hb | hb <;> (have := mem _ b hb; exact .inl (by omega))
theorem dearer_irr {pr : Nat → Int} {a b : Nat} (h : dearer pr a b) : a ≠ b := by
  rintro rfl; unfold dearer at h; omega
theorem cat_nodup (pr : Nat → Int) (ok : Nat → Bool) (n : Nat) : (catF pr (ordN ok n)).Nodup := List.Pairwise.imp dearer_irr (cat_sorted pr ok n)
/-- What a source is asked for by those that are dearer than one. -/
def dearF (w : Nat) (src : Nat → Option Nat) (load : Nat → Int) (pr : Nat → Int) (s j : Nat) (k : Nat) : Int := if w.testBit k = true ∧ src k = some s ∧ dearer pr k j then load k else 0
structure WantOk (ok : Nat → Bool) (pr : Nat → Int) (src : Nat → Option Nat) (load cap : Nat → Int) (n w : Nat) : Prop where
  lt : w < 2 ^ n
  le : ∀ s, s < 4 → sumN (askF w src load s) n ≤ cap s
  bit : ∀ i, w.testBit i = true → i < n ∧ ok i = true ∧ ∃ s, src i = some s
  room : ∀ i s, i < n → ok i = true → src i = some s → w.testBit i = false → ∀ d : Int, d = sumN (dearF w src load pr s i) n → cap s < d + load i
theorem wantOk (hk : ∀ k, 0 ≤ pr k ∧ pr k ≤ 3) (hl : ∀ k, 0 ≤ load k ∧ load k ≤ 1000000) (hc : ∀ s, 0 ≤ cap s ∧ cap s ≤ 1000000) (hs : ∀ k s, src k = some s → s < 4) (n : Nat) :
    WantOk ok pr src load cap n (wantL src load cap (sortN pr (ordN ok n))).2 := by
  rw [sort_cat hk]
  have hlt : ∀ k ∈ catF pr (ordN ok n), k < n := fun k h => ord_lt ok n k (cat_mem h)
  have hok : ∀ k ∈ catF pr (ordN ok n), ok k = true := fun k h => by
    have := cat_mem h
    rw [ord_filter] at this
    exact (List.mem_filter.1 this).2
  have hnd := cat_nodup pr ok n
  have hsd := cat_sorted pr ok n
  have T := take_fold hl hc hs (catF pr (ordN ok n)) [] (fun _ => 0, 0) (take_0 hc n) hlt (by simpa using hnd)
  have hin : ∀ k, k < n → ok k = true → k ∈ catF pr (ordN ok n) := fun k h1 h2 => by
    have hm : k ∈ ordN ok n := by rw [ord_filter]; exact List.mem_filter.2 ⟨List.mem_range.2 h1, h2⟩
    have := hk k
    have hx : pr k = 0 ∨ pr k = 1 ∨ pr k = 2 ∨ pr k = 3 := by omega
    unfold catF
    simp only [List.mem_append, List.mem_filter]
    rcases hx with h | h | h | h
    · exact .inl ⟨hm, decide_eq_true h⟩
    · exact .inr (.inl ⟨hm, decide_eq_true h⟩)
    · exact .inr (.inr (.inl ⟨hm, decide_eq_true h⟩))
    · exact .inr (.inr (.inr ⟨hm, decide_eq_true h⟩))
  unfold wantL
  generalize catF pr (ordN ok n) = ord at *
  refine ⟨fold_lt ord _ (Nat.two_pow_pos n) hlt, fun s h4 => ?_, fun i hi => ?_, fun i s hi ho hsi hb d hd => ?_⟩
  · rw [← T.sum s h4]; exact T.le s h4
  · obtain ⟨hm, r⟩ := T.bit i hi
    have hm : i ∈ ord := by simpa using hm
    exact ⟨hlt i hm, hok i hm, r⟩
  · obtain ⟨A, B, rfl⟩ := List.append_of_mem (hin i hi ho)
    have TA := take_fold hl hc hs A [] (fun _ => 0, 0) (take_0 hc n) (fun k h => hlt k (by simp [h])) (by rw [List.nodup_append] at hnd; simpa using hnd.1)
    rw [List.foldl_append, List.foldl_cons] at hb
    rw [List.foldl_append, List.foldl_cons] at hd
    generalize A.foldl (wStep src load cap) (fun _ => 0, 0) = st at TA hb hd
    have h4 := hs i s hsi
    have hno : ¬ fAdd (st.1 s) (load i) ≤ cap s := fun hle => by
      rw [wStep_yes hsi hle] at hb
      have : (B.foldl (wStep src load cap) (fun j => if j = s then fAdd (st.1 s) (load i) else st.1 j, st.2 ||| 2 ^ i)).2.testBit i = true := fold_more i B _ (by
        show (st.2 ||| 2 ^ i).testBit i = true
        rw [Nat.testBit_or, Nat.testBit_two_pow, decide_eq_true rfl, Bool.or_true])
      rw [this] at hb; cases hb
    rw [wStep_no hsi hno] at hd
    have s0 : 0 ≤ st.1 s := by
      rw [TA.sum s h4]
      exact sum_nonneg n (fun i _ => by unfold askF; split; exact (hl i).1; exact Int.le_refl _)
    rw [fAdd_small s0 (by have := TA.le s h4; have := hc s; omega) (hl i).1 (by have := (hl i).2; omega)] at hno
    have hle : st.1 s ≤ d := by
      rw [TA.sum s h4, hd]
      refine sum_le n (fun k _ => ?_)
      unfold askF dearF
      by_cases h : st.2.testBit k = true ∧ src k = some s
      · have hA : k ∈ A := by simpa using (TA.bit k h.1).1
        have hdk : dearer pr k i := (List.pairwise_append.1 hsd).2.2 k hA i (by simp)
        rw [if_pos h, if_pos ⟨fold_more k B _ h.1, h.2, hdk⟩]
        exact Int.le_refl _
      · rw [if_neg h]
        split
        · exact (hl k).1
        · exact Int.le_refl _
    omega
end
end Go.Proofs.YtlhhcongoplfpaaDoor
