/- What functions of this program do, each as a contract that its callers use, and what follows of it in plain numbers.
   By an AI agent. -/
/-! Chapter 25's plain law: sorting by rank; taking from sources. -/
namespace Go.Proofs.YtlhhcongoplfpaaDoor
set_option linter.unusedSimpArgs false
set_option linter.unusedVariables false
/-- Two neighbours change places. -/
def swp (L : List Nat) (j : Nat) : List Nat := (L.set (j + 1) (L.getD j 0)).set j (L.getD (j + 1) 0)
/-- One sinks to its place. -/
def sinkN (key : Nat → Int) : Nat → List Nat → List Nat
  | 0, L => L
  | j + 1, L => if key (L.getD (j + 1) 0) < key (L.getD j 0) then sinkN key j (swp L j) else L
/-- So many are sorted. -/
def isN (key : Nat → Int) (L : List Nat) : Nat → List Nat
  | 0 => L
  | i + 1 => sinkN key (i + 1) (isN key L i)
theorem getD_mid0 (a : Nat) (R : List Nat) : ∀ P : List Nat, (P ++ a :: R).getD P.length 0 = a
  | [] => rfl
  | p :: P => by
    simp
theorem getD_mid1 (a b : Nat) (R : List Nat) : ∀ P : List Nat, (P ++ a :: b :: R).getD (P.length + 1) 0 = b
  | [] => rfl
  | p :: P => by
    simp
theorem swp_mid (a b : Nat) (R : List Nat) : ∀ P : List Nat, swp (P ++ a :: b :: R) P.length = P ++ b :: a :: R := by
  intro P
  unfold swp
  rw [getD_mid0, getD_mid1]
  induction P with
  | nil => rfl
  | cons p P ih => simp
theorem sink_mid (key : Nat → Int) (x : Nat) : ∀ (B A R : List Nat), (∀ a ∈ A, key a ≤ key x) → (∀ b ∈ B, key x < key b) →
    sinkN key (A.length + B.length) (A ++ (B.reverse ++ x :: R)) = A ++ x :: (B.reverse ++ R)
  | [], A, R, hA, _ => by
    rcases List.eq_nil_or_concat A with rfl | ⟨A', a, rfl⟩
    · rfl
    · rw [List.concat_eq_append] at *
      have e : (A' ++ [a] ++ (([] : List Nat).reverse ++ x :: R)) = A' ++ a :: x :: R := by simp
      have e2 : (A' ++ [a]).length + ([] : List Nat).length = A'.length + 1 := by simp
      rw [e2, e]
      show (if key ((A' ++ a :: x :: R).getD (A'.length + 1) 0) < key ((A' ++ a :: x :: R).getD A'.length 0) then _ else A' ++ a :: x :: R) = _
      rw [getD_mid0, getD_mid1, if_neg (by have := hA a (by simp); omega)]
      simp
  | b :: B, A, R, hA, hB => by
    have e : A ++ ((b :: B).reverse ++ x :: R) = (A ++ B.reverse) ++ b :: x :: R := by simp
    have e2 : A.length + (b :: B).length = (A ++ B.reverse).length + 1 := by simp; omega
    rw [e2, e]
    show (if key (((A ++ B.reverse) ++ b :: x :: R).getD ((A ++ B.reverse).length + 1) 0) < key (((A ++ B.reverse) ++ b :: x :: R).getD (A ++ B.reverse).length 0) then sinkN key (A ++ B.reverse).length (swp ((A ++ B.reverse) ++ b :: x :: R) (A ++ B.reverse).length) else _) = _
    rw [getD_mid0, getD_mid1, if_pos (hB b (by simp)), swp_mid]
    have ih := sink_mid key x B A (b :: R) hA (fun b' h => hB b' (by simp [h]))
    have e3 : (A ++ B.reverse).length = A.length + B.length := by simp
    rw [e3]
    rw [List.append_assoc]
    rw [ih]
    simp
/-- Those of the first rank, of the second, .. -/
def catF (key : Nat → Int) (L : List Nat) : List Nat := L.filter (fun k => decide (key k = 0)) ++ (L.filter (fun k => decide (key k = 1)) ++ (L.filter (fun k => decide (key k = 2)) ++ L.filter (fun k => decide (key k = 3))))
theorem cat_len {key : Nat → Int} (hk : ∀ k, 0 ≤ key k ∧ key k ≤ 3) : ∀ L : List Nat, (catF key L).length = L.length
  | [] => rfl
  | x :: L => by
    have ih := cat_len hk L
    have h := hk x
    unfold catF at ih ⊢
    simp only [List.length_append, List.length_cons] at ih ⊢
    have hx : key x = 0 ∨ key x = 1 ∨ key x = 2 ∨ key x = 3 := by omega
    rcases hx with h | h | h | h <;> simp [List.filter_cons, h] <;> omega
theorem sink_cat {key : Nat → Int} (hk : ∀ k, 0 ≤ key k ∧ key k ≤ 3) (P : List Nat) (x : Nat) (R : List Nat) : sinkN key P.length (catF key P ++ x :: R) = catF key (P ++ [x]) ++ R := by
  have hl := cat_len hk P
  have hx := hk x
  have mid : ∀ A B : List Nat, catF key P = A ++ B → (∀ a ∈ A, key a ≤ key x) → (∀ b ∈ B, key x < key b) → sinkN key P.length (catF key P ++ x :: R) = A ++ x :: (B ++ R) := by
    intro A B e hA hB
    have := sink_mid key x B.reverse A R hA (fun b hb => hB b (by simpa using hb))
    rw [List.reverse_reverse, List.length_reverse] at this
    rw [← hl, e, List.length_append, List.append_assoc]
    exact this
  have hx : key x = 0 ∨ key x = 1 ∨ key x = 2 ∨ key x = 3 := by omega
  have ins : ∀ (p : Int) (a : Nat), a ∈ P.filter (fun k => decide (key k = p)) → key a = p := fun p a h => by simpa using (List.mem_filter.1 h).2
  rcases hx with h | h | h | h
  · rw [mid (P.filter (fun k => decide (key k = 0))) _ rfl (fun a ha => by have := ins _ a ha; omega) (fun b hb => by
      simp only [List.mem_append] at hb
      rcases hb with hb | hb | hb <;> (have := ins _ b hb; omega))]
    simp [catF, List.filter_append, List.filter_cons, h]
  · rw [mid (P.filter (fun k => decide (key k = 0)) ++ P.filter (fun k => decide (key k = 1))) (P.filter (fun k => decide (key k = 2)) ++ P.filter (fun k => decide (key k = 3))) (by simp [catF]) (fun a ha => by
      simp only [List.mem_append] at ha
      rcases ha with ha | ha <;> (have := ins _ a ha; omega)) (fun b hb => by
      simp only [List.mem_append] at hb
      rcases hb with hb | hb <;> (have := ins _ b hb; omega))]
    simp [catF, List.filter_append, List.filter_cons, h]
  · rw [mid (P.filter (fun k => decide (key k = 0)) ++ (P.filter (fun k => decide (key k = 1)) ++ P.filter (fun k => decide (key k = 2)))) (P.filter (fun k => decide (key k = 3))) (by simp [catF]) (fun a ha => by
      simp only [List.mem_append] at ha
      rcases ha with ha | ha | ha <;> (have := ins _ a ha; omega)) (fun b hb => by
      have := ins _ b hb; omega)]
    simp [catF, List.filter_append, List.filter_cons, h]
  · rw [mid (catF key P) [] (by simp) (fun a ha => by
      simp only [catF, List.mem_append] at ha
      rcases ha with ha | ha | ha | ha <;> (have := ins _ a ha; omega)) (fun b hb => by cases hb)]
    simp [catF, List.filter_append, List.filter_cons, h]
theorem is_cat {key : Nat → Int} (hk : ∀ k, 0 ≤ key k ∧ key k ≤ 3) (L : List Nat) : ∀ i : Nat, i < L.length → isN key L i = catF key (L.take (i + 1)) ++ L.drop (i + 1)
  | 0, h => by
    match L, h with
    | x :: L, _ =>
      have hx := hk x
      have hx : key x = 0 ∨ key x = 1 ∨ key x = 2 ∨ key x = 3 := by omega
      rcases hx with h | h | h | h <;> simp [isN, catF, h]
  | i + 1, h => by
    have ih := is_cat hk L i (by omega)
    have hd : L.drop (i + 1) = L[i + 1] :: L.drop (i + 2) := by rw [List.drop_eq_getElem_cons (by omega)]
    have ht : L.take (i + 2) = L.take (i + 1) ++ [L[i + 1]] := by rw [List.take_succ_eq_append_getElem (by omega)]
    show sinkN key (i + 1) (isN key L i) = _
    have hl : (L.take (i + 1)).length = i + 1 := by rw [List.length_take]; omega
    have := sink_cat hk (L.take (i + 1)) (L[i + 1]) (L.drop (i + 2))
    rw [hl] at this
    rw [ih, hd, this, ← ht]
/-- Sorted. -/
def sortN (key : Nat → Int) (L : List Nat) : List Nat := isN key L (L.length - 1)
theorem sort_cat {key : Nat → Int} (hk : ∀ k, 0 ≤ key k ∧ key k ≤ 3) (L : List Nat) : sortN key L = catF key L := by
  unfold sortN
  match L with
  | [] => rfl
  | x :: L =>
    have := is_cat hk (x :: L) L.length (by simp)
    rw [show (x :: L).length - 1 = L.length by simp, this]
    simp
theorem swp_len (L : List Nat) (j : Nat) : (swp L j).length = L.length := by simp [swp]
theorem sink_len (key : Nat → Int) : ∀ (j : Nat) (L : List Nat), (sinkN key j L).length = L.length
  | 0, L => rfl
  | j + 1, L => by
    unfold sinkN; split
    · rw [sink_len key j, swp_len]
    · rfl
theorem is_len (key : Nat → Int) (L : List Nat) : ∀ i : Nat, (isN key L i).length = L.length
  | 0 => rfl
  | i + 1 => by rw [isN, sink_len, is_len key L i]
/-- Those that may be wanted, of the first ones. -/
def ordN (c : Nat → Bool) : Nat → List Nat
  | 0 => []
  | i + 1 => if c i = true then ordN c i ++ [i] else ordN c i
theorem ord_filter (c : Nat → Bool) : ∀ n : Nat, ordN c n = (List.range n).filter c
  | 0 => rfl
  | n + 1 => by
    rw [List.range_succ, List.filter_append, ← ord_filter c n, ordN]
    cases h : c n <;> simp [h]
theorem ord_lt (c : Nat → Bool) (n : Nat) : ∀ k ∈ ordN c n, k < n := by
  intro k hk
  rw [ord_filter] at hk
  exact List.mem_range.1 (List.mem_filter.1 hk).1
theorem ord_len (c : Nat → Bool) (n : Nat) : (ordN c n).length ≤ n := by
  rw [ord_filter]
  have := List.length_filter_le c (List.range n)
  simpa using this
theorem cat_mem {key : Nat → Int} {L : List Nat} {k : Nat} (h : k ∈ catF key L) : k ∈ L := by
  simp only [catF, List.mem_append, List.mem_filter] at h
  rcases h with h | h | h | h <;> exact h.1
end Go.Proofs.YtlhhcongoplfpaaDoor
