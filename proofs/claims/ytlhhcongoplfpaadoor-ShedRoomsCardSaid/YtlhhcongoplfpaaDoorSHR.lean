/- What functions of this program do, each as a contract that its callers use, and what follows of it in plain numbers.
   By an AI agent. -/
import Derived.Test.YtlhhcongoplfpaaDoorSHQ
import Derived.Test.YtlhhcongoplfpaaDoorDLO
/-! Chapter 25's plain law: the document's way. -/
namespace Go.Proofs.YtlhhcongoplfpaaDoor
set_option linter.unusedSimpArgs false
set_option linter.unusedVariables false
/-- The document's turn: source s, rank p, feeder i. -/
def rTurn (ok : Nat → Bool) (pr : Nat → Int) (src : Nat → Option Nat) (load : Nat → Int) (s : Nat) (p : Int) (st : Int × Nat) (i : Nat) : Int × Nat :=
  if pr i = p ∧ ok i = true ∧ src i = some s ∧ load i ≤ st.1 then (st.1 - load i, st.2 ||| 2 ^ i) else st
def rFeed (ok : Nat → Bool) (pr : Nat → Int) (src : Nat → Option Nat) (load : Nat → Int) (s : Nat) (p : Int) (st : Int × Nat) : Nat → Int × Nat
  | 0 => st
  | i + 1 => rTurn ok pr src load s p (rFeed ok pr src load s p st i) i
def rRank (ok : Nat → Bool) (pr : Nat → Int) (src : Nat → Option Nat) (load : Nat → Int) (n s : Nat) (st : Int × Nat) : Nat → Int × Nat
  | 0 => st
  | p + 1 => rFeed ok pr src load s ((p : Nat) : Int) (rRank ok pr src load n s st p) n
def rSrc (ok : Nat → Bool) (pr : Nat → Int) (src : Nat → Option Nat) (load cap : Nat → Int) (n : Nat) : Nat → Nat
  | 0 => 0
  | s + 1 => (rRank ok pr src load n s (cap s, rSrc ok pr src load cap n s) 101).2
section
variable {ok : Nat → Bool} {pr : Nat → Int} {src : Nat → Option Nat} {load cap : Nat → Int}
/-- One source alone, by what is left. -/
def lStep (src : Nat → Option Nat) (load : Nat → Int) (s : Nat) (st : Int × Nat) (k : Nat) : Int × Nat := if src k = some s ∧ load k ≤ st.1 then (st.1 - load k, st.2 ||| 2 ^ k) else st
theorem rFeed_fold (s : Nat) (p : Int) (st : Int × Nat) : ∀ n : Nat, rFeed ok pr src load s p st n = ((List.range n).filter (fun k => ok k && decide (pr k = p))).foldl (lStep src load s) st
  | 0 => rfl
  | n + 1 => by
    rw [List.range_succ, List.filter_append, List.foldl_append, ← rFeed_fold s p st n]
    show rTurn ok pr src load s p (rFeed ok pr src load s p st n) n = _
    generalize rFeed ok pr src load s p st n = x
    unfold rTurn
    by_cases h : ok n = true ∧ pr n = p
    · have e : [n].filter (fun k => ok k && decide (pr k = p)) = [n] := by simp [h.1, h.2]
      rw [e]
      show _ = lStep src load s x n
      unfold lStep
      by_cases h2 : src n = some s ∧ load n ≤ x.1
      · rw [if_pos ⟨h.2, h.1, h2⟩, if_pos h2]
      · rw [if_neg (fun hh => h2 hh.2.2), if_neg h2]
    · have e : [n].filter (fun k => ok k && decide (pr k = p)) = [] := by
        simp only [List.filter_cons, List.filter_nil]
        rw [if_neg]
        intro hh
        rw [Bool.and_eq_true] at hh
        exact h ⟨hh.1, of_decide_eq_true hh.2⟩
      rw [e, if_neg (fun hh => h ⟨hh.2.1, hh.1⟩)]
      rfl
theorem rFeed_none (hk : ∀ k, 0 ≤ pr k ∧ pr k ≤ 3) (s : Nat) (p : Int) (hp : 3 < p) (st : Int × Nat) : ∀ n : Nat, rFeed ok pr src load s p st n = st
  | 0 => rfl
  | n + 1 => by
    show rTurn ok pr src load s p (rFeed ok pr src load s p st n) n = _
    rw [rFeed_none hk s p hp st n]
    unfold rTurn
    rw [if_neg]
    rintro ⟨h, _⟩
    have := hk n
    omega
theorem rRank_4 (hk : ∀ k, 0 ≤ pr k ∧ pr k ≤ 3) (n s : Nat) (st : Int × Nat) : ∀ p : Nat, rRank ok pr src load n s st (4 + p) = rRank ok pr src load n s st 4
  | 0 => rfl
  | p + 1 => by
    show rFeed ok pr src load s (((4 + p : Nat)) : Int) (rRank ok pr src load n s st (4 + p)) n = _
    rw [rFeed_none hk s _ (by omega), rRank_4 hk n s st p]
theorem rRank_cat (hk : ∀ k, 0 ≤ pr k ∧ pr k ≤ 3) (n s : Nat) (st : Int × Nat) : rRank ok pr src load n s st 101 = (catF pr (ordN ok n)).foldl (lStep src load s) st := by
  rw [show (101 : Nat) = 4 + 97 by rfl, rRank_4 hk]
  show rFeed ok pr src load s 3 (rFeed ok pr src load s 2 (rFeed ok pr src load s 1 (rFeed ok pr src load s 0 st n) n) n) n = _
  rw [rFeed_fold, rFeed_fold, rFeed_fold, rFeed_fold, ord_filter, ← List.foldl_append, ← List.foldl_append, ← List.foldl_append]
  have e : ∀ p : Int, ((List.range n).filter ok).filter (fun k => decide (pr k = p)) = (List.range n).filter (fun k => ok k && decide (pr k = p)) := fun p => by
    rw [List.filter_filter]
    congr 1
    funext k
    exact Bool.and_comm _ _
  unfold catF
  rw [e, e, e, e]
/-- What is taken and what is left. -/
theorem fold_left (hl : ∀ k, 0 ≤ load k ∧ load k ≤ 1000000) {s : Nat} (hc : 0 ≤ cap s ∧ cap s ≤ 1000000) : ∀ (ord : List Nat) (t : Int) (o : Nat) (o' : Nat), 0 ≤ t → t ≤ cap s →
    (ord.foldl (lStep src load s) (cap s - t, o ||| o')).2 = o ||| (ord.foldl (oStep src load cap s) (t, o')).2 ∧ (ord.foldl (lStep src load s) (cap s - t, o ||| o')).1 = cap s - (ord.foldl (oStep src load cap s) (t, o')).1
  | [], t, o, o', h1, h2 => ⟨rfl, rfl⟩
  | k :: ord, t, o, o', h1, h2 => by
    simp only [List.foldl_cons]
    have h := hl k
    have fa : fAdd t (load k) = t + load k := by
      unfold fAdd
      rw [if_neg (show ¬ (load k > 0 ∧ t > IntKind.i64.wrap (9223372036854775807 - load k)) from by rintro ⟨_, h'⟩; rw [wrap_in (by omega) (by omega)] at h'; omega), if_neg (by rintro ⟨h', _⟩; omega), wrap_in (by omega) (by omega)]
    by_cases hs : src k = some s ∧ load k ≤ cap s - t
    · have e1 : lStep src load s (cap s - t, o ||| o') k = (cap s - (t + load k), o ||| (o' ||| 2 ^ k)) := by
        unfold lStep; rw [if_pos hs]
        refine Prod.ext ?_ ?_
        · show cap s - t - load k = _; omega
        · exact Nat.or_assoc _ _ _
      have e2 : oStep src load cap s (t, o') k = (t + load k, o' ||| 2 ^ k) := by
        unfold oStep; rw [fa, if_pos ⟨hs.1, by have := hs.2; omega⟩]
      rw [e1, e2]
      have := hs.2
      exact fold_left hl hc ord _ _ _ (by omega) (by omega)
    · have e1 : lStep src load s (cap s - t, o ||| o') k = (cap s - t, o ||| o') := by unfold lStep; rw [if_neg hs]
      have e2 : oStep src load cap s (t, o') k = (t, o') := by
        unfold oStep; rw [fa, if_neg (fun h => hs ⟨h.1, by have := h.2; show load k ≤ _; omega⟩)]
      rw [e1, e2]
      exact fold_left hl hc ord _ _ _ h1 h2
/-- The document wants the same. -/
theorem want_ref (hk : ∀ k, 0 ≤ pr k ∧ pr k ≤ 3) (hl : ∀ k, 0 ≤ load k ∧ load k ≤ 1000000) (hc : ∀ s, 0 ≤ cap s ∧ cap s ≤ 1000000) (hs : ∀ k s, src k = some s → s < 4) (n : Nat) :
    rSrc ok pr src load cap n 4 = (wantL src load cap (sortN pr (ordN ok n))).2 := by
  have st : ∀ s o, (rRank ok pr src load n s (cap s, o) 101).2 = o ||| ((catF pr (ordN ok n)).foldl (oStep src load cap s) (0, 0)).2 := fun s o => by
    rw [rRank_cat hk]
    have := (fold_left (src := src) (cap := cap) hl (hc s) (catF pr (ordN ok n)) 0 o 0 (by omega) (hc s).1).1
    simpa using this
  have sp := (fold_split (load := load) (cap := cap) hs (catF pr (ordN ok n)) (fun _ => 0, 0) (fun _ => (0, 0)) (fun _ => rfl) (by decide)).2
  rw [sort_cat hk]
  unfold wantL
  rw [sp]
  show (rRank ok pr src load n 3 (cap 3, (rRank ok pr src load n 2 (cap 2, (rRank ok pr src load n 1 (cap 1, (rRank ok pr src load n 0 (cap 0, 0) 101).2) 101).2) 101).2) 101).2 = _
  rw [st, st, st, st, Nat.zero_or]
  rfl
end
end Go.Proofs.YtlhhcongoplfpaaDoor
