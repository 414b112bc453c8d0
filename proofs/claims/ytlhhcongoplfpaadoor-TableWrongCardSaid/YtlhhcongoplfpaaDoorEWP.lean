/- What functions of this program do, each as a contract that its callers use, and what follows of it in plain numbers.
   By an AI agent. -/
import Derived.Test.YtlhhcongoplfpaaDoorAB
import Derived.Test.YtlhhcongoplfpaaDoorDLO
import Derived.Test.YtlhhcongoplfpaaDoorES1
import Derived.Test.YtlhhcongoplfpaaDoorABM
namespace Go.Proofs.YtlhhcongoplfpaaDoor
open Go Go.Proofs.YtlhhcongoplfpaaDoorAB
set_option linter.unusedSimpArgs false
set_option linter.unusedVariables false
set_option maxRecDepth 20000
theorem setO_set {α : Type} : ∀ (l : List α) (n : Nat) (v : α), n < l.length → setO l n v = some (l.set n v)
  | [], n, _, h => absurd h (Nat.not_lt_zero n)
  | _ :: _, 0, _, _ => rfl
  | x :: xs, n + 1, v, h => by
    have := setO_set xs n v (Nat.lt_of_succ_lt_succ h)
    simp only [setO, this, List.set_cons_succ]
theorem row_put1 (P : List Value) (ty : TypeId) (sz i : Nat) (v : Value) (h : i < P.length) : AObj.put (.row P ty sz) i [v] = some (.row (P.set i v) ty sz) := by
  show (match putO P i [v] with | some r => some (AObj.row r ty sz) | none => none) = _
  simp only [putO, setO_set P i v h]
theorem takeO_of {α : Type} : ∀ (n : Nat) (l : List α), n ≤ l.length → takeO n l = some (l.take n)
  | 0, l, _ => by cases l <;> rfl
  | n + 1, [], h => absurd h (by simp)
  | n + 1, x :: xs, h => by
    have := takeO_of n xs (Nat.le_of_succ_le_succ h)
    simp only [takeO, this, List.take_succ_cons]
theorem segO_of : ∀ (l : List Value) (o n : Nat), o + n ≤ l.length → segO l o n = some ((l.drop o).take n)
  | l, 0, n, h => by
    have := takeO_of n l (by omega)
    cases l <;> simpa [segO] using this
  | [], o + 1, n, h => absurd h (by simp)
  | x :: xs, o + 1, n, h => by
    have := segO_of xs o n (by simp at h; omega)
    simpa [segO] using this
theorem two_of {P : List Value} {i : Nat} {a b : Value} (h1 : P[i]? = some a) (h2 : P[i + 1]? = some b) : (P.drop i).take 2 = [a, b] := by
  refine List.ext_getElem? fun j => ?_
  rw [List.getElem?_take]
  split
  · rw [List.getElem?_drop]
    rename_i hj
    match j, hj with
    | 0, _ => rw [Nat.add_zero, h1]; rfl
    | 1, _ => rw [h2]; rfl
  · rename_i hj
    match j, hj with
    | j + 2, _ => rfl
    | 0, hj => exact absurd (by decide) hj
    | 1, hj => exact absurd (by decide) hj
theorem tb_row {P : List Value} {ty : TypeId} {n : Nat} {X Y : Nat → Int} (hx : ∀ i, i < n → P[i * 2]? = some (.int .i64 (X i))) (hy : ∀ i, i < n → P[i * 2 + 1]? = some (.int .i64 (Y i))) : Tb (.row P ty 2) 0 n X Y := by
  refine ⟨fun i h => ?_, fun i h => ?_, fun i h => ?_⟩
  · show segO P (0 + i * 2) 2 = _
    rw [Nat.zero_add, segO_of P (i * 2) 2 (by have := (List.getElem?_eq_some_iff.1 (hy i h)).1; omega), two_of (hx i h) (hy i h)]
  · show P[0 + i * 2]? = _
    rw [Nat.zero_add]; exact hx i h
  · show P[0 + i * 2 + 1]? = _
    rw [Nat.zero_add]; exact hy i h
theorem row_x {P : List Value} {ty : TypeId} {n : Nat} {X Y : Nat → Int} (tb : Tb (.row P ty 2) 0 n X Y) {i : Nat} (h : i < n) : P[i * 2]? = some (.int .i64 (X i)) := by
  have := tb.ax i h; rw [Nat.zero_add] at this; exact this
theorem row_y {P : List Value} {ty : TypeId} {n : Nat} {X Y : Nat → Int} (tb : Tb (.row P ty 2) 0 n X Y) {i : Nat} (h : i < n) : P[i * 2 + 1]? = some (.int .i64 (Y i)) := by
  have := tb.ay i h; rw [Nat.zero_add] at this; exact this
/-- One of the numbers changed. -/
def updI (X : Nat → Int) (m : Nat) (v : Int) (i : Nat) : Int := if i = m then v else X i
theorem tb_setX {P : List Value} {ty : TypeId} {n m : Nat} {X Y : Nat → Int} (tb : Tb (.row P ty 2) 0 n X Y) (h : m < n) (v : Int) : AObj.put (.row P ty 2) (0 + m * 2 + 0) [.int .i64 v] = some (.row (P.set (m * 2) (.int .i64 v)) ty 2) ∧ Tb (.row (P.set (m * 2) (.int .i64 v)) ty 2) 0 n (updI X m v) Y := by
  have hl : ∀ i, i < n → i * 2 + 1 < P.length := fun i hi => (List.getElem?_eq_some_iff.1 (row_y tb hi)).1
  refine ⟨?_, tb_row (fun i hi => ?_) (fun i hi => ?_)⟩
  · have e := row_put1 P ty 2 (m * 2) (.int .i64 v) (by have := hl m h; omega)
    rw [Nat.add_zero, Nat.zero_add]; exact e
  · rw [List.getElem?_set]
    unfold updI
    by_cases e : i = m
    · subst e; rw [if_pos rfl, if_pos rfl, if_pos (by have := hl i hi; omega)]
    · rw [if_neg (by omega), if_neg e]; exact row_x tb hi
  · rw [List.getElem?_set, if_neg (by omega)]; exact row_y tb hi
theorem tb_setY {P : List Value} {ty : TypeId} {n m : Nat} {X Y : Nat → Int} (tb : Tb (.row P ty 2) 0 n X Y) (h : m < n) (v : Int) : AObj.put (.row P ty 2) (0 + m * 2 + 1) [.int .i64 v] = some (.row (P.set (m * 2 + 1) (.int .i64 v)) ty 2) ∧ Tb (.row (P.set (m * 2 + 1) (.int .i64 v)) ty 2) 0 n X (updI Y m v) := by
  have hl : ∀ i, i < n → i * 2 + 1 < P.length := fun i hi => (List.getElem?_eq_some_iff.1 (row_y tb hi)).1
  refine ⟨?_, tb_row (fun i hi => ?_) (fun i hi => ?_)⟩
  · have e := row_put1 P ty 2 (m * 2 + 1) (.int .i64 v) (hl m h)
    rw [Nat.zero_add]; exact e
  · rw [List.getElem?_set, if_neg (by omega)]; exact row_x tb hi
  · rw [List.getElem?_set]
    unfold updI
    by_cases e : i = m
    · subst e; rw [if_pos rfl, if_pos rfl, if_pos (hl i hi)]
    · rw [if_neg (by omega), if_neg e]; exact row_y tb hi
theorem tok_good {n : Nat} {X Y : Nat → Int} (ok : TOk n X Y) {j : Nat} (h : j < n) : goodAt X Y j :=
  ⟨tok_lo ok h, fun h0 => tok_up ok h h0⟩
theorem upd_lt {X : Nat → Int} {m j : Nat} {v : Int} (h : j < m) : updI X m v j = X j := if_neg (by omega)
theorem upd_at {X : Nat → Int} {m : Nat} {v : Int} : updI X m v m = v := if_pos rfl
theorem upd_good {X Y : Nat → Int} {m : Nat} {a b : Int} (h : ∀ j, j < m → goodAt X Y j) : ∀ j, j < m → goodAt (updI X m a) (updI Y m b) j := fun j hj => by
  have := h j hj
  unfold goodAt at this ⊢
  rw [upd_lt hj, upd_lt hj, upd_lt (by omega), upd_lt (by omega)]
  exact this
theorem upd_same (Y : Nat → Int) (m : Nat) : updI Y m (Y m) = Y := by
  funext i; unfold updI; split
  · rename_i h; rw [h]
  · rfl
section
variable {n m : Nat} {X Y : Nat → Int} (ok : TOk n X Y) (h2 : m < n)
include ok h2
theorem wrongX0 (h1 : 1 ≤ m) : IsA n (updI X m (X (m - 1))) Y 3 m := by
  have g := upd_good (m := m) (a := X (m - 1)) (b := Y m) (fun j hj => tok_good ok (j := j) (by omega))
  rw [upd_same] at g
  have q := tok_good ok (j := m - 1) (by omega)
  have r := tok_good ok (j := m) h2
  refine ⟨⟨ok.n2, ok.n64⟩, h2, g, .inr ⟨rfl, ⟨by rw [upd_at]; exact q.1.1, r.1.2⟩, by omega, .inl ?_⟩⟩
  rw [upd_at, upd_lt (by omega)]; exact Int.le_refl _
theorem wrongY0 (h1 : 1 ≤ m) (hy : -1000 < Y (m - 1)) : IsA n X (updI Y m (IntKind.i64.wrap (Y (m - 1) - 1))) 3 m := by
  have b := ok.y2 (m - 1) (by omega)
  rw [wrap_in (x := Y (m - 1) - 1) (by omega) (by omega)]
  have g := upd_good (m := m) (a := X m) (b := Y (m - 1) - 1) (fun j hj => tok_good ok (j := j) (by omega))
  rw [upd_same] at g
  have r := tok_good ok (j := m) h2
  refine ⟨⟨ok.n2, ok.n64⟩, h2, g, .inr ⟨rfl, ⟨r.1.1, by rw [upd_at]; unfold inB; omega⟩, by omega, .inr ?_⟩⟩
  rw [upd_at, upd_lt (by omega)]; omega
theorem wrongX2 : IsA n (updI X m 1073741825) Y 2 m := by
  have g := upd_good (m := m) (a := 1073741825) (b := Y m) (fun j hj => tok_good ok (j := j) (by omega))
  rw [upd_same] at g
  exact ⟨⟨ok.n2, ok.n64⟩, h2, g, .inl ⟨rfl, fun q => absurd q.1.2 (by rw [upd_at]; decide)⟩⟩
theorem wrongY2 : IsA n X (updI Y m (-1073741825)) 2 m := by
  have g := upd_good (m := m) (a := X m) (b := -1073741825) (fun j hj => tok_good ok (j := j) (by omega))
  rw [upd_same] at g
  exact ⟨⟨ok.n2, ok.n64⟩, h2, g, .inl ⟨rfl, fun q => absurd q.2.1 (by rw [upd_at]; decide)⟩⟩
end
theorem tb_one {ob : AObj} {n : Nat} {X Y : Nat → Int} (tb : Tb ob 0 n X Y) (h : 1 ≤ n) : Tb ob 0 1 X Y := ⟨fun i hi => tb.seg i (by omega), fun i hi => tb.ax i (by omega), fun i hi => tb.ay i (by omega)⟩
theorem at_inW {n : Nat} (h1 : 3 ≤ n) (h2 : n ≤ 20) (a : Int) : ∃ m : Nat, IntKind.i64.wrap (1 + (IntKind.i64.wrap (IntKind.i64.wrap (a.tmod (IntKind.i64.wrap ((n : Int) - 1)) + (n : Int)) - 1)).tmod (IntKind.i64.wrap ((n : Int) - 1))) = (m : Int) ∧ 1 ≤ m ∧ m < n := by
  rw [wrap_in (x := (n : Int) - 1) (by omega) (by omega)]
  have r := rem_in (M := (n : Int) - 1) (by omega) a
  rw [wrap_in (x := a.tmod ((n : Int) - 1) + (n : Int)) (by omega) (by omega), wrap_in (x := a.tmod ((n : Int) - 1) + (n : Int) - 1) (by omega) (by omega)]
  have t1 : 0 ≤ (a.tmod ((n : Int) - 1) + (n : Int) - 1).tmod ((n : Int) - 1) := Int.tmod_nonneg _ (by omega)
  have t2 : (a.tmod ((n : Int) - 1) + (n : Int) - 1).tmod ((n : Int) - 1) < (n : Int) - 1 := Int.tmod_lt_of_pos _ (by omega)
  rw [wrap_in (x := 1 + _) (by omega) (by omega)]
  exact ⟨(1 + (a.tmod ((n : Int) - 1) + (n : Int) - 1).tmod ((n : Int) - 1)).toNat, by omega, by omega, by omega⟩
theorem how_in (h : Int) : (IntKind.i64.wrap (h.tmod 4 + 4)).tmod 4 = 0 ∨ (IntKind.i64.wrap (h.tmod 4 + 4)).tmod 4 = 1 ∨ (IntKind.i64.wrap (h.tmod 4 + 4)).tmod 4 = 2 ∨ (IntKind.i64.wrap (h.tmod 4 + 4)).tmod 4 = 3 := by
  have r := rem_in (M := 4) (by omega) h
  rw [wrap_in (x := h.tmod 4 + 4) (by omega) (by omega)]
  have t1 : 0 ≤ (h.tmod 4 + 4).tmod 4 := Int.tmod_nonneg _ (by omega)
  have t2 : (h.tmod 4 + 4).tmod 4 < 4 := Int.tmod_lt_of_pos _ (by omega)
  omega

theorem made_tab2 (o : Option Addr) (l c f : Nat) (z : List Int) (b : AObj) (k0 : Nat) (h0 : 0 < l → o = some ⟨k0, f, none⟩ ∧ b = .ro f (z.map I64) ∧ l ≤ z.length) (hl : 6 ≤ l) (hl2 : l ≤ 40) (x0 : Int) :
    ∃ (n : Nat) (P : List Value) (X Y : Nat → Int), Tb (.row P 27 2) 0 n X Y ∧ TOk n X Y ∧ (∀ i, i < n → -1000 < Y i) ∧ 3 ≤ n ∧ n ≤ 20 ∧ ∀ kn, Ctr Tryd.prog 9 28 [.slice o l c, I64 x0] [(k0, b), (kn, .gone)] (.slice (some ⟨kn, 0, none⟩) n grown) [b, .row P 27 2] := by
  have xb := rem_in (M := 1000000) (by decide) x0
  have yb := rem_in (M := 777) (by decide) x0
  have hn : mN l ≤ 20 ∧ 3 ≤ mN l := by unfold mN; omega
  exact ⟨mN l, _, _, _, made_tb z (x0.tmod 1000000) (x0.tmod 777) (mN l) 27, made_ok (z := z) xb.1 xb.2 yb.1 yb.2 (by omega) (by omega), fun i hi => by have := (mXY_in (z := z) xb.1 xb.2 yb.1 yb.2 i (by omega)).2.1; show -1000 < (mXY z (x0.tmod 1000000) (x0.tmod 777) i).2; omega, hn.2, hn.1, fun kn => made1 (G := 9) o l c f z b k0 kn h0 (by omega) (by omega) x0⟩
end Go.Proofs.YtlhhcongoplfpaaDoor
