/- What functions of this program do, each as a contract that its callers use, and what follows of it in plain numbers.
   By an AI agent. -/
import Derived.Test.YtlhhcongoplfpaaDoorDLO
import Derived.Test.YtlhhcongoplfpaaDoorSH0
import Derived.Test.YtlhhcongoplfpaaDoorSHS
import Derived.Test.YtlhhcongoplfpaaDoorABM
namespace Go.Proofs.YtlhhcongoplfpaaDoor
open Go Go.Proofs.YtlhhcongoplfpaaDoorAB
set_option linter.unusedSimpArgs false
set_option linter.unusedVariables false

def tB (m : Int) (c : Nat) : Bool := (m % 18446744073709551616).toNat.testBit c
theorem tB_0 (x : Nat) (c : Nat) : x.testBit c = decide (x / 2 ^ c % 2 = 1) := by rw [Nat.testBit_eq_decide_div_mod_eq]
theorem bit_nat (m : Int) (c : Nat) (hc : c < 7) : (BitVec.ofInt 64 (m.fdiv (2 ^ c)) &&& BitVec.ofInt 64 1).toNat = if tB m c = true then 1 else 0 := by
  have e : BitVec.ofInt 64 (1:Int) = 1#64 := rfl
  rw [e, BitVec.toNat_and]
  rw [show (1#64).toNat = 1 from rfl, Nat.and_one_is_mod, BitVec.toNat_ofInt, Int.fdiv_eq_ediv_of_nonneg _ (Int.le_of_lt (Int.pow_pos (by decide)))]
  unfold tB
  rw [tB_0]
  match c, hc with
  | 0, _ => simp only [Int.reducePow, Nat.reducePow, decide_eq_true_eq]; split <;> omega
  | 1, _ => simp only [Int.reducePow, Nat.reducePow, decide_eq_true_eq]; split <;> omega
  | 2, _ => simp only [Int.reducePow, Nat.reducePow, decide_eq_true_eq]; split <;> omega
  | 3, _ => simp only [Int.reducePow, Nat.reducePow, decide_eq_true_eq]; split <;> omega
  | 4, _ => simp only [Int.reducePow, Nat.reducePow, decide_eq_true_eq]; split <;> omega
  | 5, _ => simp only [Int.reducePow, Nat.reducePow, decide_eq_true_eq]; split <;> omega
  | 6, _ => simp only [Int.reducePow, Nat.reducePow, decide_eq_true_eq]; split <;> omega
theorem and_nat (m : Int) (c : Nat) (hc : c < 64) : (BitVec.ofInt 64 m &&& BitVec.ofInt 64 ((2 ^ c : Nat) : Int)).toNat = if tB m c = true then 2 ^ c else 0 := by
  rw [BitVec.toNat_and, BitVec.ofInt_natCast, BitVec.toNat_ofNat, Nat.mod_eq_of_lt (Nat.pow_lt_pow_right (by decide) hc), BitVec.toNat_ofInt]
  have e : (m % ((2 ^ 64 : Nat) : Int)).toNat = (m % 18446744073709551616).toNat := rfl
  rw [e]
  unfold tB
  generalize (m % 18446744073709551616).toNat = x
  refine Nat.eq_of_testBit_eq fun i => ?_
  rw [Nat.testBit_and, Nat.testBit_two_pow]
  by_cases h : c = i
  · subst h
    rw [decide_eq_true rfl, Bool.and_true]
    cases hx : x.testBit c <;> simp
  · rw [decide_eq_false h, Bool.and_false]
    split
    · rw [Nat.testBit_two_pow, decide_eq_false h]
    · simp

theorem wrap_small {x : Nat} (h : x < 128) : IntKind.i64.wrap ((x : Nat) : Int) = ((x : Nat) : Int) := wrap_in (by omega) (by omega)
theorem pow7 {c : Nat} (h : c < 7) : 2 ^ c < 128 := pow_lt7 h
/-- Bit c as the program reads it, by a shift. -/
theorem bitX_eq (m : Int) {c : Nat} (hc : c < 7) : bitX m c = if tB m c = true then 1 else 0 := by
  have h := bit_nat m c hc
  show IntKind.i64.wrap (((BitVec.ofInt 64 (m.fdiv (2 ^ min ((c : Nat) : Int).toNat 64)) &&& BitVec.ofInt 64 1).toNat : Nat) : Int) = _
  rw [show min ((c : Nat) : Int).toNat 64 = c by omega, h]
  split
  · rfl
  · rfl
/-- The same by a mask. -/
theorem andX_eq (m : Int) {c : Nat} (hc : c < 7) : andX m ((2 ^ c : Nat) : Int) = if tB m c = true then ((2 ^ c : Nat) : Int) else 0 := by
  have h := and_nat m c (by omega)
  have h7 := pow7 hc
  show IntKind.i64.wrap (((BitVec.ofInt 64 m &&& BitVec.ofInt 64 ((2 ^ c : Nat) : Int)).toNat : Nat) : Int) = _
  rw [h]
  split
  · exact wrap_small h7
  · rfl
theorem bitB_eq (m : Int) {c : Nat} (hc : c < 7) : bitB m c = tB m c := by
  unfold bitB
  rw [bitX_eq m hc]
  cases tB m c <;> rfl
theorem u64_small {c : Nat} (hc : c < 7) : IntKind.u64.wrap ((c : Nat) : Int) = ((c : Nat) : Int) := by
  match c, hc with
  | 0, _ => rfl
  | 1, _ => rfl
  | 2, _ => rfl
  | 3, _ => rfl
  | 4, _ => rfl
  | 5, _ => rfl
  | 6, _ => rfl
/-! Lists of numbers in memory -/
abbrev nI (k : Nat) : Value := I64 ((k : Nat) : Int)
theorem setO_map {α : Type} (g : α → Value) : ∀ (L : List α) (j : Nat) (v : α), j < L.length → setO (L.map g) j (g v) = some ((L.set j v).map g)
  | [], j, v, h => absurd h (Nat.not_lt_zero j)
  | x :: L, 0, v, h => rfl
  | x :: L, j + 1, v, h => by
    have ih := setO_map g L j v (by simpa using h)
    simp only [List.map_cons, setO, ih, List.set_cons_succ]
theorem row_at {α : Type} (g : α → Value) (L : List α) (d : α) {j : Nat} (h : j < L.length) (ty : TypeId) (sz : Nat) : AObj.at (.row (L.map g) ty sz) (0 + j * 1) = some (g (L.getD j d)) := by
  show (L.map g)[0 + j * 1]? = _
  rw [Nat.zero_add, Nat.mul_one, List.getElem?_map, List.getElem?_eq_getElem h, List.getD_eq_getElem?_getD, List.getElem?_eq_getElem h]; rfl
theorem row_put {α : Type} (g : α → Value) (L : List α) {j : Nat} (v : α) (h : j < L.length) (ty : TypeId) (sz : Nat) : AObj.put (.row (L.map g) ty sz) (0 + j * 1) [g v] = some (.row ((L.set j v).map g) ty sz) := by
  show (match putO (L.map g) (0 + j * 1) [g v] with | some r => some (AObj.row r ty sz) | none => none) = _
  rw [Nat.zero_add, Nat.mul_one]
  simp only [putO, setO_map g L j v h]
theorem cells_at {α : Type} (g : α → Value) (L : List α) (d : α) {j : Nat} (h : j < L.length) (ty : TypeId) : AObj.at (.cells (L.map g) ty) (0 + j * 1) = some (g (L.getD j d)) := by
  show (L.map g)[0 + j * 1]? = _
  rw [Nat.zero_add, Nat.mul_one, List.getElem?_map, List.getElem?_eq_getElem h, List.getD_eq_getElem?_getD, List.getElem?_eq_getElem h]; rfl
theorem cells_put {α : Type} (g : α → Value) (L : List α) {j : Nat} (v : α) (h : j < L.length) (ty : TypeId) : AObj.put (.cells (L.map g) ty) (0 + j * 1) [g v] = some (.cells ((L.set j v).map g) ty) := by
  show (match putO (L.map g) (0 + j * 1) [g v] with | some r => some (AObj.cells r ty) | none => none) = _
  rw [Nat.zero_add, Nat.mul_one]
  simp only [putO, setO_map g L j v h]
/-! Feeders in memory -/
structure Fr (ob : AObj) (n : Nat) (B : Nat → Nat) (W R : Nat → Int) : Prop where
  seg : ∀ i, i < n → ob.seg (0 + i * 3) 3 = some [nI (B i), I64 (W i), I64 (R i)]
  ab : ∀ i, i < n → ob.at (0 + i * 3) = some (nI (B i))
  aw : ∀ i, i < n → ob.at (0 + i * 3 + 1) = some (I64 (W i))
  ar : ∀ i, i < n → ob.at (0 + i * 3 + 2) = some (I64 (R i))
/-- Config's feeders. -/
def fBus (k : Int) (i : Nat) : Nat := (4 + ((i : Int) + (n20 k).tdiv 8).tmod 3).toNat
def fLoad (k : Int) (i : Nat) : Int := 50 + 60 * ((n20 k).tdiv 24 + (i : Int)).tmod 5
def fPrio (k : Int) (i : Nat) : Int := ((n20 k).tdiv 120 + (i : Int) * i).tmod 4
theorem n20_in (k : Int) : 0 ≤ n20 k ∧ n20 k < 1048576 := num_nonneg k 1048576 (by decide) (by decide)
theorem fd_in (k : Int) (i : Nat) : 4 ≤ fBus k i ∧ fBus k i < 7 ∧ 50 ≤ fLoad k i ∧ fLoad k i ≤ 290 ∧ 0 ≤ fPrio k i ∧ fPrio k i ≤ 3 := by
  obtain ⟨h1, h2⟩ := n20_in k
  have d8 : 0 ≤ (n20 k).tdiv 8 := Int.tdiv_nonneg h1 (by decide)
  have d24 : 0 ≤ (n20 k).tdiv 24 := Int.tdiv_nonneg h1 (by decide)
  have d120 : 0 ≤ (n20 k).tdiv 120 := Int.tdiv_nonneg h1 (by decide)
  have hi : (0 : Int) ≤ (i : Int) * i := Int.mul_nonneg (by omega) (by omega)
  have a1 := Int.tmod_nonneg 3 (show 0 ≤ (i : Int) + (n20 k).tdiv 8 by omega)
  have a2 := Int.tmod_lt_of_pos ((i : Int) + (n20 k).tdiv 8) (show (0 : Int) < 3 by decide)
  have b1 := Int.tmod_nonneg 5 (show 0 ≤ (n20 k).tdiv 24 + (i : Int) by omega)
  have b2 := Int.tmod_lt_of_pos ((n20 k).tdiv 24 + (i : Int)) (show (0 : Int) < 5 by decide)
  have c1 := Int.tmod_nonneg 4 (show 0 ≤ (n20 k).tdiv 120 + (i : Int) * i by omega)
  have c2 := Int.tmod_lt_of_pos ((n20 k).tdiv 120 + (i : Int) * i) (show (0 : Int) < 4 by decide)
  unfold fBus fLoad fPrio
  omega
theorem feed_eq (k : Int) {i : Nat} (hi : i < 7) : feed k ((i : Nat) : Int) = [nI (fBus k i), I64 (fLoad k i), I64 (fPrio k i)] := by
  obtain ⟨h1, h2⟩ := n20_in k
  have d8 : 0 ≤ (n20 k).tdiv 8 := Int.tdiv_nonneg h1 (by decide)
  have d24 : 0 ≤ (n20 k).tdiv 24 := Int.tdiv_nonneg h1 (by decide)
  have d120 : 0 ≤ (n20 k).tdiv 120 := Int.tdiv_nonneg h1 (by decide)
  have e8 : (n20 k).tdiv 8 ≤ n20 k := by rw [Int.tdiv_eq_ediv_of_nonneg h1]; omega
  have e24 : (n20 k).tdiv 24 ≤ n20 k := by rw [Int.tdiv_eq_ediv_of_nonneg h1]; omega
  have e120 : (n20 k).tdiv 120 ≤ n20 k := by rw [Int.tdiv_eq_ediv_of_nonneg h1]; omega
  have hii : (0 : Int) ≤ (i : Int) * i := Int.mul_nonneg (by omega) (by omega)
  have hij : (i : Int) * i ≤ 6 * 6 := Int.mul_le_mul (by omega) (by omega) (by omega) (by omega)
  have a1 := Int.tmod_nonneg 3 (show 0 ≤ (i : Int) + (n20 k).tdiv 8 by omega)
  have a2 := Int.tmod_lt_of_pos ((i : Int) + (n20 k).tdiv 8) (show (0 : Int) < 3 by decide)
  have b1 := Int.tmod_nonneg 5 (show 0 ≤ (n20 k).tdiv 24 + (i : Int) by omega)
  have b2 := Int.tmod_lt_of_pos ((n20 k).tdiv 24 + (i : Int)) (show (0 : Int) < 5 by decide)
  have c1 := Int.tmod_nonneg 4 (show 0 ≤ (n20 k).tdiv 120 + (i : Int) * i by omega)
  have c2 := Int.tmod_lt_of_pos ((n20 k).tdiv 120 + (i : Int) * i) (show (0 : Int) < 4 by decide)
  have w : ∀ {x : Int}, 0 ≤ x → x < 100000000 → w64 x = x := fun h h' => wrap_in (by omega) (by omega)
  unfold feed
  have p1 : w64 (4 + (w64 ((i : Int) + w64 ((n20 k).tdiv 8))).tmod 3) = ((fBus k i : Nat) : Int) := by
    rw [w d8 (by omega), w (x := (i : Int) + (n20 k).tdiv 8) (by omega) (by omega), w (by omega) (by omega)]
    unfold fBus; omega
  have p2 : w64 (50 + w64 (60 * (w64 (w64 ((n20 k).tdiv 24) + (i : Int))).tmod 5)) = fLoad k i := by
    rw [w d24 (by omega), w (x := (n20 k).tdiv 24 + (i : Int)) (by omega) (by omega), w (x := 60 * _) (by omega) (by omega), w (by omega) (by omega)]
    rfl
  have p3 : (w64 (w64 ((n20 k).tdiv 120) + w64 ((i : Int) * (i : Int)))).tmod 4 = fPrio k i := by
    rw [w d120 (by omega), w hii (by omega), w (by omega) (by omega)]
    rfl
  rw [p1, p2, p3]
theorem segO_app : ∀ (a b : List Value) (n : Nat), a.length = n → segO (a ++ b) n 3 = segO b 0 3
  | [], b, n, h => by subst h; rfl
  | x :: a, b, n, h => by
    obtain ⟨m, rfl⟩ : ∃ m, n = m + 1 := ⟨n - 1, by simp at h; omega⟩
    show segO (a ++ b) m 3 = _
    exact segO_app a b m (by simpa using h)
theorem feeds_split (k : Int) : ∀ (n i : Nat), i < n → ∃ r, feeds k n = feeds k i ++ (feed k ((i : Nat) : Int) ++ r)
  | 0, i, h => absurd h (Nat.not_lt_zero i)
  | n + 1, i, h => by
    rcases Nat.lt_or_ge i n with h' | h'
    · obtain ⟨r, hr⟩ := feeds_split k n i h'
      exact ⟨r ++ feed k ((n : Nat) : Int), by show feeds k n ++ feed k n = _; rw [hr]; simp⟩
    · obtain rfl : i = n := by omega
      exact ⟨[], by simp [feeds]⟩
theorem feeds_Fr (k : Int) {n : Nat} (hn : n ≤ 7) (ty : TypeId) : Fr (.row (feeds k n) ty 3) n (fBus k) (fLoad k) (fPrio k) := by
  have key : ∀ i, i < n → ∃ r, feeds k n = feeds k i ++ ([nI (fBus k i), I64 (fLoad k i), I64 (fPrio k i)] ++ r) := fun i hi => by
    obtain ⟨r, hr⟩ := feeds_split k n i hi
    rw [feed_eq k (by omega)] at hr
    exact ⟨r, hr⟩
  have len : ∀ i, (feeds k i).length = i * 3 := feeds_len k
  refine ⟨fun i hi => ?_, fun i hi => ?_, fun i hi => ?_, fun i hi => ?_⟩
  · obtain ⟨r, hr⟩ := key i hi
    show segO (feeds k n) (0 + i * 3) 3 = _
    rw [hr, Nat.zero_add, segO_app _ _ _ (len i)]; rfl
  · obtain ⟨r, hr⟩ := key i hi
    show (feeds k n)[0 + i * 3]? = _
    rw [hr, Nat.zero_add, List.getElem?_append_right (by rw [len]; omega), len, Nat.sub_self]; rfl
  · obtain ⟨r, hr⟩ := key i hi
    show (feeds k n)[0 + i * 3 + 1]? = _
    rw [hr, Nat.zero_add, List.getElem?_append_right (by rw [len]; omega), len, show i * 3 + 1 - i * 3 = 1 by omega]; rfl
  · obtain ⟨r, hr⟩ := key i hi
    show (feeds k n)[0 + i * 3 + 2]? = _
    rw [hr, Nat.zero_add, List.getElem?_append_right (by rw [len]; omega), len, show i * 3 + 2 - i * 3 = 2 by omega]; rfl
end Go.Proofs.YtlhhcongoplfpaaDoor
