/- Proved: one contactor more joins its two ends and never parts anybody, groups are one fewer or as many, who reaches is reached, for every input. Conditions: math/bits' two tables hold what the program's text lays in them (the tied card). -/
import Derived.Test.YtjmggdccmggboabDoorPGraphJoinsx2
namespace Go.Proofs.YtjmggdccmggboabDoor.Pure
open Go.RowKit Go.Proofs.YtjmggdccmggboabDoor.PGraphJoins Go.Proofs.YtjmggdccmggboabDoorW.PrintWords Go.Proofs.YtjmggdccmggboabDoorW.PrintLast Go.Proofs.YtjmggdccmggboabDoorW.PrintMore
set_option linter.unusedSimpArgs false
set_option linter.unusedVariables false
theorem number_eq (a n : Int) (hn : 0 < n) (hs : n ≤ 4611686018427387904) : dynamoworld_Number.f a n = some (a % n) := by
  unfold dynamoworld_Number.f
  rw [if_neg (by omega), Int.tmod_eq_emod]
  have h1 := Int.emod_nonneg a (show n ≠ 0 by omega)
  have h2 := Int.emod_lt_of_pos a hn
  have hd : n ∣ a ↔ a % n = 0 := Int.dvd_iff_emod_eq_zero
  by_cases h : 0 ≤ a ∨ n ∣ a
  · simp only [h, if_true]; rw [if_neg (by omega)]; congr 1; omega
  · simp only [h, if_false]; rw [hd] at h; rw [if_pos (by omega)]; congr 1; unfold wrap64; omega
theorem number_nat (a n : Int) (hn : 0 < n) (hs : n ≤ 4611686018427387904) : ∃ m : Nat, (m : Int) < n ∧ dynamoworld_Number.f a n = some (m : Int) := by
  have h1 := Int.emod_nonneg a (show n ≠ 0 by omega)
  have h2 := Int.emod_lt_of_pos a hn
  refine ⟨(a % n).toNat, by omega, ?_⟩
  rw [number_eq a n hn hs]; congr 1; omega

theorem wrap7 (n : Int) (h0 : 0 ≤ n) (h1 : n < 2 ^ 7) : IntKind.i64.wrap n = n := by rw [IntKind.wrap_i64]; omega
theorem gand (a b : Nat) (ha : a < 128) (hb : b < 128) : Go.bits .and .i64 (a : Int) (b : Int) = ((a &&& b : Nat) : Int) := (bits_nat .i64 7 (by decide) wrap7 a b ha hb).1
theorem gor (a b : Nat) (ha : a < 128) (hb : b < 128) : Go.bits .or .i64 (a : Int) (b : Int) = ((a ||| b : Nat) : Int) := (bits_nat .i64 7 (by decide) wrap7 a b ha hb).2
theorem gnot (a b : Nat) (ha : a < 128) (hb : b < 128) : Go.bits .andNot .i64 (a : Int) (b : Int) = ((a &&& (127 ^^^ b) : Nat) : Int) := by
  have hp : a % 2 ^ 64 = a := Nat.mod_eq_of_lt (by omega)
  have hb' : b % 2 ^ 64 = b := Nat.mod_eq_of_lt (by omega)
  have e : a &&& (2 ^ 64 - 1 - b) = a &&& (127 ^^^ b) := by
    apply Nat.eq_of_testBit_eq
    intro i
    rw [Nat.testBit_and, Nat.testBit_and, Nat.testBit_xor, show 2 ^ 64 - 1 - b = 2 ^ 64 - (b + 1) by omega, Nat.testBit_two_pow_sub_succ (by omega)]
    have h127 : Nat.testBit 127 i = decide (i < 7) := by rw [show (127 : Nat) = 2 ^ 7 - 1 by rfl, Nat.testBit_two_pow_sub_one]
    rw [h127]
    by_cases hi : i < 7
    · simp [hi, show i < 64 by omega]
    · have : Nat.testBit a i = false := Nat.testBit_lt_two_pow (Nat.lt_of_lt_of_le ha (Nat.pow_le_pow_right (n := 2) (by decide) (show 7 ≤ i by omega)))
      simp [this]
  simp only [bits, BitVec.ofInt_natCast, BitVec.toNat_and, BitVec.toNat_not, BitVec.toNat_ofNat]
  rw [show IntKind.i64.bits = 64 by rfl, hp, hb', e]
  have h : (127 ^^^ b) < 2 ^ 7 := Nat.xor_lt_two_pow (by decide) hb
  have h2 := Nat.and_lt_two_pow a h
  exact wrap7 _ (Int.natCast_nonneg _) (by omega)
theorem mx1 : ∀ x t : Fin 128, ((x.val &&& t.val) &&& (127 ^^^ t.val)) = 0 := by decide +kernel
theorem mx2 : ∀ t : Fin 128, (t.val &&& (127 ^^^ t.val)) = 0 := by decide +kernel
theorem mx1' (x t : Nat) (hx : x < 128) (ht : t < 128) : ((x &&& t) &&& (127 ^^^ t)) = 0 := mx1 ⟨x, hx⟩ ⟨t, ht⟩
theorem mx2' (t : Nat) (ht : t < 128) : (t &&& (127 ^^^ t)) = 0 := mx2 ⟨t, ht⟩
theorem and_lt (a b : Nat) (hb : b < 128) : a &&& b < 128 := Nat.and_lt_two_pow (n := 7) a hb
theorem or_lt (a b : Nat) (ha : a < 128) (hb : b < 128) : a ||| b < 128 := Nat.or_lt_two_pow (n := 7) ha hb

def endsN : Nat → Nat × Nat
  | 0 => (0, 4) | 1 => (1, 4) | 2 => (2, 5) | 3 => (3, 5) | 4 => (4, 5) | 5 => (4, 6) | _ => (5, 6)
def stepN (m out c : Nat) : Nat :=
  let both := 2 ^ (endsN c).1 ||| 2 ^ (endsN c).2
  if (m / 2 ^ c) % 2 = 1 ∧ (out &&& both) ≠ 0 then out ||| both else out
def roundN (m out : Nat) : Nat := stepN m (stepN m (stepN m (stepN m (stepN m (stepN m (stepN m out 0) 1) 2) 3) 4) 5) 6
def reachN (m n : Nat) : Nat := roundN m (roundN m (roundN m (roundN m (roundN m (roundN m (roundN m (2 ^ n)))))))
def popN (x : Nat) : Nat := x % 2 + x / 2 % 2 + x / 4 % 2 + x / 8 % 2 + x / 16 % 2 + x / 32 % 2 + x / 64 % 2
theorem reach_fin : ∀ m : Fin 128, ∀ n : Fin 7, graph_Reach.f 100 (m.val : Int) (n.val : Int) = some (reachN m.val n.val : Int) := by decide +kernel
theorem reachN_lt : ∀ m : Fin 128, ∀ n : Fin 7, reachN m.val n.val < 128 := by decide +kernel
theorem ones_fin : ∀ x : Fin 128, bits_OnesCount.f (x.val : Int) = some (popN x.val : Int) := by decide +kernel
theorem first_fin : dynamolaw21_first.f 100 = some true := by decide +kernel

theorem mono_at {α : Type} {f : Nat → Option α} (hm : ∀ k, LeO (f k) (f (k + 1))) {r : α} {k0 k : Nat} (hk : k0 ≤ k) (h : f k0 = some r) : f k = some r := by
  obtain ⟨d, rfl⟩ : ∃ d, k = k0 + d := ⟨k - k0, by omega⟩
  clear hk
  induction d with
  | zero => exact h
  | succ d ih => exact hm (k0 + d) _ ih
theorem reach_at (m n k : Nat) (hm : m < 128) (hn : n < 7) (hk : 100 ≤ k) : graph_Reach.f k (m : Int) (n : Int) = some (reachN m n : Int) :=
  mono_at (fun k => graph_Reach.mono (m : Int) (n : Int) k) hk (reach_fin ⟨m, hm⟩ ⟨n, hn⟩)
theorem first_at (k : Nat) (hk : 100 ≤ k) : dynamolaw21_first.f k = some true := mono_at (fun k => dynamolaw21_first.mono k) hk first_fin

def partsN (m : Nat) : Nat := ((List.range 7).filter fun n => reachN m n % 2 ^ n = 0).length
def joinedN (m : Nat) : Bool := (List.range 4).any fun s => decide (1 < popN (reachN m s % 16))
theorem parts_fin : ∀ m : Fin 128, graph_Parts.f 100 (m.val : Int) = some (partsN m.val : Int) := by decide +kernel
theorem joined_fin : ∀ m : Fin 128, graph_Joined.f 100 (m.val : Int) = some (joinedN m.val) := by decide +kernel
theorem bit_fin : ∀ r : Fin 128, ∀ b : Fin 7, Go.bits .and .i64 (shr .i64 (r.val : Int) (IntKind.u64.wrap (b.val : Int))) 1 = ((r.val / 2 ^ b.val % 2 : Nat) : Int) := by decide +kernel
theorem more_fin : ∀ m : Fin 128, ∀ c : Fin 7, Go.bits .or .i64 (m.val : Int) (shl .i64 1 (IntKind.u64.wrap (c.val : Int))) = ((m.val ||| 2 ^ c.val : Nat) : Int) := by decide +kernel
theorem ends_fin : ∀ c : Fin 7, graph_Ends.f (c.val : Int) = some (((endsN c.val).1 : Int), ((endsN c.val).2 : Int)) := by decide +kernel
theorem endsN_lt (c : Nat) : (endsN c).1 < 7 ∧ (endsN c).2 < 7 := by
  unfold endsN; split <;> decide
theorem parts_at (m k : Nat) (hm : m < 128) (hk : 100 ≤ k) : graph_Parts.f k (m : Int) = some (partsN m : Int) :=
  mono_at (fun k => graph_Parts.mono (m : Int) k) hk (parts_fin ⟨m, hm⟩)
theorem joined_at (m k : Nat) (hm : m < 128) (hk : 100 ≤ k) : graph_Joined.f k (m : Int) = some (joinedN m) :=
  mono_at (fun k => graph_Joined.mono (m : Int) k) hk (joined_fin ⟨m, hm⟩)
theorem bit_at (r b : Nat) (hr : r < 128) (hb : b < 7) : Go.bits .and .i64 (shr .i64 (r : Int) (IntKind.u64.wrap (b : Int))) 1 = ((r / 2 ^ b % 2 : Nat) : Int) := bit_fin ⟨r, hr⟩ ⟨b, hb⟩
theorem more_at (m c : Nat) (hm : m < 128) (hc : c < 7) : Go.bits .or .i64 (m : Int) (shl .i64 1 (IntKind.u64.wrap (c : Int))) = ((m ||| 2 ^ c : Nat) : Int) := more_fin ⟨m, hm⟩ ⟨c, hc⟩
theorem more_lt : ∀ m : Fin 128, ∀ c : Fin 7, m.val ||| 2 ^ c.val < 128 := by decide +kernel
def lawA (m c : Nat) : Bool :=
  let more := m ||| 2 ^ c; let a := (endsN c).1; let b := (endsN c).2
  decide (reachN more a / 2 ^ b % 2 = 1) && decide (partsN more + (if reachN m a / 2 ^ b % 2 = 0 then 1 else 0) = partsN m) && (!joinedN m || joinedN more) && decide (partsN m ≤ 7)
theorem lawA_fin : ∀ m : Fin 128, ∀ c : Fin 7, lawA m.val c.val = true := by decide +kernel
def lawB (m c x : Nat) : Bool := decide ((reachN m x &&& (127 ^^^ reachN (m ||| 2 ^ c) x)) = 0)
theorem lawB_fin : ∀ m : Fin 128, ∀ c x : Fin 7, lawB m.val c.val x.val = true := by decide +kernel
def lawC (m x y : Nat) : Bool := decide (reachN m x / 2 ^ y % 2 = reachN m y / 2 ^ x % 2) && decide (reachN m x / 2 ^ x % 2 = 1)
theorem lawC_fin : ∀ m : Fin 128, ∀ x y : Fin 7, lawC m.val x.val y.val = true := by decide +kernel
theorem reach_lt (m n : Nat) (hm : m < 128) (hn : n < 7) : reachN m n < 128 := reachN_lt ⟨m, hm⟩ ⟨n, hn⟩
theorem wrapu_nn (x : Int) : 0 ≤ IntKind.u64.wrap x := by rw [IntKind.wrap_u64]; omega
theorem joins_j0 (k m c x y : Nat) (hm : m < 128) (hc : c < 7) (hx : x < 7) (hy : y < 7) (hk : 100 ≤ k) :
    dynamolaw21_GraphJoins.j0 (k + 1) (m : Int) (x : Int) (y : Int) true ((m ||| 2 ^ c : Nat) : Int) ((endsN c).1 : Int) ((endsN c).2 : Int) (partsN (m ||| 2 ^ c) : Int) (partsN (m ||| 2 ^ c) : Int) = some true := by
  have hA := lawA_fin ⟨m, hm⟩ ⟨c, hc⟩
  have hB := lawB_fin ⟨m, hm⟩ ⟨c, hc⟩ ⟨x, hx⟩
  have hC := lawC_fin ⟨m, hm⟩ ⟨x, hx⟩ ⟨y, hy⟩
  have hml : m ||| 2 ^ c < 128 := more_lt ⟨m, hm⟩ ⟨c, hc⟩
  obtain ⟨ha, hb⟩ := endsN_lt c
  simp only [lawA, lawB, lawC, Bool.and_eq_true, decide_eq_true_eq] at hA hB hC
  obtain ⟨⟨⟨A1, A2⟩, A3⟩, A4⟩ := hA
  obtain ⟨C1, C2⟩ := hC
  generalize hM : m ||| 2 ^ c = M at *
  generalize (endsN c).1 = a at *
  generalize (endsN c).2 = b at *
  have r1 := reach_lt M a hml ha
  have r2 := reach_lt m x hm hx
  have r3 := reach_lt M x hml hx
  have r4 := reach_lt m y hm hy
  simp only [dynamolaw21_GraphJoins.j0, if_true]
  rw [reach_at M a k hml ha hk, reach_at m x k hm hx hk, reach_at M x k hml hx hk, reach_at m y k hm hy hk, joined_at m k hm hk, joined_at M k hml hk]
  simp only [Option.bind_some]
  rw [if_pos (wrapu_nn _), bit_at _ b r1 hb, A1, if_pos (by rfl), gnot _ _ r2 r3, hB, if_pos (by rfl), if_pos (wrapu_nn _), if_pos (wrapu_nn _), bit_at _ y r2 hy, bit_at _ x r4 hx, bit_at _ x r2 hx, C1, C2]
  have e1 : ((((reachN m y / 2 ^ x % 2 : Nat) : Int) == 1) == (((reachN m y / 2 ^ x % 2 : Nat) : Int) == 1)) = true := by simp
  rw [if_pos e1]
  cases hj : joinedN m with
  | true =>
    have hj2 : joinedN M = true := by simpa [hj] using A3
    rw [hj2]; rfl
  | false => rfl
theorem GraphJoins : dynamolaw21_GraphJoins.Pure := by
  intro a0 a1 a2 a3 _ _ _ _
  obtain ⟨K, hK⟩ : ∃ K : Nat, K = 200 := ⟨_, rfl⟩
  refine ⟨K + 1, ?_⟩
  unfold dynamolaw21_GraphJoins.f
  obtain ⟨m, hm, em⟩ := number_nat a0 128 (by omega) (by omega)
  obtain ⟨c, hc, ec⟩ := number_nat a1 7 (by omega) (by omega)
  obtain ⟨x, hx, ex⟩ := number_nat a2 7 (by omega) (by omega)
  obtain ⟨y, hy, ey⟩ := number_nat a3 7 (by omega) (by omega)
  have hm : m < 128 := by omega
  have hc : c < 7 := by omega
  have hx : x < 7 := by omega
  have hy : y < 7 := by omega
  have hml : m ||| 2 ^ c < 128 := more_lt ⟨m, hm⟩ ⟨c, hc⟩
  obtain ⟨ha, hb⟩ := endsN_lt c
  have he := ends_fin ⟨c, hc⟩
  simp only at he
  rw [first_at (K + 1) (by omega), em, ec, ex, ey]
  simp only [Option.bind_some, if_true]
  rw [if_pos (wrapu_nn _), he]
  simp only [Option.bind_some]
  rw [more_at m c hm hc, parts_at m (K + 1) hm (by omega), parts_at _ (K + 1) hml (by omega), reach_at m _ (K + 1) hm ha (by omega)]
  simp only [Option.bind_some]
  rw [if_pos (wrapu_nn _), bit_at _ _ (reach_lt m _ hm ha) hb]
  have hA := lawA_fin ⟨m, hm⟩ ⟨c, hc⟩
  simp only [lawA, Bool.and_eq_true, decide_eq_true_eq] at hA
  obtain ⟨⟨⟨A1, A2⟩, A3⟩, A4⟩ := hA
  have hj := joins_j0 K m c x y hm hc hx hy (by omega)
  by_cases hz : reachN m (endsN c).1 / 2 ^ (endsN c).2 % 2 = 0
  · rw [if_pos (by rw [hz]; rfl)]
    rw [if_pos hz] at A2
    have hw : wrap64 ((partsN m : Int) - 1) = (partsN (m ||| 2 ^ c) : Int) := by unfold wrap64; omega
    rw [hw]; exact hj
  · rw [if_neg (by omega)]
    rw [if_neg hz] at A2
    have hw : (partsN m : Int) = (partsN (m ||| 2 ^ c) : Int) := by omega
    rw [hw]; exact hj

end Go.Proofs.YtjmggdccmggboabDoor.Pure
