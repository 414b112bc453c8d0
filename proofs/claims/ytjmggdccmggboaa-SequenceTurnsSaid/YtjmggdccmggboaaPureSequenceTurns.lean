/- Proved: from one choice to another first all that is not asked for is opened, then all the rest is closed, for every input. Conditions: none. -/
import Derived.Test.YtjmggdccmggboaaPSequenceTurnsx2
namespace Go.Proofs.Ytjmggdccmggboaa.Pure
open Go.RowKit Go.Proofs.Ytjmggdccmggboaa.PSequenceTurns Go.Proofs.YtjmggdccmggboaaW.PrintWords Go.Proofs.YtjmggdccmggboaaW.PrintLast Go.Proofs.YtjmggdccmggboaaW.PrintMore
set_option linter.unusedSimpArgs false
set_option linter.unusedVariables false
theorem number_eq (a n : Int) (hn : 0 < n) (hs : n ≤ 4611686018427387904) : dynamoworld_Number.f a n = some (a % n) := by
  unfold dynamoworld_Number.f
  rw [if_neg (by omega), Int.tmod_eq_emod]
  have h1 := Int.emod_nonneg a (show n ≠ 0 by omega)
  have h2 := Int.emod_lt_of_pos a hn
  have hd : n ∣ a ↔ a % n = 0 := Int.dvd_iff_emod_eq_zero
  by_cases h : 0 ≤ a ∨ n ∣ a
  · simp only [h, if_true]; rw [if_neg (by omega)]; congr 1; omega
  · simp only [h, if_false]; rw [hd] at h; rw [if_pos (by omega)]; congr 1; unfold wrap64; omega
theorem number_nat (a n : Int) (hn : 0 < n) (hs : n ≤ 4611686018427387904) : ∃ m : Nat, (m : Int) < n ∧ dynamoworld_Number.f a n = some (m : Int) := by
  have h1 := Int.emod_nonneg a (show n ≠ 0 by omega)
  have h2 := Int.emod_lt_of_pos a hn
  refine ⟨(a % n).toNat, by omega, ?_⟩
  rw [number_eq a n hn hs]; congr 1; omega

theorem wrap7 (n : Int) (h0 : 0 ≤ n) (h1 : n < 2 ^ 7) : IntKind.i64.wrap n = n := by rw [IntKind.wrap_i64]; omega
theorem gand (a b : Nat) (ha : a < 128) (hb : b < 128) : Go.bits .and .i64 (a : Int) (b : Int) = ((a &&& b : Nat) : Int) := (bits_nat .i64 7 (by decide) wrap7 a b ha hb).1
theorem gor (a b : Nat) (ha : a < 128) (hb : b < 128) : Go.bits .or .i64 (a : Int) (b : Int) = ((a ||| b : Nat) : Int) := (bits_nat .i64 7 (by decide) wrap7 a b ha hb).2
theorem gnot (a b : Nat) (ha : a < 128) (hb : b < 128) : Go.bits .andNot .i64 (a : Int) (b : Int) = ((a &&& (127 ^^^ b) : Nat) : Int) := by
  have hp : a % 2 ^ 64 = a := Nat.mod_eq_of_lt (by omega)
  have hb' : b % 2 ^ 64 = b := Nat.mod_eq_of_lt (by omega)
  have e : a &&& (2 ^ 64 - 1 - b) = a &&& (127 ^^^ b) := by
    apply Nat.eq_of_testBit_eq
    intro i
    rw [Nat.testBit_and, Nat.testBit_and, Nat.testBit_xor, show 2 ^ 64 - 1 - b = 2 ^ 64 - (b + 1) by omega, Nat.testBit_two_pow_sub_succ (by omega)]
    have h127 : Nat.testBit 127 i = decide (i < 7) := by rw [show (127 : Nat) = 2 ^ 7 - 1 by rfl, Nat.testBit_two_pow_sub_one]
    rw [h127]
    by_cases hi : i < 7
    · simp [hi, show i < 64 by omega]
    · have : Nat.testBit a i = false := Nat.testBit_lt_two_pow (Nat.lt_of_lt_of_le ha (Nat.pow_le_pow_right (n := 2) (by decide) (show 7 ≤ i by omega)))
      simp [this]
  simp only [bits, BitVec.ofInt_natCast, BitVec.toNat_and, BitVec.toNat_not, BitVec.toNat_ofNat]
  rw [show IntKind.i64.bits = 64 by rfl, hp, hb', e]
  have h : (127 ^^^ b) < 2 ^ 7 := Nat.xor_lt_two_pow (by decide) hb
  have h2 := Nat.and_lt_two_pow a h
  exact wrap7 _ (Int.natCast_nonneg _) (by omega)
theorem mx1 : ∀ x t : Fin 128, ((x.val &&& t.val) &&& (127 ^^^ t.val)) = 0 := by decide +kernel
theorem mx2 : ∀ t : Fin 128, (t.val &&& (127 ^^^ t.val)) = 0 := by decide +kernel
theorem mx1' (x t : Nat) (hx : x < 128) (ht : t < 128) : ((x &&& t) &&& (127 ^^^ t)) = 0 := mx1 ⟨x, hx⟩ ⟨t, ht⟩
theorem mx2' (t : Nat) (ht : t < 128) : (t &&& (127 ^^^ t)) = 0 := mx2 ⟨t, ht⟩
theorem and_lt (a b : Nat) (hb : b < 128) : a &&& b < 128 := Nat.and_lt_two_pow (n := 7) a hb
theorem or_lt (a b : Nat) (ha : a < 128) (hb : b < 128) : a ||| b < 128 := Nat.or_lt_two_pow (n := 7) ha hb

theorem next_nat (t a m : Nat) (ht : t < 128) (ha : a < 128) (hm : m < 128) : sequence_Next.f t a m = some (((if ((a ||| m) &&& (127 ^^^ t)) = 0 then t else a &&& t : Nat)) : Int) := by
  unfold sequence_Next.f
  rw [gor a m ha hm, gnot _ t (or_lt a m ha hm) ht, gand a t ha ht]
  by_cases h : ((a ||| m) &&& (127 ^^^ t)) = 0
  · rw [if_pos (by omega), if_pos h]
  · rw [if_neg (by omega), if_neg h]
theorem first_eq : dynamolaw23_first.f = some true := by decide +kernel

theorem joined_all : ∀ m : Fin 128, (graph_Joined.f 100 (m.val : Int)).isSome = true := by decide +kernel
def J (m : Nat) : Bool := (graph_Joined.f 100 (m : Int)).getD false
theorem joined_at (m k : Nat) (hm : m < 128) (hk : 100 ≤ k) : graph_Joined.f k (m : Int) = some (J m) := by
  have h0 : graph_Joined.f 100 (m : Int) = some (J m) := by
    have hs := joined_all ⟨m, hm⟩
    obtain ⟨b, hb⟩ := Option.isSome_iff_exists.mp hs
    have hb : graph_Joined.f 100 (m : Int) = some b := hb
    unfold J; rw [hb]; rfl
  obtain ⟨d, rfl⟩ : ∃ d, k = 100 + d := ⟨k - 100, by omega⟩
  clear hk
  induction d with
  | zero => exact h0
  | succ d ih => exact graph_Joined.mono (m : Int) (100 + d) _ ih
theorem or_in : ∀ u t : Fin 128, (u.val &&& (127 ^^^ t.val)) = 0 → (t.val ||| u.val) = t.val := by decide +kernel
theorem or_in' (u t : Nat) (hu : u < 128) (ht : t < 128) (h : (u &&& (127 ^^^ t)) = 0) : (t ||| u) = t := or_in ⟨u, hu⟩ ⟨t, ht⟩ h
theorem mx4 : ∀ x t : Fin 128, ((x.val &&& t.val) &&& (127 ^^^ x.val)) = 0 := by decide +kernel
theorem mx4' (x t : Nat) (hx : x < 128) (ht : t < 128) : ((x &&& t) &&& (127 ^^^ x)) = 0 := mx4 ⟨x, hx⟩ ⟨t, ht⟩

theorem safe_eq (k a m n : Nat) (ha : a < 128) (hm : m < 128) (hn : n < 128) (hk : 100 ≤ k) : sequence_Safe.f k a m n = some (if (n &&& (127 ^^^ a)) = 0 then true else !(J (n ||| m))) := by
  unfold sequence_Safe.f
  rw [gnot n a hn ha, gor n m hn hm, joined_at _ k (or_lt n m hn hm) hk]
  by_cases h : (n &&& (127 ^^^ a)) = 0
  · rw [if_pos (by omega), if_pos h]
  · rw [if_neg (by omega), if_neg h]; rfl

theorem cast_ne (x : Nat) (h : ¬ x = 0) : ¬ ((x : Nat) : Int) = 0 := by omega
theorem or_self' (a b : Nat) : (a ||| b) ||| b = a ||| b := by rw [Nat.or_assoc, Nat.or_self]
theorem ab1 (a b : Nat) : a ||| (a &&& b) = a := by
  apply Nat.eq_of_testBit_eq; intro i; rw [Nat.testBit_or, Nat.testBit_and]; cases a.testBit i <;> simp
theorem ab6 (a b : Nat) : (a &&& b) ||| a = a := by rw [Nat.or_comm]; exact ab1 a b
theorem ab3 (a b : Nat) : (a &&& b) &&& b = a &&& b := by rw [Nat.and_assoc, Nat.and_self]
/-- one step on the way, while nothing is proved open: from 'told' (a, or what is asked for already) -/
theorem turns_loop (a b : Nat) (ha : a < 128) (hb : b < 128) (hjb : J b = false) (n : Nat) (hn : n < 9) : ∀ (d k i t m : Nat), n - i = d → i ≤ n → d + 103 ≤ k →
    ((i = 0 ∧ t = a ∧ m = a) ∨ (0 < i ∧ (a &&& (127 ^^^ b)) ≠ 0 ∧ t = (a &&& b) ∧ m = a) ∨ (0 < i ∧ (a &&& (127 ^^^ b)) = 0 ∧ t = b ∧ m = b)) →
    dynamolaw23_SequenceTurns.l0 k (a : Int) (b : Int) (n : Int) true (t : Int) (m : Int) (i : Int) = some true := by
  have hab := and_lt a b hb
  intro d
  induction d with
  | zero =>
    intro k i t m hd hi hk hs
    rcases hs with ⟨h1, e1, e2⟩ | ⟨h1, h2, e1, e2⟩ | ⟨h1, h2, e1, e2⟩
    · obtain ⟨k, rfl⟩ : ∃ q, k = q + 1 := ⟨k - 1, by omega⟩
      simp only [dynamolaw23_SequenceTurns.l0]
      rw [if_neg (by omega), gnot a b ha hb, gand a b ha hb]
      rw [e1]
      rw [next_nat b a a hb ha ha, Nat.or_self]
      simp only [Option.bind_some]
      rw [if_pos (by omega)]
      by_cases hz : (a &&& (127 ^^^ b)) = 0
      · simp only [hz, if_true]
        rw [if_pos (by rfl), safe_eq k a a b ha ha hb (by omega), or_in' a b ha hb hz, hjb]
        simp
      · simp only [hz, if_false]
        rw [if_neg (by omega)]
        simp
    · obtain ⟨k, rfl⟩ : ∃ q, k = q + 1 := ⟨k - 1, by omega⟩
      simp only [dynamolaw23_SequenceTurns.l0]
      rw [if_neg (by omega), gnot a b ha hb, gand a b ha hb]
      rw [e1]
      rw [next_nat b (a &&& b) (a &&& b) hb hab hab, Nat.or_self, mx1' a b ha hb]
      simp only [Option.bind_some, if_true]
      rw [if_neg (by omega), safe_eq k (a &&& b) (a &&& b) b hab hab hb (by omega)]
      have e : b ||| (a &&& b) = b := by
        exact or_in' (a &&& b) b hab hb (mx1' a b ha hb)
      rw [e, hjb]; simp
    · obtain ⟨k, rfl⟩ : ∃ q, k = q + 1 := ⟨k - 1, by omega⟩
      simp only [dynamolaw23_SequenceTurns.l0]
      rw [if_neg (by omega), gnot a b ha hb, gand a b ha hb]
      rw [e1]
      rw [next_nat b b b hb hb hb, Nat.or_self, mx2' b hb]
      simp only [Option.bind_some, if_true]
      rw [if_neg (by omega), safe_eq k b b b hb hb hb (by omega), mx2' b hb]
      simp
  | succ d ih =>
    intro k i t m hd hi hk hs
    have hin : (i : Int) < (n : Int) := by clear hs; omega
    have g1 : n - (i + 1) = d := by clear hs; omega
    have g2 : i + 1 ≤ n := by clear hs; omega
    have g4 : 0 < i + 1 := by clear hs; omega
    have hw : wrap64 ((i : Int) + 1) = ((i + 1 : Nat) : Int) := by clear hs; unfold wrap64; omega
    obtain ⟨k, rfl⟩ : ∃ q, k = q + 1 := ⟨k - 1, by clear hs; omega⟩
    have g3 : d + 103 ≤ k := by clear hs; omega
    have g5 : 100 ≤ k := by clear hs; omega
    rcases hs with ⟨h1, e1, e2⟩ | ⟨h1, h2, e1, e2⟩ | ⟨h1, h2, e1, e2⟩
    · simp only [dynamolaw23_SequenceTurns.l0]
      rw [if_pos hin, gnot a b ha hb, gand a b ha hb, hw]
      rw [e1, e2]
      rw [next_nat b a a hb ha ha, Nat.or_self]
      simp only [Option.bind_some]
      by_cases hz : (a &&& (127 ^^^ b)) = 0
      · simp only [hz, if_true]
        rw [if_pos (by rfl), safe_eq k a a b ha ha hb g5, or_in' a b ha hb hz, hjb]
        simp only [Bool.not_false, ite_self, Option.bind_some, if_true]
        rw [gor a b ha hb, Nat.or_comm a b, or_in' a b ha hb hz]
        exact ih k (i + 1) b b g1 g2 g3 (Or.inr (Or.inr ⟨g4, hz, rfl, rfl⟩))
      · simp only [hz, if_false, if_true]
        rw [if_neg (cast_ne _ hz)]
        rw [safe_eq k a a (a &&& b) ha ha hab g5, mx4' a b ha hb]
        simp only [if_true, Option.bind_some]
        rw [gor a (a &&& b) ha hab, ab1 a b]
        exact ih k (i + 1) (a &&& b) a g1 g2 g3 (Or.inr (Or.inl ⟨g4, hz, rfl, rfl⟩))
    · simp only [dynamolaw23_SequenceTurns.l0]
      rw [if_pos hin, gnot a b ha hb, gand a b ha hb, hw]
      rw [e1, e2]
      rw [next_nat b (a &&& b) a hb hab ha, ab6 a b]
      simp only [Option.bind_some, h2, if_false, ab3 a b, if_true]
      rw [if_neg (cast_ne _ h2), safe_eq k (a &&& b) a (a &&& b) hab ha hab g5, mx2' _ hab]
      simp only [if_true, Option.bind_some]
      rw [gor a (a &&& b) ha hab, ab1 a b]
      exact ih k (i + 1) (a &&& b) a g1 g2 g3 (Or.inr (Or.inl ⟨g4, h2, rfl, rfl⟩))
    · simp only [dynamolaw23_SequenceTurns.l0]
      rw [if_pos hin, gnot a b ha hb, gand a b ha hb, hw]
      rw [e1, e2]
      rw [next_nat b b b hb hb hb, Nat.or_self, mx2' b hb]
      simp only [Option.bind_some, if_true]
      rw [if_pos (by rw [h2]; rfl), safe_eq k b b b hb hb hb g5, mx2' b hb]
      simp only [if_true, Option.bind_some]
      rw [gor b b hb hb, Nat.or_self]
      exact ih k (i + 1) b b g1 g2 g3 (Or.inr (Or.inr ⟨g4, h2, rfl, rfl⟩))
theorem SequenceTurns : dynamolaw23_SequenceTurns.Pure := by
  intro a0 a1 a2 _ _ _
  obtain ⟨K, hK⟩ : ∃ K : Nat, K = 199 := ⟨_, rfl⟩
  refine ⟨K + 1, ?_⟩
  unfold dynamolaw23_SequenceTurns.f
  obtain ⟨a, ha, ea⟩ := number_nat a0 128 (by omega) (by omega)
  obtain ⟨b, hb, eb⟩ := number_nat a1 128 (by omega) (by omega)
  obtain ⟨n, hn, en⟩ := number_nat a2 9 (by omega) (by omega)
  have ha : a < 128 := by omega
  have hb : b < 128 := by omega
  have hn : n < 9 := by omega
  rw [first_eq, ea, eb]
  simp only [Option.bind_some, if_true]
  rw [joined_at a (K + 1) ha (by omega), joined_at b (K + 1) hb (by omega)]
  simp only [Option.bind_some]
  by_cases hja : J a = true
  · rw [if_pos hja]; simp [dynamolaw23_SequenceTurns.j0]
  · rw [if_neg hja]
    by_cases hjb : J b = true
    · rw [hjb]; simp [dynamolaw23_SequenceTurns.j0]
    · have hjb : J b = false := by simpa using hjb
      rw [hjb]
      simp only [dynamolaw23_SequenceTurns.j0, Bool.false_eq_true, if_false]
      rw [en]
      simp only [Option.bind_some]
      exact turns_loop a b ha hb hjb n hn n K 0 a a (by omega) (by omega) (by omega) (Or.inl ⟨rfl, rfl, rfl⟩)

end Go.Proofs.Ytjmggdccmggboaa.Pure
