/- Proved: nothing is told that is not asked for, what was told and is asked for stays told, for every input. Conditions: none. -/
import Derived.Test.YtjmggdccmggboaaPSequenceLeavesx1
namespace Go.Proofs.Ytjmggdccmggboaa.Pure
open Go.RowKit Go.Proofs.Ytjmggdccmggboaa.PSequenceLeaves Go.Proofs.YtjmggdccmggboaaW.PrintWords Go.Proofs.YtjmggdccmggboaaW.PrintLast Go.Proofs.YtjmggdccmggboaaW.PrintMore
set_option linter.unusedSimpArgs false
set_option linter.unusedVariables false
theorem number_eq (a n : Int) (hn : 0 < n) (hs : n ≤ 4611686018427387904) : dynamoworld_Number.f a n = some (a % n) := by
  unfold dynamoworld_Number.f
  rw [if_neg (by omega), Int.tmod_eq_emod]
  have h1 := Int.emod_nonneg a (show n ≠ 0 by omega)
  have h2 := Int.emod_lt_of_pos a hn
  have hd : n ∣ a ↔ a % n = 0 := Int.dvd_iff_emod_eq_zero
  by_cases h : 0 ≤ a ∨ n ∣ a
  · simp only [h, if_true]; rw [if_neg (by omega)]; congr 1; omega
  · simp only [h, if_false]; rw [hd] at h; rw [if_pos (by omega)]; congr 1; unfold wrap64; omega
theorem number_nat (a n : Int) (hn : 0 < n) (hs : n ≤ 4611686018427387904) : ∃ m : Nat, (m : Int) < n ∧ dynamoworld_Number.f a n = some (m : Int) := by
  have h1 := Int.emod_nonneg a (show n ≠ 0 by omega)
  have h2 := Int.emod_lt_of_pos a hn
  refine ⟨(a % n).toNat, by omega, ?_⟩
  rw [number_eq a n hn hs]; congr 1; omega

theorem wrap7 (n : Int) (h0 : 0 ≤ n) (h1 : n < 2 ^ 7) : IntKind.i64.wrap n = n := by rw [IntKind.wrap_i64]; omega
theorem gand (a b : Nat) (ha : a < 128) (hb : b < 128) : Go.bits .and .i64 (a : Int) (b : Int) = ((a &&& b : Nat) : Int) := (bits_nat .i64 7 (by decide) wrap7 a b ha hb).1
theorem gor (a b : Nat) (ha : a < 128) (hb : b < 128) : Go.bits .or .i64 (a : Int) (b : Int) = ((a ||| b : Nat) : Int) := (bits_nat .i64 7 (by decide) wrap7 a b ha hb).2
theorem gnot (a b : Nat) (ha : a < 128) (hb : b < 128) : Go.bits .andNot .i64 (a : Int) (b : Int) = ((a &&& (127 ^^^ b) : Nat) : Int) := by
  have hp : a % 2 ^ 64 = a := Nat.mod_eq_of_lt (by omega)
  have hb' : b % 2 ^ 64 = b := Nat.mod_eq_of_lt (by omega)
  have e : a &&& (2 ^ 64 - 1 - b) = a &&& (127 ^^^ b) := by
    apply Nat.eq_of_testBit_eq
    intro i
    rw [Nat.testBit_and, Nat.testBit_and, Nat.testBit_xor, show 2 ^ 64 - 1 - b = 2 ^ 64 - (b + 1) by omega, Nat.testBit_two_pow_sub_succ (by omega)]
    have h127 : Nat.testBit 127 i = decide (i < 7) := by rw [show (127 : Nat) = 2 ^ 7 - 1 by rfl, Nat.testBit_two_pow_sub_one]
    rw [h127]
    by_cases hi : i < 7
    · simp [hi, show i < 64 by omega]
    · have : Nat.testBit a i = false := Nat.testBit_lt_two_pow (Nat.lt_of_lt_of_le ha (Nat.pow_le_pow_right (n := 2) (by decide) (show 7 ≤ i by omega)))
      simp [this]
  simp only [bits, BitVec.ofInt_natCast, BitVec.toNat_and, BitVec.toNat_not, BitVec.toNat_ofNat]
  rw [show IntKind.i64.bits = 64 by rfl, hp, hb', e]
  have h : (127 ^^^ b) < 2 ^ 7 := Nat.xor_lt_two_pow (by decide) hb
  have h2 := Nat.and_lt_two_pow a h
  exact wrap7 _ (Int.natCast_nonneg _) (by omega)
theorem mx1 : ∀ x t : Fin 128, ((x.val &&& t.val) &&& (127 ^^^ t.val)) = 0 := by decide +kernel
theorem mx2 : ∀ t : Fin 128, (t.val &&& (127 ^^^ t.val)) = 0 := by decide +kernel
theorem mx1' (x t : Nat) (hx : x < 128) (ht : t < 128) : ((x &&& t) &&& (127 ^^^ t)) = 0 := mx1 ⟨x, hx⟩ ⟨t, ht⟩
theorem mx2' (t : Nat) (ht : t < 128) : (t &&& (127 ^^^ t)) = 0 := mx2 ⟨t, ht⟩
theorem and_lt (a b : Nat) (hb : b < 128) : a &&& b < 128 := Nat.and_lt_two_pow (n := 7) a hb
theorem or_lt (a b : Nat) (ha : a < 128) (hb : b < 128) : a ||| b < 128 := Nat.or_lt_two_pow (n := 7) ha hb

theorem next_nat (t a m : Nat) (ht : t < 128) (ha : a < 128) (hm : m < 128) : sequence_Next.f t a m = some (((if ((a ||| m) &&& (127 ^^^ t)) = 0 then t else a &&& t : Nat)) : Int) := by
  unfold sequence_Next.f
  rw [gor a m ha hm, gnot _ t (or_lt a m ha hm) ht, gand a t ha ht]
  by_cases h : ((a ||| m) &&& (127 ^^^ t)) = 0
  · rw [if_pos (by omega), if_pos h]
  · rw [if_neg (by omega), if_neg h]
theorem first_eq : dynamolaw23_first.f = some true := by decide +kernel

theorem mx3 : ∀ x t : Fin 128, ((x.val &&& t.val) &&& (127 ^^^ x.val)) = 0 := by decide +kernel
theorem SequenceLeaves : dynamolaw23_SequenceLeaves.Pure := by
  intro a0 a1 a2 _ _ _
  unfold dynamolaw23_SequenceLeaves.f
  obtain ⟨t, ht, et⟩ := number_nat a0 128 (by omega) (by omega)
  obtain ⟨a, ha, ea⟩ := number_nat a1 128 (by omega) (by omega)
  obtain ⟨m, hm, em⟩ := number_nat a2 128 (by omega) (by omega)
  have ht : t < 128 := by omega
  have ha : a < 128 := by omega
  have hm : m < 128 := by omega
  rw [first_eq, et, ea, em]
  simp only [Option.bind_some, if_true]
  rw [next_nat t a m ht ha hm, gand a t ha ht]
  simp only [Option.bind_some]
  have hl := and_lt a t ht
  by_cases h : ((a ||| m) &&& (127 ^^^ t)) = 0
  · simp only [h, if_true]
    rw [gnot t t ht ht, mx2' t ht, gnot (a &&& t) t hl ht, mx1' a t ha ht]
    rw [if_pos (by rfl), if_pos (by rfl), if_pos (by omega), if_pos (by omega)]
    simp
  · simp only [h, if_false]
    rw [gnot (a &&& t) t hl ht, mx1' a t ha ht, gnot (a &&& t) (a &&& t) hl hl, mx2' _ hl, gnot (a &&& t) a hl ha, mx3 ⟨a, ha⟩ ⟨t, ht⟩]
    rw [if_pos (by rfl), if_pos (by rfl), if_pos (by omega), if_pos (by omega), if_pos (by rfl)]

end Go.Proofs.Ytjmggdccmggboaa.Pure
