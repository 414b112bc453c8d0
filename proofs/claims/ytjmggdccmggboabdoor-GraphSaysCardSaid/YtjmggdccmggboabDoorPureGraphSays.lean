/- Proved: of any mask, who is joined to whom, whether two sources are, which one feeds which bus, how many groups there are, are what the document's functions say, for every input. Conditions: math/bits' two tables hold what the program's text lays in them (the tied card). -/
import Derived.Test.YtjmggdccmggboabDoorPGraphSaysx3
namespace Go.Proofs.YtjmggdccmggboabDoor.Pure
open Go.RowKit Go.Proofs.YtjmggdccmggboabDoor.PGraphSays Go.Proofs.YtjmggdccmggboabDoorW.PrintWords Go.Proofs.YtjmggdccmggboabDoorW.PrintLast Go.Proofs.YtjmggdccmggboabDoorW.PrintMore
set_option linter.unusedSimpArgs false
set_option linter.unusedVariables false
theorem mono_at {α : Type} {f : Nat → Option α} (hm : ∀ k, LeO (f k) (f (k + 1))) {r : α} {k0 k : Nat} (hk : k0 ≤ k) (h : f k0 = some r) : f k = some r := by
  obtain ⟨d, rfl⟩ : ∃ d, k = k0 + d := ⟨k - k0, by omega⟩
  clear hk
  induction d with
  | zero => exact h
  | succ d ih => exact hm (k0 + d) _ ih

theorem and1 (v : Int) : Go.bits .and .i64 v 1 = v % 2 := by
  simp only [bits]
  have h : ((BitVec.ofInt IntKind.i64.bits v &&& BitVec.ofInt IntKind.i64.bits 1).toNat : Int) = v % 2 := by
    rw [BitVec.toNat_and]
    have h1 : (BitVec.ofInt IntKind.i64.bits 1).toNat = 1 := by rfl
    rw [h1, Nat.and_one_is_mod, BitVec.toNat_ofInt]
    rw [show (2 ^ IntKind.i64.bits : Nat) = 18446744073709551616 by rfl]
    omega
  rw [h, IntKind.wrap_i64]; omega
theorem bit_low (m c : Int) (h0 : 0 ≤ c) (h7 : c < 7) : Go.bits .and .i64 (shr .i64 m c) 1 = Go.bits .and .i64 (shr .i64 (m % 128) c) 1 := by
  rw [and1, and1]
  obtain ⟨n, rfl⟩ : ∃ n : Nat, c = n := ⟨c.toNat, by omega⟩
  have hn : n < 7 := by omega
  unfold shr
  have hmin : min ((n : Int)).toNat IntKind.i64.bits = n := by rw [show IntKind.i64.bits = 64 by rfl]; omega
  rw [hmin]
  have : n = 0 ∨ n = 1 ∨ n = 2 ∨ n = 3 ∨ n = 4 ∨ n = 5 ∨ n = 6 := by omega
  rcases this with rfl | rfl | rfl | rfl | rfl | rfl | rfl <;> simp <;> omega
theorem wrapu (c : Int) (h0 : 0 ≤ c) (h7 : c < 100) : IntKind.u64.wrap c = c := by rw [IntKind.wrap_u64]; omega
theorem reach_low (m : Int) : ∀ k, (∀ x5 x18, graph_Reach.l0 k m x5 x18 = graph_Reach.l0 k (m % 128) x5 x18) ∧ (∀ x5 x18 x20, 0 ≤ x20 → graph_Reach.l1 k m x5 x18 x20 = graph_Reach.l1 k (m % 128) x5 x18 x20) := by
  intro k
  induction k with
  | zero => exact ⟨fun _ _ => rfl, fun _ _ _ _ => rfl⟩
  | succ k ih =>
    obtain ⟨i0, i1⟩ := ih
    refine ⟨fun x5 x18 => ?_, fun x5 x18 x20 h0 => ?_⟩
    · simp only [graph_Reach.l0]; rw [i1 _ _ 0 (by omega)]
    · simp only [graph_Reach.l1]
      by_cases h7 : x20 < 7
      · have hw : wrap64 (x20 + 1) = x20 + 1 := by unfold wrap64; omega
        simp only [h7, if_true, hw, bit_low m x20 h0 h7, i1 _ _ (x20 + 1) (by omega)]
      · simp only [h7, if_false, i0]
theorem Reach_low (m n : Int) (k : Nat) : graph_Reach.f k m n = graph_Reach.f k (m % 128) n := by
  unfold graph_Reach.f
  cases k with
  | zero => rfl
  | succ k => simp only [graph_Reach.j0, (reach_low m k).1]

theorem rreach_low (m : Int) : ∀ k, (∀ x5 x6, dynamoref15_Reach.l0 k m x5 x6 = dynamoref15_Reach.l0 k (m % 128) x5 x6) ∧ (∀ x5 x6 x7, 0 ≤ x7 → dynamoref15_Reach.l1 k m x5 x6 x7 = dynamoref15_Reach.l1 k (m % 128) x5 x6 x7) := by
  intro k
  induction k with
  | zero => exact ⟨fun _ _ => rfl, fun _ _ _ _ => rfl⟩
  | succ k ih =>
    obtain ⟨i0, i1⟩ := ih
    refine ⟨fun x5 x18 => ?_, fun x5 x18 x20 h0 => ?_⟩
    · simp only [dynamoref15_Reach.l0]; rw [i1 _ _ 0 (by omega)]
    · simp only [dynamoref15_Reach.l1]
      by_cases h7 : x20 < 7
      · have hw : wrap64 (x20 + 1) = x20 + 1 := by unfold wrap64; omega
        simp only [h7, if_true, hw, wrapu x20 h0 (by omega), bit_low m x20 h0 h7, i1 _ _ (x20 + 1) (by omega)]
      · simp only [h7, if_false, i0]
theorem RReach_low (m n : Int) (k : Nat) : dynamoref15_Reach.f k m n = dynamoref15_Reach.f k (m % 128) n := by
  unfold dynamoref15_Reach.f
  cases k with
  | zero => rfl
  | succ k => simp only [dynamoref15_Reach.j0, (rreach_low m k).1]
theorem Joined_low (m : Int) (k : Nat) : graph_Joined.f k m = graph_Joined.f k (m % 128) := by
  unfold graph_Joined.f
  generalize (0 : Int) = x
  induction k generalizing x with
  | zero => rfl
  | succ k ih => simp only [graph_Joined.l0, graph_fed.f]; rw [Reach_low m x k]; simp only [ih]
theorem RJoined_low (m : Int) (k : Nat) : dynamoref15_Joined.f k m = dynamoref15_Joined.f k (m % 128) := by
  unfold dynamoref15_Joined.f
  generalize (0 : Int) = x
  induction k generalizing x with
  | zero => rfl
  | succ k ih => simp only [dynamoref15_Joined.l0]; rw [RReach_low m x k]; simp only [ih]
theorem Feeds_low (m n : Int) (k : Nat) : graph_Feeds.f k m n = graph_Feeds.f k (m % 128) n := by
  unfold graph_Feeds.f graph_fed.f
  rw [Reach_low m n k]
theorem RFeeds_low (m n : Int) (k : Nat) : dynamoref15_Feeds.f k m n = dynamoref15_Feeds.f k (m % 128) n := by
  unfold dynamoref15_Feeds.f
  cases k with
  | zero => rfl
  | succ k => simp only [dynamoref15_Feeds.j0]; rw [RReach_low m n k]
theorem Parts_low (m : Int) (k : Nat) : graph_Parts.f k m = graph_Parts.f k (m % 128) := by
  unfold graph_Parts.f
  generalize (0 : Int) = y
  suffices h : ∀ x, graph_Parts.l0 k m y x = graph_Parts.l0 k (m % 128) y x from h _
  intro x
  induction k generalizing x y with
  | zero => rfl
  | succ k ih => simp only [graph_Parts.l0]; rw [Reach_low m x k]; simp only [ih]
theorem RParts_low (m : Int) (k : Nat) : dynamoref15_Parts.f k m = dynamoref15_Parts.f k (m % 128) := by
  unfold dynamoref15_Parts.f
  generalize (0 : Int) = y
  suffices h : ∀ x, dynamoref15_Parts.l0 k m y x = dynamoref15_Parts.l0 k (m % 128) y x from h _
  intro x
  induction k generalizing x y with
  | zero => rfl
  | succ k ih => simp only [dynamoref15_Parts.l0]; rw [RReach_low m x k]; simp only [ih]

def same (a b : Option Int) : Bool := a.isSome && decide (a = b)
def sameB (a b : Option Bool) : Bool := a.isSome && decide (a = b)
theorem reach_same : ∀ m : Fin 128, ∀ n : Fin 7, same (graph_Reach.f 100 (m.val : Int) (n.val : Int)) (dynamoref15_Reach.f 100 (m.val : Int) (n.val : Int)) = true := by decide +kernel
theorem joined_same : ∀ m : Fin 128, sameB (graph_Joined.f 100 (m.val : Int)) (dynamoref15_Joined.f 100 (m.val : Int)) = true := by decide +kernel
theorem feeds_same : ∀ m : Fin 128, ∀ n : Fin 3, same (graph_Feeds.f 100 (m.val : Int) (4 + n.val : Int)) (dynamoref15_Feeds.f 100 (m.val : Int) (4 + n.val : Int)) = true := by decide +kernel
theorem parts_same : ∀ m : Fin 128, same (graph_Parts.f 100 (m.val : Int)) (dynamoref15_Parts.f 100 (m.val : Int)) = true := by decide +kernel
theorem first_fin : dynamolaw21_first.f 100 = some true := by decide +kernel
theorem first_at (k : Nat) (hk : 100 ≤ k) : dynamolaw21_first.f k = some true := mono_at (fun k => dynamolaw21_first.mono k) hk first_fin
theorem same_both {a b : Option Int} (h : same a b = true) : ∃ r, a = some r ∧ b = some r := by
  unfold same at h; simp only [Bool.and_eq_true, decide_eq_true_eq] at h
  obtain ⟨r, hr⟩ := Option.isSome_iff_exists.mp h.1
  exact ⟨r, hr, h.2 ▸ hr⟩
theorem sameB_both {a b : Option Bool} (h : sameB a b = true) : ∃ r, a = some r ∧ b = some r := by
  unfold sameB at h; simp only [Bool.and_eq_true, decide_eq_true_eq] at h
  obtain ⟨r, hr⟩ := Option.isSome_iff_exists.mp h.1
  exact ⟨r, hr, h.2 ▸ hr⟩
theorem reach_both (m n : Int) (k : Nat) (hk : 100 ≤ k) : ∃ r, graph_Reach.f k m n = some r ∧ dynamoref15_Reach.f k m n = some r := by
  rw [Reach_low, RReach_low]
  have h1 := Int.emod_nonneg m (show (128 : Int) ≠ 0 by omega)
  have h2 := Int.emod_lt_of_pos m (show (0 : Int) < 128 by omega)
  generalize m % 128 = q at *
  by_cases hn : 0 ≤ n ∧ n < 7
  · obtain ⟨r, e1, e2⟩ := same_both (reach_same ⟨q.toNat, by omega⟩ ⟨n.toNat, by omega⟩)
    have a1 : ((q.toNat : Nat) : Int) = q := by omega
    have a2 : ((n.toNat : Nat) : Int) = n := by omega
    simp only [a1, a2] at e1 e2
    exact ⟨r, mono_at (fun k => graph_Reach.mono q n k) hk e1, mono_at (fun k => dynamoref15_Reach.mono q n k) hk e2⟩
  · refine ⟨0, ?_, ?_⟩
    · obtain ⟨k, rfl⟩ : ∃ j, k = j + 1 := ⟨k - 1, by omega⟩
      unfold graph_Reach.f
      by_cases h0 : n < 0
      · rw [if_pos h0]; simp [graph_Reach.j0]
      · rw [if_neg h0]; have : decide (n ≥ 7) = true := by simp; omega
        rw [this]; simp [graph_Reach.j0]
    · obtain ⟨k, rfl⟩ : ∃ j, k = j + 1 := ⟨k - 1, by omega⟩
      unfold dynamoref15_Reach.f
      by_cases h0 : n < 0
      · rw [if_pos h0]; simp [dynamoref15_Reach.j0]
      · rw [if_neg h0]; have : decide (n > 6) = true := by simp; omega
        rw [this]; simp [dynamoref15_Reach.j0]
theorem joined_both (m : Int) (k : Nat) (hk : 100 ≤ k) : ∃ r, graph_Joined.f k m = some r ∧ dynamoref15_Joined.f k m = some r := by
  rw [Joined_low, RJoined_low]
  have h1 := Int.emod_nonneg m (show (128 : Int) ≠ 0 by omega)
  have h2 := Int.emod_lt_of_pos m (show (0 : Int) < 128 by omega)
  generalize m % 128 = q at *
  obtain ⟨r, e1, e2⟩ := sameB_both (joined_same ⟨q.toNat, by omega⟩)
  have a1 : ((q.toNat : Nat) : Int) = q := by omega
  simp only [a1] at e1 e2
  exact ⟨r, mono_at (fun k => graph_Joined.mono q k) hk e1, mono_at (fun k => dynamoref15_Joined.mono q k) hk e2⟩
theorem parts_both (m : Int) (k : Nat) (hk : 100 ≤ k) : ∃ r, graph_Parts.f k m = some r ∧ dynamoref15_Parts.f k m = some r := by
  rw [Parts_low, RParts_low]
  have h1 := Int.emod_nonneg m (show (128 : Int) ≠ 0 by omega)
  have h2 := Int.emod_lt_of_pos m (show (0 : Int) < 128 by omega)
  generalize m % 128 = q at *
  obtain ⟨r, e1, e2⟩ := same_both (parts_same ⟨q.toNat, by omega⟩)
  have a1 : ((q.toNat : Nat) : Int) = q := by omega
  simp only [a1] at e1 e2
  exact ⟨r, mono_at (fun k => graph_Parts.mono q k) hk e1, mono_at (fun k => dynamoref15_Parts.mono q k) hk e2⟩
theorem ones_zero : bits_OnesCount.f (IntKind.u64.wrap (Go.bits .and .i64 0 15)) = some 0 := by decide +kernel
theorem reach_out (m n : Int) (k : Nat) (hk : 100 ≤ k) (hn : 6 < n) : graph_Reach.f k m n = some 0 := by
  obtain ⟨k, rfl⟩ : ∃ j, k = j + 1 := ⟨k - 1, by omega⟩
  unfold graph_Reach.f
  rw [if_neg (by omega)]; have : decide (n ≥ 7) = true := by simp; omega
  rw [this]; simp [graph_Reach.j0]
theorem feeds_in (q n : Nat) (k : Nat) (hk : 100 ≤ k) (hq : q < 128) (hn : n < 3) : ∃ r, graph_Feeds.f k (q : Int) (4 + (n : Int)) = some r ∧ dynamoref15_Feeds.f k (q : Int) (4 + (n : Int)) = some r := by
  obtain ⟨r, e1, e2⟩ := same_both (feeds_same ⟨q, hq⟩ ⟨n, hn⟩)
  exact ⟨r, mono_at (fun k => graph_Feeds.mono (q : Int) (4 + (n : Int)) k) hk e1, mono_at (fun k => dynamoref15_Feeds.mono (q : Int) (4 + (n : Int)) k) hk e2⟩
theorem feeds_out (q n : Int) (k : Nat) (hk : 100 ≤ k) (hn : n < 4 ∨ 6 < n) : graph_Feeds.f k q n = some (-1) := by
  unfold graph_Feeds.f
  by_cases h0 : n < 4
  · rw [if_pos h0]
  · rw [if_neg h0]; unfold graph_fed.f
    rw [reach_out q n k hk (by omega), Option.bind_some, Option.bind_some, ones_zero, Option.bind_some, if_neg (by omega)]
theorem rfeeds_out (q n : Int) (k : Nat) (hk : 100 ≤ k) (hn : n < 4 ∨ 6 < n) : dynamoref15_Feeds.f k q n = some (-1) := by
  obtain ⟨k, rfl⟩ : ∃ j, k = j + 1 := ⟨k - 1, by omega⟩
  unfold dynamoref15_Feeds.f
  by_cases h0 : n < 4
  · rw [if_pos h0]; simp only [dynamoref15_Feeds.j0, if_true]
  · rw [if_neg h0]; have : decide (n > 6) = true := by simp; omega
    rw [this]; simp only [dynamoref15_Feeds.j0, if_true]
theorem feeds_both (m n : Int) (k : Nat) (hk : 100 ≤ k) : ∃ r, graph_Feeds.f k m n = some r ∧ dynamoref15_Feeds.f k m n = some r := by
  by_cases hn : 4 ≤ n ∧ n < 7
  · rw [Feeds_low, RFeeds_low]
    have h1 := Int.emod_nonneg m (show (128 : Int) ≠ 0 by omega)
    have h2 := Int.emod_lt_of_pos m (show (0 : Int) < 128 by omega)
    obtain ⟨q, hq⟩ : ∃ q : Nat, m % 128 = q := ⟨(m % 128).toNat, by omega⟩
    obtain ⟨p, hp⟩ : ∃ p : Nat, n = 4 + (p : Int) := ⟨(n - 4).toNat, by omega⟩
    rw [hq, hp]
    exact feeds_in q p k hk (by omega) (by omega)
  · exact ⟨-1, feeds_out m n k hk (by omega), rfeeds_out m n k hk (by omega)⟩
theorem ends_some (c : Int) : ∃ r, graph_Ends.f c = some r := by
  unfold graph_Ends.f
  repeat' split
  all_goals exact ⟨_, rfl⟩
theorem says_loop (a0 a1 e1 e2 : Int) : ∀ (d k : Nat) (i : Int), 0 ≤ i → i ≤ 200 → (200 - i).toNat = d → d + 200 ≤ k → dynamolaw21_GraphSays.l0 k a0 a1 true e1 e2 e1 e2 i = some true := by
  intro d
  induction d using Nat.strongRecOn with
  | _ d ih =>
    intro k i h0 h1 hd hk
    obtain ⟨k, rfl⟩ : ∃ j, k = j + 1 := ⟨k - 1, by omega⟩
    simp only [dynamolaw21_GraphSays.l0]
    by_cases h : i < 128
    · rw [if_pos h]
      obtain ⟨r1, p1, q1⟩ := reach_both (Go.bits .xor .i64 a0 i) a1 k (by omega)
      obtain ⟨r2, p2, q2⟩ := joined_both (Go.bits .xor .i64 a0 i) k (by omega)
      obtain ⟨r3, p3, q3⟩ := feeds_both (Go.bits .xor .i64 a0 i) a1 k (by omega)
      obtain ⟨r4, p4, q4⟩ := parts_both (Go.bits .xor .i64 a0 i) k (by omega)
      rw [p1, q1, p2, q2, p3, q3, p4, q4]
      simp only [Option.bind_some, if_true, bne_self_eq_false, Bool.false_eq_true, if_false]
      have hw : wrap64 (i + 7) = i + 7 := by unfold wrap64; omega
      rw [hw]
      exact ih (200 - (i + 7)).toNat (by omega) k (i + 7) (by omega) (by omega) rfl (by omega)
    · rw [if_neg h]; simp
theorem GraphSays : dynamolaw21_GraphSays.Pure := by
  intro a0 a1 a2 _ _ _
  obtain ⟨K, hK⟩ : ∃ K : Nat, K = 500 := ⟨_, rfl⟩
  refine ⟨K, ?_⟩
  unfold dynamolaw21_GraphSays.f
  rw [first_at K (by omega)]
  simp only [Option.bind_some, if_true]
  have he : dynamoref15_Ends.f a2 = graph_Ends.f a2 := rfl
  have hs := ends_some a2
  obtain ⟨r, hr⟩ := hs
  rw [he, hr]
  simp only [Option.bind_some]
  exact says_loop a0 a1 r.1 r.2 200 K 0 (by omega) (by omega) (by omega) (by omega)

end Go.Proofs.YtjmggdccmggboabDoor.Pure
