/- What functions of this program do, each as a contract that its callers use, and what follows of it in plain numbers.
   By an AI agent. -/
import Derived.Test.YtlhhcongoplfpaaDoorDLO
import Derived.Test.YtlhhcongoplfpaaDoorCL0
import Derived.Test.YtlhhcongoplfpaaDoorCL1
import Derived.Test.YtlhhcongoplfpaaDoorCL2
namespace Go.Proofs.YtlhhcongoplfpaaDoor
open Go Go.Proofs.YtlhhcongoplfpaaDoorAB
set_option linter.unusedSimpArgs false
set_option linter.unusedVariables false

theorem shl7 : ∀ c : Fin 7, IntKind.i64.wrap (1 * 2 ^ min (IntKind.u64.wrap ((c.val : Nat) : Int)).toNat IntKind.i64.bits) = ((2 ^ c.val : Nat) : Int) := by decide +kernel
theorem u64_7 : ∀ c : Fin 7, 0 ≤ IntKind.u64.wrap ((c.val : Nat) : Int) := by decide +kernel
theorem p7 : ∀ c : Fin 7, 2 ^ c.val < 128 := by decide +kernel
theorem shx {k cn : Nat} (hk : k < 128) (hc : cn < 7) : anX ((k : Nat) : Int) (IntKind.i64.wrap (1 * 2 ^ min (IntKind.u64.wrap ((cn : Nat) : Int)).toNat IntKind.i64.bits)) = ((nAn k (2 ^ cn) : Nat) : Int) := by
  rw [shl7 ⟨cn, hc⟩]; exact anX_eq hk (p7 ⟨cn, hc⟩)
theorem nAn_lt {a b : Nat} (ha : a < 128) : nAn a b < 128 := Nat.lt_of_le_of_lt Nat.and_le_left ha
theorem num_nat (n : Int) (b : Int) (h : 0 < b) (h2 : b < 1000000000) : ∃ k : Nat, num n b = ((k : Nat) : Int) ∧ (k : Int) < b := by
  obtain ⟨a, c⟩ := num_nonneg n b h h2
  exact ⟨(num n b).toNat, by omega, by omega⟩

set_option maxHeartbeats 4000000 in
theorem lessT_00 (l0 l1 l2 l3 : Bool) (r0 r1 r2 r3 : Int) (s0 s1 s2 : Bool) (can must now : Int) (c s b : Int) (F : Fc) (cn : Nat) (h7 : cn < 7) (fc : F.can < 128) (fm : F.must < 128) (fn : F.now < 128)
  (hF : Ctr Tryd.prog 6 49 [.agg ⟨[.bool l0, .bool l1, .bool l2, .bool l3, I64 r0, I64 r1, I64 r2, I64 r3, .bool s0, .bool s1, .bool s2, I64 can, I64 must, I64 now]⟩] [] (.agg ⟨F.cells⟩) []) (hNc : Ctr Tryd.prog 6 34 [I64 c, I64 7] [] (I64 ((cn : Nat) : Int)) []) (hNb : Ctr Tryd.prog 6 34 [I64 b, I64 3] [] (I64 0) []) (hNs : Ctr Tryd.prog 6 34 [I64 s, I64 4] [] (I64 0) []) : Ctr Tryd.prog 6 15 [.agg ⟨[.bool l0, .bool l1, .bool l2, .bool l3, I64 r0, I64 r1, I64 r2, I64 r3, .bool s0, .bool s1, .bool s2, I64 can, I64 must, I64 now]⟩, I64 c, I64 s, I64 b] [(5, .ro 0 tzv)] (.bool true) [.ro 0 tzv] := by
  obtain ⟨K, hK⟩ : ∃ K : Fc, K = { F with can := nAn F.can (2 ^ cn), s0 := true } := ⟨_, rfl⟩
  obtain ⟨H, hH⟩ : ∃ H : Fc, H = { F with l0 := false } := ⟨_, rfl⟩
  have kc : K.can < 128 := by rw [hK]; exact nAn_lt fc
  have km : K.must < 128 := by rw [hK]; exact fm
  have kn : K.now < 128 := by rw [hK]; exact fn
  have hc : H.can < 128 := by rw [hH]; exact fc
  have hm : H.must < 128 := by rw [hH]; exact fm
  have hn : H.now < 128 := by rw [hH]; exact fn
  have hB := choose_Best F fc fm fn
  have hBK := choose_Best K kc km kn
  have hBH := choose_Best H hc hm hn
  have KS : ∀ k, F.s k = true → K.s k = true := by
    intro k h; rw [hK]
    match k, h with
    | 0, h => first | rfl | exact h
    | 1, h => first | rfl | exact h
    | 2, h => first | rfl | exact h
    | k + 3, h => exact h
  have HL : ∀ k, H.l k = true → F.l k = true := by
    intro k h; rw [hH] at h
    match k, h with
    | 0, h => first | exact h | cases h
    | 1, h => first | exact h | cases h
    | 2, h => first | exact h | cases h
    | 3, h => first | exact h | cases h
    | k + 4, h => exact h
  have Hf : ∀ m, fitB H m = fitB F m := by intro m; rw [hH]; rfl
  have KF : ∀ y, y < 128 → fitB K y = true → fitB F y = true := fun y hy h =>
    fit_less (by rw [hK]; exact nAn_mono ⟨F.can, fc⟩ ⟨cn, h7⟩) kc fc (by rw [hK]) fm KS hy h
  have hfy := choose_Fits F fc fm (bestF K 128).1
  have BK := (bestOk K 128).yes
  have BF := (bestOk F 128).yes
  have BH := (bestOk H 128).yes
  have hki := found_iff K F KF
  have hhi := found_iff H F (fun m _ h => (Hf m) ▸ h)
  have hfh := found_iff F H (fun m _ h => (Hf m).symm ▸ h)
  have hle := best_less (F := F) (K := H) HL Hf
  have eK : (.agg ⟨K.cells⟩ : Value) = .agg ⟨[.bool F.l0, .bool F.l1, .bool F.l2, .bool F.l3, I64 F.r0, I64 F.r1, I64 F.r2, I64 F.r3, .bool true, .bool F.s1, .bool F.s2, I64 (anX ((F.can : Nat) : Int) (IntKind.i64.wrap (1 * 2 ^ min (IntKind.u64.wrap ((cn : Nat) : Int)).toNat IntKind.i64.bits))), I64 ((F.must : Nat) : Int), I64 ((F.now : Nat) : Int)]⟩ := by rw [shx fc h7, hK]; rfl
  have eH : (.agg ⟨H.cells⟩ : Value) = .agg ⟨[.bool false, .bool F.l1, .bool F.l2, .bool F.l3, I64 F.r0, I64 F.r1, I64 F.r2, I64 F.r3, .bool F.s0, .bool F.s1, .bool F.s2, I64 ((F.can : Nat) : Int), I64 ((F.must : Nat) : Int), I64 ((F.now : Nat) : Int)]⟩ := by rw [hH]; rfl
  rw [eK] at hBK
  have hsF := choose_Score4 F fn (bestF F 128).1
  have hsH := choose_Score4 H hn (bestF H 128).1
  rw [eH] at hBH hsH
  have q0 := u64_7 ⟨cn, h7⟩
  have N7 : ∀ x, x = false ∨ x = true := by decide
  rcases N7 (bestF F 128).2.1 with a | a
  · have k0 : (bestF K 128).2.1 = false := by cases h : (bestF K 128).2.1 with | false => rfl | true => rw [hki h] at a; cases a
    have z0 : (bestF H 128).2.1 = false := by cases h : (bestF H 128).2.1 with | false => rfl | true => rw [hhi h] at a; cases a
    rw [a] at hB; rw [k0] at hBK; rw [z0] at hBH
    exact less_0000 l0 l1 l2 l3 r0 r1 r2 r3 s0 s1 s2 can must now c s b F cn _ _ _ hF hNc hNb hNs q0 hB hBK hBH
  · have z1 := hfh a
    rw [a] at hB; rw [z1] at hBH
    have l := hle a z1
    have hx := hsF (BF a).1
    have hz := hsH (BH z1).1
    rcases N7 (bestF K 128).2.1 with k | k
    · rw [k] at hBK
      exact less_0001 l0 l1 l2 l3 r0 r1 r2 r3 s0 s1 s2 can must now c s b F cn _ _ _ _ _ _ _ _ _ _ _ hF hNc hNb hNs q0 hB hBK hBH hx hz l
    · rw [k] at hBK
      have y1 := hfy (BK k).1
      rw [KF _ (BK k).1 (BK k).2.1] at y1
      exact less_0011 l0 l1 l2 l3 r0 r1 r2 r3 s0 s1 s2 can must now c s b F cn _ _ _ _ _ _ _ _ _ _ _ hF hNc hNb hNs q0 hB hBK hBH y1 hx hz l

set_option maxHeartbeats 4000000 in
theorem lessT_01 (l0 l1 l2 l3 : Bool) (r0 r1 r2 r3 : Int) (s0 s1 s2 : Bool) (can must now : Int) (c s b : Int) (F : Fc) (cn : Nat) (h7 : cn < 7) (fc : F.can < 128) (fm : F.must < 128) (fn : F.now < 128)
  (hF : Ctr Tryd.prog 6 49 [.agg ⟨[.bool l0, .bool l1, .bool l2, .bool l3, I64 r0, I64 r1, I64 r2, I64 r3, .bool s0, .bool s1, .bool s2, I64 can, I64 must, I64 now]⟩] [] (.agg ⟨F.cells⟩) []) (hNc : Ctr Tryd.prog 6 34 [I64 c, I64 7] [] (I64 ((cn : Nat) : Int)) []) (hNb : Ctr Tryd.prog 6 34 [I64 b, I64 3] [] (I64 0) []) (hNs : Ctr Tryd.prog 6 34 [I64 s, I64 4] [] (I64 1) []) : Ctr Tryd.prog 6 15 [.agg ⟨[.bool l0, .bool l1, .bool l2, .bool l3, I64 r0, I64 r1, I64 r2, I64 r3, .bool s0, .bool s1, .bool s2, I64 can, I64 must, I64 now]⟩, I64 c, I64 s, I64 b] [(5, .ro 0 tzv)] (.bool true) [.ro 0 tzv] := by
  obtain ⟨K, hK⟩ : ∃ K : Fc, K = { F with can := nAn F.can (2 ^ cn), s0 := true } := ⟨_, rfl⟩
  obtain ⟨H, hH⟩ : ∃ H : Fc, H = { F with l1 := false } := ⟨_, rfl⟩
  have kc : K.can < 128 := by rw [hK]; exact nAn_lt fc
  have km : K.must < 128 := by rw [hK]; exact fm
  have kn : K.now < 128 := by rw [hK]; exact fn
  have hc : H.can < 128 := by rw [hH]; exact fc
  have hm : H.must < 128 := by rw [hH]; exact fm
  have hn : H.now < 128 := by rw [hH]; exact fn
  have hB := choose_Best F fc fm fn
  have hBK := choose_Best K kc km kn
  have hBH := choose_Best H hc hm hn
  have KS : ∀ k, F.s k = true → K.s k = true := by
    intro k h; rw [hK]
    match k, h with
    | 0, h => first | rfl | exact h
    | 1, h => first | rfl | exact h
    | 2, h => first | rfl | exact h
    | k + 3, h => exact h
  have HL : ∀ k, H.l k = true → F.l k = true := by
    intro k h; rw [hH] at h
    match k, h with
    | 0, h => first | exact h | cases h
    | 1, h => first | exact h | cases h
    | 2, h => first | exact h | cases h
    | 3, h => first | exact h | cases h
    | k + 4, h => exact h
  have Hf : ∀ m, fitB H m = fitB F m := by intro m; rw [hH]; rfl
  have KF : ∀ y, y < 128 → fitB K y = true → fitB F y = true := fun y hy h =>
    fit_less (by rw [hK]; exact nAn_mono ⟨F.can, fc⟩ ⟨cn, h7⟩) kc fc (by rw [hK]) fm KS hy h
  have hfy := choose_Fits F fc fm (bestF K 128).1
  have BK := (bestOk K 128).yes
  have BF := (bestOk F 128).yes
  have BH := (bestOk H 128).yes
  have hki := found_iff K F KF
  have hhi := found_iff H F (fun m _ h => (Hf m) ▸ h)
  have hfh := found_iff F H (fun m _ h => (Hf m).symm ▸ h)
  have hle := best_less (F := F) (K := H) HL Hf
  have eK : (.agg ⟨K.cells⟩ : Value) = .agg ⟨[.bool F.l0, .bool F.l1, .bool F.l2, .bool F.l3, I64 F.r0, I64 F.r1, I64 F.r2, I64 F.r3, .bool true, .bool F.s1, .bool F.s2, I64 (anX ((F.can : Nat) : Int) (IntKind.i64.wrap (1 * 2 ^ min (IntKind.u64.wrap ((cn : Nat) : Int)).toNat IntKind.i64.bits))), I64 ((F.must : Nat) : Int), I64 ((F.now : Nat) : Int)]⟩ := by rw [shx fc h7, hK]; rfl
  have eH : (.agg ⟨H.cells⟩ : Value) = .agg ⟨[.bool F.l0, .bool false, .bool F.l2, .bool F.l3, I64 F.r0, I64 F.r1, I64 F.r2, I64 F.r3, .bool F.s0, .bool F.s1, .bool F.s2, I64 ((F.can : Nat) : Int), I64 ((F.must : Nat) : Int), I64 ((F.now : Nat) : Int)]⟩ := by rw [hH]; rfl
  rw [eK] at hBK
  have hsF := choose_Score4 F fn (bestF F 128).1
  have hsH := choose_Score4 H hn (bestF H 128).1
  rw [eH] at hBH hsH
  have q0 := u64_7 ⟨cn, h7⟩
  have N7 : ∀ x, x = false ∨ x = true := by decide
  rcases N7 (bestF F 128).2.1 with a | a
  · have k0 : (bestF K 128).2.1 = false := by cases h : (bestF K 128).2.1 with | false => rfl | true => rw [hki h] at a; cases a
    have z0 : (bestF H 128).2.1 = false := by cases h : (bestF H 128).2.1 with | false => rfl | true => rw [hhi h] at a; cases a
    rw [a] at hB; rw [k0] at hBK; rw [z0] at hBH
    exact less_0100 l0 l1 l2 l3 r0 r1 r2 r3 s0 s1 s2 can must now c s b F cn _ _ _ hF hNc hNb hNs q0 hB hBK hBH
  · have z1 := hfh a
    rw [a] at hB; rw [z1] at hBH
    have l := hle a z1
    have hx := hsF (BF a).1
    have hz := hsH (BH z1).1
    rcases N7 (bestF K 128).2.1 with k | k
    · rw [k] at hBK
      exact less_0101 l0 l1 l2 l3 r0 r1 r2 r3 s0 s1 s2 can must now c s b F cn _ _ _ _ _ _ _ _ _ _ _ hF hNc hNb hNs q0 hB hBK hBH hx hz l
    · rw [k] at hBK
      have y1 := hfy (BK k).1
      rw [KF _ (BK k).1 (BK k).2.1] at y1
      exact less_0111 l0 l1 l2 l3 r0 r1 r2 r3 s0 s1 s2 can must now c s b F cn _ _ _ _ _ _ _ _ _ _ _ hF hNc hNb hNs q0 hB hBK hBH y1 hx hz l

set_option maxHeartbeats 4000000 in
theorem lessT_02 (l0 l1 l2 l3 : Bool) (r0 r1 r2 r3 : Int) (s0 s1 s2 : Bool) (can must now : Int) (c s b : Int) (F : Fc) (cn : Nat) (h7 : cn < 7) (fc : F.can < 128) (fm : F.must < 128) (fn : F.now < 128)
  (hF : Ctr Tryd.prog 6 49 [.agg ⟨[.bool l0, .bool l1, .bool l2, .bool l3, I64 r0, I64 r1, I64 r2, I64 r3, .bool s0, .bool s1, .bool s2, I64 can, I64 must, I64 now]⟩] [] (.agg ⟨F.cells⟩) []) (hNc : Ctr Tryd.prog 6 34 [I64 c, I64 7] [] (I64 ((cn : Nat) : Int)) []) (hNb : Ctr Tryd.prog 6 34 [I64 b, I64 3] [] (I64 0) []) (hNs : Ctr Tryd.prog 6 34 [I64 s, I64 4] [] (I64 2) []) : Ctr Tryd.prog 6 15 [.agg ⟨[.bool l0, .bool l1, .bool l2, .bool l3, I64 r0, I64 r1, I64 r2, I64 r3, .bool s0, .bool s1, .bool s2, I64 can, I64 must, I64 now]⟩, I64 c, I64 s, I64 b] [(5, .ro 0 tzv)] (.bool true) [.ro 0 tzv] := by
  obtain ⟨K, hK⟩ : ∃ K : Fc, K = { F with can := nAn F.can (2 ^ cn), s0 := true } := ⟨_, rfl⟩
  obtain ⟨H, hH⟩ : ∃ H : Fc, H = { F with l2 := false } := ⟨_, rfl⟩
  have kc : K.can < 128 := by rw [hK]; exact nAn_lt fc
  have km : K.must < 128 := by rw [hK]; exact fm
  have kn : K.now < 128 := by rw [hK]; exact fn
  have hc : H.can < 128 := by rw [hH]; exact fc
  have hm : H.must < 128 := by rw [hH]; exact fm
  have hn : H.now < 128 := by rw [hH]; exact fn
  have hB := choose_Best F fc fm fn
  have hBK := choose_Best K kc km kn
  have hBH := choose_Best H hc hm hn
  have KS : ∀ k, F.s k = true → K.s k = true := by
    intro k h; rw [hK]
    match k, h with
    | 0, h => first | rfl | exact h
    | 1, h => first | rfl | exact h
    | 2, h => first | rfl | exact h
    | k + 3, h => exact h
  have HL : ∀ k, H.l k = true → F.l k = true := by
    intro k h; rw [hH] at h
    match k, h with
    | 0, h => first | exact h | cases h
    | 1, h => first | exact h | cases h
    | 2, h => first | exact h | cases h
    | 3, h => first | exact h | cases h
    | k + 4, h => exact h
  have Hf : ∀ m, fitB H m = fitB F m := by intro m; rw [hH]; rfl
  have KF : ∀ y, y < 128 → fitB K y = true → fitB F y = true := fun y hy h =>
    fit_less (by rw [hK]; exact nAn_mono ⟨F.can, fc⟩ ⟨cn, h7⟩) kc fc (by rw [hK]) fm KS hy h
  have hfy := choose_Fits F fc fm (bestF K 128).1
  have BK := (bestOk K 128).yes
  have BF := (bestOk F 128).yes
  have BH := (bestOk H 128).yes
  have hki := found_iff K F KF
  have hhi := found_iff H F (fun m _ h => (Hf m) ▸ h)
  have hfh := found_iff F H (fun m _ h => (Hf m).symm ▸ h)
  have hle := best_less (F := F) (K := H) HL Hf
  have eK : (.agg ⟨K.cells⟩ : Value) = .agg ⟨[.bool F.l0, .bool F.l1, .bool F.l2, .bool F.l3, I64 F.r0, I64 F.r1, I64 F.r2, I64 F.r3, .bool true, .bool F.s1, .bool F.s2, I64 (anX ((F.can : Nat) : Int) (IntKind.i64.wrap (1 * 2 ^ min (IntKind.u64.wrap ((cn : Nat) : Int)).toNat IntKind.i64.bits))), I64 ((F.must : Nat) : Int), I64 ((F.now : Nat) : Int)]⟩ := by rw [shx fc h7, hK]; rfl
  have eH : (.agg ⟨H.cells⟩ : Value) = .agg ⟨[.bool F.l0, .bool F.l1, .bool false, .bool F.l3, I64 F.r0, I64 F.r1, I64 F.r2, I64 F.r3, .bool F.s0, .bool F.s1, .bool F.s2, I64 ((F.can : Nat) : Int), I64 ((F.must : Nat) : Int), I64 ((F.now : Nat) : Int)]⟩ := by rw [hH]; rfl
  rw [eK] at hBK
  have hsF := choose_Score4 F fn (bestF F 128).1
  have hsH := choose_Score4 H hn (bestF H 128).1
  rw [eH] at hBH hsH
  have q0 := u64_7 ⟨cn, h7⟩
  have N7 : ∀ x, x = false ∨ x = true := by decide
  rcases N7 (bestF F 128).2.1 with a | a
  · have k0 : (bestF K 128).2.1 = false := by cases h : (bestF K 128).2.1 with | false => rfl | true => rw [hki h] at a; cases a
    have z0 : (bestF H 128).2.1 = false := by cases h : (bestF H 128).2.1 with | false => rfl | true => rw [hhi h] at a; cases a
    rw [a] at hB; rw [k0] at hBK; rw [z0] at hBH
    exact less_0200 l0 l1 l2 l3 r0 r1 r2 r3 s0 s1 s2 can must now c s b F cn _ _ _ hF hNc hNb hNs q0 hB hBK hBH
  · have z1 := hfh a
    rw [a] at hB; rw [z1] at hBH
    have l := hle a z1
    have hx := hsF (BF a).1
    have hz := hsH (BH z1).1
    rcases N7 (bestF K 128).2.1 with k | k
    · rw [k] at hBK
      exact less_0201 l0 l1 l2 l3 r0 r1 r2 r3 s0 s1 s2 can must now c s b F cn _ _ _ _ _ _ _ _ _ _ _ hF hNc hNb hNs q0 hB hBK hBH hx hz l
    · rw [k] at hBK
      have y1 := hfy (BK k).1
      rw [KF _ (BK k).1 (BK k).2.1] at y1
      exact less_0211 l0 l1 l2 l3 r0 r1 r2 r3 s0 s1 s2 can must now c s b F cn _ _ _ _ _ _ _ _ _ _ _ hF hNc hNb hNs q0 hB hBK hBH y1 hx hz l

set_option maxHeartbeats 4000000 in
theorem lessT_03 (l0 l1 l2 l3 : Bool) (r0 r1 r2 r3 : Int) (s0 s1 s2 : Bool) (can must now : Int) (c s b : Int) (F : Fc) (cn : Nat) (h7 : cn < 7) (fc : F.can < 128) (fm : F.must < 128) (fn : F.now < 128)
  (hF : Ctr Tryd.prog 6 49 [.agg ⟨[.bool l0, .bool l1, .bool l2, .bool l3, I64 r0, I64 r1, I64 r2, I64 r3, .bool s0, .bool s1, .bool s2, I64 can, I64 must, I64 now]⟩] [] (.agg ⟨F.cells⟩) []) (hNc : Ctr Tryd.prog 6 34 [I64 c, I64 7] [] (I64 ((cn : Nat) : Int)) []) (hNb : Ctr Tryd.prog 6 34 [I64 b, I64 3] [] (I64 0) []) (hNs : Ctr Tryd.prog 6 34 [I64 s, I64 4] [] (I64 3) []) : Ctr Tryd.prog 6 15 [.agg ⟨[.bool l0, .bool l1, .bool l2, .bool l3, I64 r0, I64 r1, I64 r2, I64 r3, .bool s0, .bool s1, .bool s2, I64 can, I64 must, I64 now]⟩, I64 c, I64 s, I64 b] [(5, .ro 0 tzv)] (.bool true) [.ro 0 tzv] := by
  obtain ⟨K, hK⟩ : ∃ K : Fc, K = { F with can := nAn F.can (2 ^ cn), s0 := true } := ⟨_, rfl⟩
  obtain ⟨H, hH⟩ : ∃ H : Fc, H = { F with l3 := false } := ⟨_, rfl⟩
  have kc : K.can < 128 := by rw [hK]; exact nAn_lt fc
  have km : K.must < 128 := by rw [hK]; exact fm
  have kn : K.now < 128 := by rw [hK]; exact fn
  have hc : H.can < 128 := by rw [hH]; exact fc
  have hm : H.must < 128 := by rw [hH]; exact fm
  have hn : H.now < 128 := by rw [hH]; exact fn
  have hB := choose_Best F fc fm fn
  have hBK := choose_Best K kc km kn
  have hBH := choose_Best H hc hm hn
  have KS : ∀ k, F.s k = true → K.s k = true := by
    intro k h; rw [hK]
    match k, h with
    | 0, h => first | rfl | exact h
    | 1, h => first | rfl | exact h
    | 2, h => first | rfl | exact h
    | k + 3, h => exact h
  have HL : ∀ k, H.l k = true → F.l k = true := by
    intro k h; rw [hH] at h
    match k, h with
    | 0, h => first | exact h | cases h
    | 1, h => first | exact h | cases h
    | 2, h => first | exact h | cases h
    | 3, h => first | exact h | cases h
    | k + 4, h => exact h
  have Hf : ∀ m, fitB H m = fitB F m := by intro m; rw [hH]; rfl
  have KF : ∀ y, y < 128 → fitB K y = true → fitB F y = true := fun y hy h =>
    fit_less (by rw [hK]; exact nAn_mono ⟨F.can, fc⟩ ⟨cn, h7⟩) kc fc (by rw [hK]) fm KS hy h
  have hfy := choose_Fits F fc fm (bestF K 128).1
  have BK := (bestOk K 128).yes
  have BF := (bestOk F 128).yes
  have BH := (bestOk H 128).yes
  have hki := found_iff K F KF
  have hhi := found_iff H F (fun m _ h => (Hf m) ▸ h)
  have hfh := found_iff F H (fun m _ h => (Hf m).symm ▸ h)
  have hle := best_less (F := F) (K := H) HL Hf
  have eK : (.agg ⟨K.cells⟩ : Value) = .agg ⟨[.bool F.l0, .bool F.l1, .bool F.l2, .bool F.l3, I64 F.r0, I64 F.r1, I64 F.r2, I64 F.r3, .bool true, .bool F.s1, .bool F.s2, I64 (anX ((F.can : Nat) : Int) (IntKind.i64.wrap (1 * 2 ^ min (IntKind.u64.wrap ((cn : Nat) : Int)).toNat IntKind.i64.bits))), I64 ((F.must : Nat) : Int), I64 ((F.now : Nat) : Int)]⟩ := by rw [shx fc h7, hK]; rfl
  have eH : (.agg ⟨H.cells⟩ : Value) = .agg ⟨[.bool F.l0, .bool F.l1, .bool F.l2, .bool false, I64 F.r0, I64 F.r1, I64 F.r2, I64 F.r3, .bool F.s0, .bool F.s1, .bool F.s2, I64 ((F.can : Nat) : Int), I64 ((F.must : Nat) : Int), I64 ((F.now : Nat) : Int)]⟩ := by rw [hH]; rfl
  rw [eK] at hBK
  have hsF := choose_Score4 F fn (bestF F 128).1
  have hsH := choose_Score4 H hn (bestF H 128).1
  rw [eH] at hBH hsH
  have q0 := u64_7 ⟨cn, h7⟩
  have N7 : ∀ x, x = false ∨ x = true := by decide
  rcases N7 (bestF F 128).2.1 with a | a
  · have k0 : (bestF K 128).2.1 = false := by cases h : (bestF K 128).2.1 with | false => rfl | true => rw [hki h] at a; cases a
    have z0 : (bestF H 128).2.1 = false := by cases h : (bestF H 128).2.1 with | false => rfl | true => rw [hhi h] at a; cases a
    rw [a] at hB; rw [k0] at hBK; rw [z0] at hBH
    exact less_0300 l0 l1 l2 l3 r0 r1 r2 r3 s0 s1 s2 can must now c s b F cn _ _ _ hF hNc hNb hNs q0 hB hBK hBH
  · have z1 := hfh a
    rw [a] at hB; rw [z1] at hBH
    have l := hle a z1
    have hx := hsF (BF a).1
    have hz := hsH (BH z1).1
    rcases N7 (bestF K 128).2.1 with k | k
    · rw [k] at hBK
      exact less_0301 l0 l1 l2 l3 r0 r1 r2 r3 s0 s1 s2 can must now c s b F cn _ _ _ _ _ _ _ _ _ _ _ hF hNc hNb hNs q0 hB hBK hBH hx hz l
    · rw [k] at hBK
      have y1 := hfy (BK k).1
      rw [KF _ (BK k).1 (BK k).2.1] at y1
      exact less_0311 l0 l1 l2 l3 r0 r1 r2 r3 s0 s1 s2 can must now c s b F cn _ _ _ _ _ _ _ _ _ _ _ hF hNc hNb hNs q0 hB hBK hBH y1 hx hz l

set_option maxHeartbeats 4000000 in
theorem lessT_10 (l0 l1 l2 l3 : Bool) (r0 r1 r2 r3 : Int) (s0 s1 s2 : Bool) (can must now : Int) (c s b : Int) (F : Fc) (cn : Nat) (h7 : cn < 7) (fc : F.can < 128) (fm : F.must < 128) (fn : F.now < 128)
  (hF : Ctr Tryd.prog 6 49 [.agg ⟨[.bool l0, .bool l1, .bool l2, .bool l3, I64 r0, I64 r1, I64 r2, I64 r3, .bool s0, .bool s1, .bool s2, I64 can, I64 must, I64 now]⟩] [] (.agg ⟨F.cells⟩) []) (hNc : Ctr Tryd.prog 6 34 [I64 c, I64 7] [] (I64 ((cn : Nat) : Int)) []) (hNb : Ctr Tryd.prog 6 34 [I64 b, I64 3] [] (I64 1) []) (hNs : Ctr Tryd.prog 6 34 [I64 s, I64 4] [] (I64 0) []) : Ctr Tryd.prog 6 15 [.agg ⟨[.bool l0, .bool l1, .bool l2, .bool l3, I64 r0, I64 r1, I64 r2, I64 r3, .bool s0, .bool s1, .bool s2, I64 can, I64 must, I64 now]⟩, I64 c, I64 s, I64 b] [(5, .ro 0 tzv)] (.bool true) [.ro 0 tzv] := by
  obtain ⟨K, hK⟩ : ∃ K : Fc, K = { F with can := nAn F.can (2 ^ cn), s1 := true } := ⟨_, rfl⟩
  obtain ⟨H, hH⟩ : ∃ H : Fc, H = { F with l0 := false } := ⟨_, rfl⟩
  have kc : K.can < 128 := by rw [hK]; exact nAn_lt fc
  have km : K.must < 128 := by rw [hK]; exact fm
  have kn : K.now < 128 := by rw [hK]; exact fn
  have hc : H.can < 128 := by rw [hH]; exact fc
  have hm : H.must < 128 := by rw [hH]; exact fm
  have hn : H.now < 128 := by rw [hH]; exact fn
  have hB := choose_Best F fc fm fn
  have hBK := choose_Best K kc km kn
  have hBH := choose_Best H hc hm hn
  have KS : ∀ k, F.s k = true → K.s k = true := by
    intro k h; rw [hK]
    match k, h with
    | 0, h => first | rfl | exact h
    | 1, h => first | rfl | exact h
    | 2, h => first | rfl | exact h
    | k + 3, h => exact h
  have HL : ∀ k, H.l k = true → F.l k = true := by
    intro k h; rw [hH] at h
    match k, h with
    | 0, h => first | exact h | cases h
    | 1, h => first | exact h | cases h
    | 2, h => first | exact h | cases h
    | 3, h => first | exact h | cases h
    | k + 4, h => exact h
  have Hf : ∀ m, fitB H m = fitB F m := by intro m; rw [hH]; rfl
  have KF : ∀ y, y < 128 → fitB K y = true → fitB F y = true := fun y hy h =>
    fit_less (by rw [hK]; exact nAn_mono ⟨F.can, fc⟩ ⟨cn, h7⟩) kc fc (by rw [hK]) fm KS hy h
  have hfy := choose_Fits F fc fm (bestF K 128).1
  have BK := (bestOk K 128).yes
  have BF := (bestOk F 128).yes
  have BH := (bestOk H 128).yes
  have hki := found_iff K F KF
  have hhi := found_iff H F (fun m _ h => (Hf m) ▸ h)
  have hfh := found_iff F H (fun m _ h => (Hf m).symm ▸ h)
  have hle := best_less (F := F) (K := H) HL Hf
  have eK : (.agg ⟨K.cells⟩ : Value) = .agg ⟨[.bool F.l0, .bool F.l1, .bool F.l2, .bool F.l3, I64 F.r0, I64 F.r1, I64 F.r2, I64 F.r3, .bool F.s0, .bool true, .bool F.s2, I64 (anX ((F.can : Nat) : Int) (IntKind.i64.wrap (1 * 2 ^ min (IntKind.u64.wrap ((cn : Nat) : Int)).toNat IntKind.i64.bits))), I64 ((F.must : Nat) : Int), I64 ((F.now : Nat) : Int)]⟩ := by rw [shx fc h7, hK]; rfl
  have eH : (.agg ⟨H.cells⟩ : Value) = .agg ⟨[.bool false, .bool F.l1, .bool F.l2, .bool F.l3, I64 F.r0, I64 F.r1, I64 F.r2, I64 F.r3, .bool F.s0, .bool F.s1, .bool F.s2, I64 ((F.can : Nat) : Int), I64 ((F.must : Nat) : Int), I64 ((F.now : Nat) : Int)]⟩ := by rw [hH]; rfl
  rw [eK] at hBK
  have hsF := choose_Score4 F fn (bestF F 128).1
  have hsH := choose_Score4 H hn (bestF H 128).1
  rw [eH] at hBH hsH
  have q0 := u64_7 ⟨cn, h7⟩
  have N7 : ∀ x, x = false ∨ x = true := by decide
  rcases N7 (bestF F 128).2.1 with a | a
  · have k0 : (bestF K 128).2.1 = false := by cases h : (bestF K 128).2.1 with | false => rfl | true => rw [hki h] at a; cases a
    have z0 : (bestF H 128).2.1 = false := by cases h : (bestF H 128).2.1 with | false => rfl | true => rw [hhi h] at a; cases a
    rw [a] at hB; rw [k0] at hBK; rw [z0] at hBH
    exact less_1000 l0 l1 l2 l3 r0 r1 r2 r3 s0 s1 s2 can must now c s b F cn _ _ _ hF hNc hNb hNs q0 hB hBK hBH
  · have z1 := hfh a
    rw [a] at hB; rw [z1] at hBH
    have l := hle a z1
    have hx := hsF (BF a).1
    have hz := hsH (BH z1).1
    rcases N7 (bestF K 128).2.1 with k | k
    · rw [k] at hBK
      exact less_1001 l0 l1 l2 l3 r0 r1 r2 r3 s0 s1 s2 can must now c s b F cn _ _ _ _ _ _ _ _ _ _ _ hF hNc hNb hNs q0 hB hBK hBH hx hz l
    · rw [k] at hBK
      have y1 := hfy (BK k).1
      rw [KF _ (BK k).1 (BK k).2.1] at y1
      exact less_1011 l0 l1 l2 l3 r0 r1 r2 r3 s0 s1 s2 can must now c s b F cn _ _ _ _ _ _ _ _ _ _ _ hF hNc hNb hNs q0 hB hBK hBH y1 hx hz l

set_option maxHeartbeats 4000000 in
theorem lessT_11 (l0 l1 l2 l3 : Bool) (r0 r1 r2 r3 : Int) (s0 s1 s2 : Bool) (can must now : Int) (c s b : Int) (F : Fc) (cn : Nat) (h7 : cn < 7) (fc : F.can < 128) (fm : F.must < 128) (fn : F.now < 128)
  (hF : Ctr Tryd.prog 6 49 [.agg ⟨[.bool l0, .bool l1, .bool l2, .bool l3, I64 r0, I64 r1, I64 r2, I64 r3, .bool s0, .bool s1, .bool s2, I64 can, I64 must, I64 now]⟩] [] (.agg ⟨F.cells⟩) []) (hNc : Ctr Tryd.prog 6 34 [I64 c, I64 7] [] (I64 ((cn : Nat) : Int)) []) (hNb : Ctr Tryd.prog 6 34 [I64 b, I64 3] [] (I64 1) []) (hNs : Ctr Tryd.prog 6 34 [I64 s, I64 4] [] (I64 1) []) : Ctr Tryd.prog 6 15 [.agg ⟨[.bool l0, .bool l1, .bool l2, .bool l3, I64 r0, I64 r1, I64 r2, I64 r3, .bool s0, .bool s1, .bool s2, I64 can, I64 must, I64 now]⟩, I64 c, I64 s, I64 b] [(5, .ro 0 tzv)] (.bool true) [.ro 0 tzv] := by
  obtain ⟨K, hK⟩ : ∃ K : Fc, K = { F with can := nAn F.can (2 ^ cn), s1 := true } := ⟨_, rfl⟩
  obtain ⟨H, hH⟩ : ∃ H : Fc, H = { F with l1 := false } := ⟨_, rfl⟩
  have kc : K.can < 128 := by rw [hK]; exact nAn_lt fc
  have km : K.must < 128 := by rw [hK]; exact fm
  have kn : K.now < 128 := by rw [hK]; exact fn
  have hc : H.can < 128 := by rw [hH]; exact fc
  have hm : H.must < 128 := by rw [hH]; exact fm
  have hn : H.now < 128 := by rw [hH]; exact fn
  have hB := choose_Best F fc fm fn
  have hBK := choose_Best K kc km kn
  have hBH := choose_Best H hc hm hn
  have KS : ∀ k, F.s k = true → K.s k = true := by
    intro k h; rw [hK]
    match k, h with
    | 0, h => first | rfl | exact h
    | 1, h => first | rfl | exact h
    | 2, h => first | rfl | exact h
    | k + 3, h => exact h
  have HL : ∀ k, H.l k = true → F.l k = true := by
    intro k h; rw [hH] at h
    match k, h with
    | 0, h => first | exact h | cases h
    | 1, h => first | exact h | cases h
    | 2, h => first | exact h | cases h
    | 3, h => first | exact h | cases h
    | k + 4, h => exact h
  have Hf : ∀ m, fitB H m = fitB F m := by intro m; rw [hH]; rfl
  have KF : ∀ y, y < 128 → fitB K y = true → fitB F y = true := fun y hy h =>
    fit_less (by rw [hK]; exact nAn_mono ⟨F.can, fc⟩ ⟨cn, h7⟩) kc fc (by rw [hK]) fm KS hy h
  have hfy := choose_Fits F fc fm (bestF K 128).1
  have BK := (bestOk K 128).yes
  have BF := (bestOk F 128).yes
  have BH := (bestOk H 128).yes
  have hki := found_iff K F KF
  have hhi := found_iff H F (fun m _ h => (Hf m) ▸ h)
  have hfh := found_iff F H (fun m _ h => (Hf m).symm ▸ h)
  have hle := best_less (F := F) (K := H) HL Hf
  have eK : (.agg ⟨K.cells⟩ : Value) = .agg ⟨[.bool F.l0, .bool F.l1, .bool F.l2, .bool F.l3, I64 F.r0, I64 F.r1, I64 F.r2, I64 F.r3, .bool F.s0, .bool true, .bool F.s2, I64 (anX ((F.can : Nat) : Int) (IntKind.i64.wrap (1 * 2 ^ min (IntKind.u64.wrap ((cn : Nat) : Int)).toNat IntKind.i64.bits))), I64 ((F.must : Nat) : Int), I64 ((F.now : Nat) : Int)]⟩ := by rw [shx fc h7, hK]; rfl
  have eH : (.agg ⟨H.cells⟩ : Value) = .agg ⟨[.bool F.l0, .bool false, .bool F.l2, .bool F.l3, I64 F.r0, I64 F.r1, I64 F.r2, I64 F.r3, .bool F.s0, .bool F.s1, .bool F.s2, I64 ((F.can : Nat) : Int), I64 ((F.must : Nat) : Int), I64 ((F.now : Nat) : Int)]⟩ := by rw [hH]; rfl
  rw [eK] at hBK
  have hsF := choose_Score4 F fn (bestF F 128).1
  have hsH := choose_Score4 H hn (bestF H 128).1
  rw [eH] at hBH hsH
  have q0 := u64_7 ⟨cn, h7⟩
  have N7 : ∀ x, x = false ∨ x = true := by decide
  rcases N7 (bestF F 128).2.1 with a | a
  · have k0 : (bestF K 128).2.1 = false := by cases h : (bestF K 128).2.1 with | false => rfl | true => rw [hki h] at a; cases a
    have z0 : (bestF H 128).2.1 = false := by cases h : (bestF H 128).2.1 with | false => rfl | true => rw [hhi h] at a; cases a
    rw [a] at hB; rw [k0] at hBK; rw [z0] at hBH
    exact less_1100 l0 l1 l2 l3 r0 r1 r2 r3 s0 s1 s2 can must now c s b F cn _ _ _ hF hNc hNb hNs q0 hB hBK hBH
  · have z1 := hfh a
    rw [a] at hB; rw [z1] at hBH
    have l := hle a z1
    have hx := hsF (BF a).1
    have hz := hsH (BH z1).1
    rcases N7 (bestF K 128).2.1 with k | k
    · rw [k] at hBK
      exact less_1101 l0 l1 l2 l3 r0 r1 r2 r3 s0 s1 s2 can must now c s b F cn _ _ _ _ _ _ _ _ _ _ _ hF hNc hNb hNs q0 hB hBK hBH hx hz l
    · rw [k] at hBK
      have y1 := hfy (BK k).1
      rw [KF _ (BK k).1 (BK k).2.1] at y1
      exact less_1111 l0 l1 l2 l3 r0 r1 r2 r3 s0 s1 s2 can must now c s b F cn _ _ _ _ _ _ _ _ _ _ _ hF hNc hNb hNs q0 hB hBK hBH y1 hx hz l

set_option maxHeartbeats 4000000 in
theorem lessT_12 (l0 l1 l2 l3 : Bool) (r0 r1 r2 r3 : Int) (s0 s1 s2 : Bool) (can must now : Int) (c s b : Int) (F : Fc) (cn : Nat) (h7 : cn < 7) (fc : F.can < 128) (fm : F.must < 128) (fn : F.now < 128)
  (hF : Ctr Tryd.prog 6 49 [.agg ⟨[.bool l0, .bool l1, .bool l2, .bool l3, I64 r0, I64 r1, I64 r2, I64 r3, .bool s0, .bool s1, .bool s2, I64 can, I64 must, I64 now]⟩] [] (.agg ⟨F.cells⟩) []) (hNc : Ctr Tryd.prog 6 34 [I64 c, I64 7] [] (I64 ((cn : Nat) : Int)) []) (hNb : Ctr Tryd.prog 6 34 [I64 b, I64 3] [] (I64 1) []) (hNs : Ctr Tryd.prog 6 34 [I64 s, I64 4] [] (I64 2) []) : Ctr Tryd.prog 6 15 [.agg ⟨[.bool l0, .bool l1, .bool l2, .bool l3, I64 r0, I64 r1, I64 r2, I64 r3, .bool s0, .bool s1, .bool s2, I64 can, I64 must, I64 now]⟩, I64 c, I64 s, I64 b] [(5, .ro 0 tzv)] (.bool true) [.ro 0 tzv] := by
  obtain ⟨K, hK⟩ : ∃ K : Fc, K = { F with can := nAn F.can (2 ^ cn), s1 := true } := ⟨_, rfl⟩
  obtain ⟨H, hH⟩ : ∃ H : Fc, H = { F with l2 := false } := ⟨_, rfl⟩
  have kc : K.can < 128 := by rw [hK]; exact nAn_lt fc
  have km : K.must < 128 := by rw [hK]; exact fm
  have kn : K.now < 128 := by rw [hK]; exact fn
  have hc : H.can < 128 := by rw [hH]; exact fc
  have hm : H.must < 128 := by rw [hH]; exact fm
  have hn : H.now < 128 := by rw [hH]; exact fn
  have hB := choose_Best F fc fm fn
  have hBK := choose_Best K kc km kn
  have hBH := choose_Best H hc hm hn
  have KS : ∀ k, F.s k = true → K.s k = true := by
    intro k h; rw [hK]
    match k, h with
    | 0, h => first | rfl | exact h
    | 1, h => first | rfl | exact h
    | 2, h => first | rfl | exact h
    | k + 3, h => exact h
  have HL : ∀ k, H.l k = true → F.l k = true := by
    intro k h; rw [hH] at h
    match k, h with
    | 0, h => first | exact h | cases h
    | 1, h => first | exact h | cases h
    | 2, h => first | exact h | cases h
    | 3, h => first | exact h | cases h
    | k + 4, h => exact h
  have Hf : ∀ m, fitB H m = fitB F m := by intro m; rw [hH]; rfl
  have KF : ∀ y, y < 128 → fitB K y = true → fitB F y = true := fun y hy h =>
    fit_less (by rw [hK]; exact nAn_mono ⟨F.can, fc⟩ ⟨cn, h7⟩) kc fc (by rw [hK]) fm KS hy h
  have hfy := choose_Fits F fc fm (bestF K 128).1
  have BK := (bestOk K 128).yes
  have BF := (bestOk F 128).yes
  have BH := (bestOk H 128).yes
  have hki := found_iff K F KF
  have hhi := found_iff H F (fun m _ h => (Hf m) ▸ h)
  have hfh := found_iff F H (fun m _ h => (Hf m).symm ▸ h)
  have hle := best_less (F := F) (K := H) HL Hf
  have eK : (.agg ⟨K.cells⟩ : Value) = .agg ⟨[.bool F.l0, .bool F.l1, .bool F.l2, .bool F.l3, I64 F.r0, I64 F.r1, I64 F.r2, I64 F.r3, .bool F.s0, .bool true, .bool F.s2, I64 (anX ((F.can : Nat) : Int) (IntKind.i64.wrap (1 * 2 ^ min (IntKind.u64.wrap ((cn : Nat) : Int)).toNat IntKind.i64.bits))), I64 ((F.must : Nat) : Int), I64 ((F.now : Nat) : Int)]⟩ := by rw [shx fc h7, hK]; rfl
  have eH : (.agg ⟨H.cells⟩ : Value) = .agg ⟨[.bool F.l0, .bool F.l1, .bool false, .bool F.l3, I64 F.r0, I64 F.r1, I64 F.r2, I64 F.r3, .bool F.s0, .bool F.s1, .bool F.s2, I64 ((F.can : Nat) : Int), I64 ((F.must : Nat) : Int), I64 ((F.now : Nat) : Int)]⟩ := by rw [hH]; rfl
  rw [eK] at hBK
  have hsF := choose_Score4 F fn (bestF F 128).1
  have hsH := choose_Score4 H hn (bestF H 128).1
  rw [eH] at hBH hsH
  have q0 := u64_7 ⟨cn, h7⟩
  have N7 : ∀ x, x = false ∨ x = true := by decide
  rcases N7 (bestF F 128).2.1 with a | a
  · have k0 : (bestF K 128).2.1 = false := by cases h : (bestF K 128).2.1 with | false => rfl | true => rw [hki h] at a; cases a
    have z0 : (bestF H 128).2.1 = false := by cases h : (bestF H 128).2.1 with | false => rfl | true => rw [hhi h] at a; cases a
    rw [a] at hB; rw [k0] at hBK; rw [z0] at hBH
    exact less_1200 l0 l1 l2 l3 r0 r1 r2 r3 s0 s1 s2 can must now c s b F cn _ _ _ hF hNc hNb hNs q0 hB hBK hBH
  · have z1 := hfh a
    rw [a] at hB; rw [z1] at hBH
    have l := hle a z1
    have hx := hsF (BF a).1
    have hz := hsH (BH z1).1
    rcases N7 (bestF K 128).2.1 with k | k
    · rw [k] at hBK
      exact less_1201 l0 l1 l2 l3 r0 r1 r2 r3 s0 s1 s2 can must now c s b F cn _ _ _ _ _ _ _ _ _ _ _ hF hNc hNb hNs q0 hB hBK hBH hx hz l
    · rw [k] at hBK
      have y1 := hfy (BK k).1
      rw [KF _ (BK k).1 (BK k).2.1] at y1
      exact less_1211 l0 l1 l2 l3 r0 r1 r2 r3 s0 s1 s2 can must now c s b F cn _ _ _ _ _ _ _ _ _ _ _ hF hNc hNb hNs q0 hB hBK hBH y1 hx hz l

set_option maxHeartbeats 4000000 in
theorem lessT_13 (l0 l1 l2 l3 : Bool) (r0 r1 r2 r3 : Int) (s0 s1 s2 : Bool) (can must now : Int) (c s b : Int) (F : Fc) (cn : Nat) (h7 : cn < 7) (fc : F.can < 128) (fm : F.must < 128) (fn : F.now < 128)
  (hF : Ctr Tryd.prog 6 49 [.agg ⟨[.bool l0, .bool l1, .bool l2, .bool l3, I64 r0, I64 r1, I64 r2, I64 r3, .bool s0, .bool s1, .bool s2, I64 can, I64 must, I64 now]⟩] [] (.agg ⟨F.cells⟩) []) (hNc : Ctr Tryd.prog 6 34 [I64 c, I64 7] [] (I64 ((cn : Nat) : Int)) []) (hNb : Ctr Tryd.prog 6 34 [I64 b, I64 3] [] (I64 1) []) (hNs : Ctr Tryd.prog 6 34 [I64 s, I64 4] [] (I64 3) []) : Ctr Tryd.prog 6 15 [.agg ⟨[.bool l0, .bool l1, .bool l2, .bool l3, I64 r0, I64 r1, I64 r2, I64 r3, .bool s0, .bool s1, .bool s2, I64 can, I64 must, I64 now]⟩, I64 c, I64 s, I64 b] [(5, .ro 0 tzv)] (.bool true) [.ro 0 tzv] := by
  obtain ⟨K, hK⟩ : ∃ K : Fc, K = { F with can := nAn F.can (2 ^ cn), s1 := true } := ⟨_, rfl⟩
  obtain ⟨H, hH⟩ : ∃ H : Fc, H = { F with l3 := false } := ⟨_, rfl⟩
  have kc : K.can < 128 := by rw [hK]; exact nAn_lt fc
  have km : K.must < 128 := by rw [hK]; exact fm
  have kn : K.now < 128 := by rw [hK]; exact fn
  have hc : H.can < 128 := by rw [hH]; exact fc
  have hm : H.must < 128 := by rw [hH]; exact fm
  have hn : H.now < 128 := by rw [hH]; exact fn
  have hB := choose_Best F fc fm fn
  have hBK := choose_Best K kc km kn
  have hBH := choose_Best H hc hm hn
  have KS : ∀ k, F.s k = true → K.s k = true := by
    intro k h; rw [hK]
    match k, h with
    | 0, h => first | rfl | exact h
    | 1, h => first | rfl | exact h
    | 2, h => first | rfl | exact h
    | k + 3, h => exact h
  have HL : ∀ k, H.l k = true → F.l k = true := by
    intro k h; rw [hH] at h
    match k, h with
    | 0, h => first | exact h | cases h
    | 1, h => first | exact h | cases h
    | 2, h => first | exact h | cases h
    | 3, h => first | exact h | cases h
    | k + 4, h => exact h
  have Hf : ∀ m, fitB H m = fitB F m := by intro m; rw [hH]; rfl
  have KF : ∀ y, y < 128 → fitB K y = true → fitB F y = true := fun y hy h =>
    fit_less (by rw [hK]; exact nAn_mono ⟨F.can, fc⟩ ⟨cn, h7⟩) kc fc (by rw [hK]) fm KS hy h
  have hfy := choose_Fits F fc fm (bestF K 128).1
  have BK := (bestOk K 128).yes
  have BF := (bestOk F 128).yes
  have BH := (bestOk H 128).yes
  have hki := found_iff K F KF
  have hhi := found_iff H F (fun m _ h => (Hf m) ▸ h)
  have hfh := found_iff F H (fun m _ h => (Hf m).symm ▸ h)
  have hle := best_less (F := F) (K := H) HL Hf
  have eK : (.agg ⟨K.cells⟩ : Value) = .agg ⟨[.bool F.l0, .bool F.l1, .bool F.l2, .bool F.l3, I64 F.r0, I64 F.r1, I64 F.r2, I64 F.r3, .bool F.s0, .bool true, .bool F.s2, I64 (anX ((F.can : Nat) : Int) (IntKind.i64.wrap (1 * 2 ^ min (IntKind.u64.wrap ((cn : Nat) : Int)).toNat IntKind.i64.bits))), I64 ((F.must : Nat) : Int), I64 ((F.now : Nat) : Int)]⟩ := by rw [shx fc h7, hK]; rfl
  have eH : (.agg ⟨H.cells⟩ : Value) = .agg ⟨[.bool F.l0, .bool F.l1, .bool F.l2, .bool false, I64 F.r0, I64 F.r1, I64 F.r2, I64 F.r3, .bool F.s0, .bool F.s1, .bool F.s2, I64 ((F.can : Nat) : Int), I64 ((F.must : Nat) : Int), I64 ((F.now : Nat) : Int)]⟩ := by rw [hH]; rfl
  rw [eK] at hBK
  have hsF := choose_Score4 F fn (bestF F 128).1
  have hsH := choose_Score4 H hn (bestF H 128).1
  rw [eH] at hBH hsH
  have q0 := u64_7 ⟨cn, h7⟩
  have N7 : ∀ x, x = false ∨ x = true := by decide
  rcases N7 (bestF F 128).2.1 with a | a
  · have k0 : (bestF K 128).2.1 = false := by cases h : (bestF K 128).2.1 with | false => rfl | true => rw [hki h] at a; cases a
    have z0 : (bestF H 128).2.1 = false := by cases h : (bestF H 128).2.1 with | false => rfl | true => rw [hhi h] at a; cases a
    rw [a] at hB; rw [k0] at hBK; rw [z0] at hBH
    exact less_1300 l0 l1 l2 l3 r0 r1 r2 r3 s0 s1 s2 can must now c s b F cn _ _ _ hF hNc hNb hNs q0 hB hBK hBH
  · have z1 := hfh a
    rw [a] at hB; rw [z1] at hBH
    have l := hle a z1
    have hx := hsF (BF a).1
    have hz := hsH (BH z1).1
    rcases N7 (bestF K 128).2.1 with k | k
    · rw [k] at hBK
      exact less_1301 l0 l1 l2 l3 r0 r1 r2 r3 s0 s1 s2 can must now c s b F cn _ _ _ _ _ _ _ _ _ _ _ hF hNc hNb hNs q0 hB hBK hBH hx hz l
    · rw [k] at hBK
      have y1 := hfy (BK k).1
      rw [KF _ (BK k).1 (BK k).2.1] at y1
      exact less_1311 l0 l1 l2 l3 r0 r1 r2 r3 s0 s1 s2 can must now c s b F cn _ _ _ _ _ _ _ _ _ _ _ hF hNc hNb hNs q0 hB hBK hBH y1 hx hz l

set_option maxHeartbeats 4000000 in
theorem lessT_20 (l0 l1 l2 l3 : Bool) (r0 r1 r2 r3 : Int) (s0 s1 s2 : Bool) (can must now : Int) (c s b : Int) (F : Fc) (cn : Nat) (h7 : cn < 7) (fc : F.can < 128) (fm : F.must < 128) (fn : F.now < 128)
  (hF : Ctr Tryd.prog 6 49 [.agg ⟨[.bool l0, .bool l1, .bool l2, .bool l3, I64 r0, I64 r1, I64 r2, I64 r3, .bool s0, .bool s1, .bool s2, I64 can, I64 must, I64 now]⟩] [] (.agg ⟨F.cells⟩) []) (hNc : Ctr Tryd.prog 6 34 [I64 c, I64 7] [] (I64 ((cn : Nat) : Int)) []) (hNb : Ctr Tryd.prog 6 34 [I64 b, I64 3] [] (I64 2) []) (hNs : Ctr Tryd.prog 6 34 [I64 s, I64 4] [] (I64 0) []) : Ctr Tryd.prog 6 15 [.agg ⟨[.bool l0, .bool l1, .bool l2, .bool l3, I64 r0, I64 r1, I64 r2, I64 r3, .bool s0, .bool s1, .bool s2, I64 can, I64 must, I64 now]⟩, I64 c, I64 s, I64 b] [(5, .ro 0 tzv)] (.bool true) [.ro 0 tzv] := by
  obtain ⟨K, hK⟩ : ∃ K : Fc, K = { F with can := nAn F.can (2 ^ cn), s2 := true } := ⟨_, rfl⟩
  obtain ⟨H, hH⟩ : ∃ H : Fc, H = { F with l0 := false } := ⟨_, rfl⟩
  have kc : K.can < 128 := by rw [hK]; exact nAn_lt fc
  have km : K.must < 128 := by rw [hK]; exact fm
  have kn : K.now < 128 := by rw [hK]; exact fn
  have hc : H.can < 128 := by rw [hH]; exact fc
  have hm : H.must < 128 := by rw [hH]; exact fm
  have hn : H.now < 128 := by rw [hH]; exact fn
  have hB := choose_Best F fc fm fn
  have hBK := choose_Best K kc km kn
  have hBH := choose_Best H hc hm hn
  have KS : ∀ k, F.s k = true → K.s k = true := by
    intro k h; rw [hK]
    match k, h with
    | 0, h => first | rfl | exact h
    | 1, h => first | rfl | exact h
    | 2, h => first | rfl | exact h
    | k + 3, h => exact h
  have HL : ∀ k, H.l k = true → F.l k = true := by
    intro k h; rw [hH] at h
    match k, h with
    | 0, h => first | exact h | cases h
    | 1, h => first | exact h | cases h
    | 2, h => first | exact h | cases h
    | 3, h => first | exact h | cases h
    | k + 4, h => exact h
  have Hf : ∀ m, fitB H m = fitB F m := by intro m; rw [hH]; rfl
  have KF : ∀ y, y < 128 → fitB K y = true → fitB F y = true := fun y hy h =>
    fit_less (by rw [hK]; exact nAn_mono ⟨F.can, fc⟩ ⟨cn, h7⟩) kc fc (by rw [hK]) fm KS hy h
  have hfy := choose_Fits F fc fm (bestF K 128).1
  have BK := (bestOk K 128).yes
  have BF := (bestOk F 128).yes
  have BH := (bestOk H 128).yes
  have hki := found_iff K F KF
  have hhi := found_iff H F (fun m _ h => (Hf m) ▸ h)
  have hfh := found_iff F H (fun m _ h => (Hf m).symm ▸ h)
  have hle := best_less (F := F) (K := H) HL Hf
  have eK : (.agg ⟨K.cells⟩ : Value) = .agg ⟨[.bool F.l0, .bool F.l1, .bool F.l2, .bool F.l3, I64 F.r0, I64 F.r1, I64 F.r2, I64 F.r3, .bool F.s0, .bool F.s1, .bool true, I64 (anX ((F.can : Nat) : Int) (IntKind.i64.wrap (1 * 2 ^ min (IntKind.u64.wrap ((cn : Nat) : Int)).toNat IntKind.i64.bits))), I64 ((F.must : Nat) : Int), I64 ((F.now : Nat) : Int)]⟩ := by rw [shx fc h7, hK]; rfl
  have eH : (.agg ⟨H.cells⟩ : Value) = .agg ⟨[.bool false, .bool F.l1, .bool F.l2, .bool F.l3, I64 F.r0, I64 F.r1, I64 F.r2, I64 F.r3, .bool F.s0, .bool F.s1, .bool F.s2, I64 ((F.can : Nat) : Int), I64 ((F.must : Nat) : Int), I64 ((F.now : Nat) : Int)]⟩ := by rw [hH]; rfl
  rw [eK] at hBK
  have hsF := choose_Score4 F fn (bestF F 128).1
  have hsH := choose_Score4 H hn (bestF H 128).1
  rw [eH] at hBH hsH
  have q0 := u64_7 ⟨cn, h7⟩
  have N7 : ∀ x, x = false ∨ x = true := by decide
  rcases N7 (bestF F 128).2.1 with a | a
  · have k0 : (bestF K 128).2.1 = false := by cases h : (bestF K 128).2.1 with | false => rfl | true => rw [hki h] at a; cases a
    have z0 : (bestF H 128).2.1 = false := by cases h : (bestF H 128).2.1 with | false => rfl | true => rw [hhi h] at a; cases a
    rw [a] at hB; rw [k0] at hBK; rw [z0] at hBH
    exact less_2000 l0 l1 l2 l3 r0 r1 r2 r3 s0 s1 s2 can must now c s b F cn _ _ _ hF hNc hNb hNs q0 hB hBK hBH
  · have z1 := hfh a
    rw [a] at hB; rw [z1] at hBH
    have l := hle a z1
    have hx := hsF (BF a).1
    have hz := hsH (BH z1).1
    rcases N7 (bestF K 128).2.1 with k | k
    · rw [k] at hBK
      exact less_2001 l0 l1 l2 l3 r0 r1 r2 r3 s0 s1 s2 can must now c s b F cn _ _ _ _ _ _ _ _ _ _ _ hF hNc hNb hNs q0 hB hBK hBH hx hz l
    · rw [k] at hBK
      have y1 := hfy (BK k).1
      rw [KF _ (BK k).1 (BK k).2.1] at y1
      exact less_2011 l0 l1 l2 l3 r0 r1 r2 r3 s0 s1 s2 can must now c s b F cn _ _ _ _ _ _ _ _ _ _ _ hF hNc hNb hNs q0 hB hBK hBH y1 hx hz l

set_option maxHeartbeats 4000000 in
theorem lessT_21 (l0 l1 l2 l3 : Bool) (r0 r1 r2 r3 : Int) (s0 s1 s2 : Bool) (can must now : Int) (c s b : Int) (F : Fc) (cn : Nat) (h7 : cn < 7) (fc : F.can < 128) (fm : F.must < 128) (fn : F.now < 128)
  (hF : Ctr Tryd.prog 6 49 [.agg ⟨[.bool l0, .bool l1, .bool l2, .bool l3, I64 r0, I64 r1, I64 r2, I64 r3, .bool s0, .bool s1, .bool s2, I64 can, I64 must, I64 now]⟩] [] (.agg ⟨F.cells⟩) []) (hNc : Ctr Tryd.prog 6 34 [I64 c, I64 7] [] (I64 ((cn : Nat) : Int)) []) (hNb : Ctr Tryd.prog 6 34 [I64 b, I64 3] [] (I64 2) []) (hNs : Ctr Tryd.prog 6 34 [I64 s, I64 4] [] (I64 1) []) : Ctr Tryd.prog 6 15 [.agg ⟨[.bool l0, .bool l1, .bool l2, .bool l3, I64 r0, I64 r1, I64 r2, I64 r3, .bool s0, .bool s1, .bool s2, I64 can, I64 must, I64 now]⟩, I64 c, I64 s, I64 b] [(5, .ro 0 tzv)] (.bool true) [.ro 0 tzv] := by
  obtain ⟨K, hK⟩ : ∃ K : Fc, K = { F with can := nAn F.can (2 ^ cn), s2 := true } := ⟨_, rfl⟩
  obtain ⟨H, hH⟩ : ∃ H : Fc, H = { F with l1 := false } := ⟨_, rfl⟩
  have kc : K.can < 128 := by rw [hK]; exact nAn_lt fc
  have km : K.must < 128 := by rw [hK]; exact fm
  have kn : K.now < 128 := by rw [hK]; exact fn
  have hc : H.can < 128 := by rw [hH]; exact fc
  have hm : H.must < 128 := by rw [hH]; exact fm
  have hn : H.now < 128 := by rw [hH]; exact fn
  have hB := choose_Best F fc fm fn
  have hBK := choose_Best K kc km kn
  have hBH := choose_Best H hc hm hn
  have KS : ∀ k, F.s k = true → K.s k = true := by
    intro k h; rw [hK]
    match k, h with
    | 0, h => first | rfl | exact h
    | 1, h => first | rfl | exact h
    | 2, h => first | rfl | exact h
    | k + 3, h => exact h
  have HL : ∀ k, H.l k = true → F.l k = true := by
    intro k h; rw [hH] at h
    match k, h with
    | 0, h => first | exact h | cases h
    | 1, h => first | exact h | cases h
    | 2, h => first | exact h | cases h
    | 3, h => first | exact h | cases h
    | k + 4, h => exact h
  have Hf : ∀ m, fitB H m = fitB F m := by intro m; rw [hH]; rfl
  have KF : ∀ y, y < 128 → fitB K y = true → fitB F y = true := fun y hy h =>
    fit_less (by rw [hK]; exact nAn_mono ⟨F.can, fc⟩ ⟨cn, h7⟩) kc fc (by rw [hK]) fm KS hy h
  have hfy := choose_Fits F fc fm (bestF K 128).1
  have BK := (bestOk K 128).yes
  have BF := (bestOk F 128).yes
  have BH := (bestOk H 128).yes
  have hki := found_iff K F KF
  have hhi := found_iff H F (fun m _ h => (Hf m) ▸ h)
  have hfh := found_iff F H (fun m _ h => (Hf m).symm ▸ h)
  have hle := best_less (F := F) (K := H) HL Hf
  have eK : (.agg ⟨K.cells⟩ : Value) = .agg ⟨[.bool F.l0, .bool F.l1, .bool F.l2, .bool F.l3, I64 F.r0, I64 F.r1, I64 F.r2, I64 F.r3, .bool F.s0, .bool F.s1, .bool true, I64 (anX ((F.can : Nat) : Int) (IntKind.i64.wrap (1 * 2 ^ min (IntKind.u64.wrap ((cn : Nat) : Int)).toNat IntKind.i64.bits))), I64 ((F.must : Nat) : Int), I64 ((F.now : Nat) : Int)]⟩ := by rw [shx fc h7, hK]; rfl
  have eH : (.agg ⟨H.cells⟩ : Value) = .agg ⟨[.bool F.l0, .bool false, .bool F.l2, .bool F.l3, I64 F.r0, I64 F.r1, I64 F.r2, I64 F.r3, .bool F.s0, .bool F.s1, .bool F.s2, I64 ((F.can : Nat) : Int), I64 ((F.must : Nat) : Int), I64 ((F.now : Nat) : Int)]⟩ := by rw [hH]; rfl
  rw [eK] at hBK
  have hsF := choose_Score4 F fn (bestF F 128).1
  have hsH := choose_Score4 H hn (bestF H 128).1
  rw [eH] at hBH hsH
  have q0 := u64_7 ⟨cn, h7⟩
  have N7 : ∀ x, x = false ∨ x = true := by decide
  rcases N7 (bestF F 128).2.1 with a | a
  · have k0 : (bestF K 128).2.1 = false := by cases h : (bestF K 128).2.1 with | false => rfl | true => rw [hki h] at a; cases a
    have z0 : (bestF H 128).2.1 = false := by cases h : (bestF H 128).2.1 with | false => rfl | true => rw [hhi h] at a; cases a
    rw [a] at hB; rw [k0] at hBK; rw [z0] at hBH
    exact less_2100 l0 l1 l2 l3 r0 r1 r2 r3 s0 s1 s2 can must now c s b F cn _ _ _ hF hNc hNb hNs q0 hB hBK hBH
  · have z1 := hfh a
    rw [a] at hB; rw [z1] at hBH
    have l := hle a z1
    have hx := hsF (BF a).1
    have hz := hsH (BH z1).1
    rcases N7 (bestF K 128).2.1 with k | k
    · rw [k] at hBK
      exact less_2101 l0 l1 l2 l3 r0 r1 r2 r3 s0 s1 s2 can must now c s b F cn _ _ _ _ _ _ _ _ _ _ _ hF hNc hNb hNs q0 hB hBK hBH hx hz l
    · rw [k] at hBK
      have y1 := hfy (BK k).1
      rw [KF _ (BK k).1 (BK k).2.1] at y1
      exact less_2111 l0 l1 l2 l3 r0 r1 r2 r3 s0 s1 s2 can must now c s b F cn _ _ _ _ _ _ _ _ _ _ _ hF hNc hNb hNs q0 hB hBK hBH y1 hx hz l

set_option maxHeartbeats 4000000 in
theorem lessT_22 (l0 l1 l2 l3 : Bool) (r0 r1 r2 r3 : Int) (s0 s1 s2 : Bool) (can must now : Int) (c s b : Int) (F : Fc) (cn : Nat) (h7 : cn < 7) (fc : F.can < 128) (fm : F.must < 128) (fn : F.now < 128)
  (hF : Ctr Tryd.prog 6 49 [.agg ⟨[.bool l0, .bool l1, .bool l2, .bool l3, I64 r0, I64 r1, I64 r2, I64 r3, .bool s0, .bool s1, .bool s2, I64 can, I64 must, I64 now]⟩] [] (.agg ⟨F.cells⟩) []) (hNc : Ctr Tryd.prog 6 34 [I64 c, I64 7] [] (I64 ((cn : Nat) : Int)) []) (hNb : Ctr Tryd.prog 6 34 [I64 b, I64 3] [] (I64 2) []) (hNs : Ctr Tryd.prog 6 34 [I64 s, I64 4] [] (I64 2) []) : Ctr Tryd.prog 6 15 [.agg ⟨[.bool l0, .bool l1, .bool l2, .bool l3, I64 r0, I64 r1, I64 r2, I64 r3, .bool s0, .bool s1, .bool s2, I64 can, I64 must, I64 now]⟩, I64 c, I64 s, I64 b] [(5, .ro 0 tzv)] (.bool true) [.ro 0 tzv] := by
  obtain ⟨K, hK⟩ : ∃ K : Fc, K = { F with can := nAn F.can (2 ^ cn), s2 := true } := ⟨_, rfl⟩
  obtain ⟨H, hH⟩ : ∃ H : Fc, H = { F with l2 := false } := ⟨_, rfl⟩
  have kc : K.can < 128 := by rw [hK]; exact nAn_lt fc
  have km : K.must < 128 := by rw [hK]; exact fm
  have kn : K.now < 128 := by rw [hK]; exact fn
  have hc : H.can < 128 := by rw [hH]; exact fc
  have hm : H.must < 128 := by rw [hH]; exact fm
  have hn : H.now < 128 := by rw [hH]; exact fn
  have hB := choose_Best F fc fm fn
  have hBK := choose_Best K kc km kn
  have hBH := choose_Best H hc hm hn
  have KS : ∀ k, F.s k = true → K.s k = true := by
    intro k h; rw [hK]
    match k, h with
    | 0, h => first | rfl | exact h
    | 1, h => first | rfl | exact h
    | 2, h => first | rfl | exact h
    | k + 3, h => exact h
  have HL : ∀ k, H.l k = true → F.l k = true := by
    intro k h; rw [hH] at h
    match k, h with
    | 0, h => first | exact h | cases h
    | 1, h => first | exact h | cases h
    | 2, h => first | exact h | cases h
    | 3, h => first | exact h | cases h
    | k + 4, h => exact h
  have Hf : ∀ m, fitB H m = fitB F m := by intro m; rw [hH]; rfl
  have KF : ∀ y, y < 128 → fitB K y = true → fitB F y = true := fun y hy h =>
    fit_less (by rw [hK]; exact nAn_mono ⟨F.can, fc⟩ ⟨cn, h7⟩) kc fc (by rw [hK]) fm KS hy h
  have hfy := choose_Fits F fc fm (bestF K 128).1
  have BK := (bestOk K 128).yes
  have BF := (bestOk F 128).yes
  have BH := (bestOk H 128).yes
  have hki := found_iff K F KF
  have hhi := found_iff H F (fun m _ h => (Hf m) ▸ h)
  have hfh := found_iff F H (fun m _ h => (Hf m).symm ▸ h)
  have hle := best_less (F := F) (K := H) HL Hf
  have eK : (.agg ⟨K.cells⟩ : Value) = .agg ⟨[.bool F.l0, .bool F.l1, .bool F.l2, .bool F.l3, I64 F.r0, I64 F.r1, I64 F.r2, I64 F.r3, .bool F.s0, .bool F.s1, .bool true, I64 (anX ((F.can : Nat) : Int) (IntKind.i64.wrap (1 * 2 ^ min (IntKind.u64.wrap ((cn : Nat) : Int)).toNat IntKind.i64.bits))), I64 ((F.must : Nat) : Int), I64 ((F.now : Nat) : Int)]⟩ := by rw [shx fc h7, hK]; rfl
  have eH : (.agg ⟨H.cells⟩ : Value) = .agg ⟨[.bool F.l0, .bool F.l1, .bool false, .bool F.l3, I64 F.r0, I64 F.r1, I64 F.r2, I64 F.r3, .bool F.s0, .bool F.s1, .bool F.s2, I64 ((F.can : Nat) : Int), I64 ((F.must : Nat) : Int), I64 ((F.now : Nat) : Int)]⟩ := by rw [hH]; rfl
  rw [eK] at hBK
  have hsF := choose_Score4 F fn (bestF F 128).1
  have hsH := choose_Score4 H hn (bestF H 128).1
  rw [eH] at hBH hsH
  have q0 := u64_7 ⟨cn, h7⟩
  have N7 : ∀ x, x = false ∨ x = true := by decide
  rcases N7 (bestF F 128).2.1 with a | a
  · have k0 : (bestF K 128).2.1 = false := by cases h : (bestF K 128).2.1 with | false => rfl | true => rw [hki h] at a; cases a
    have z0 : (bestF H 128).2.1 = false := by cases h : (bestF H 128).2.1 with | false => rfl | true => rw [hhi h] at a; cases a
    rw [a] at hB; rw [k0] at hBK; rw [z0] at hBH
    exact less_2200 l0 l1 l2 l3 r0 r1 r2 r3 s0 s1 s2 can must now c s b F cn _ _ _ hF hNc hNb hNs q0 hB hBK hBH
  · have z1 := hfh a
    rw [a] at hB; rw [z1] at hBH
    have l := hle a z1
    have hx := hsF (BF a).1
    have hz := hsH (BH z1).1
    rcases N7 (bestF K 128).2.1 with k | k
    · rw [k] at hBK
      exact less_2201 l0 l1 l2 l3 r0 r1 r2 r3 s0 s1 s2 can must now c s b F cn _ _ _ _ _ _ _ _ _ _ _ hF hNc hNb hNs q0 hB hBK hBH hx hz l
    · rw [k] at hBK
      have y1 := hfy (BK k).1
      rw [KF _ (BK k).1 (BK k).2.1] at y1
      exact less_2211 l0 l1 l2 l3 r0 r1 r2 r3 s0 s1 s2 can must now c s b F cn _ _ _ _ _ _ _ _ _ _ _ hF hNc hNb hNs q0 hB hBK hBH y1 hx hz l

set_option maxHeartbeats 4000000 in
theorem lessT_23 (l0 l1 l2 l3 : Bool) (r0 r1 r2 r3 : Int) (s0 s1 s2 : Bool) (can must now : Int) (c s b : Int) (F : Fc) (cn : Nat) (h7 : cn < 7) (fc : F.can < 128) (fm : F.must < 128) (fn : F.now < 128)
  (hF : Ctr Tryd.prog 6 49 [.agg ⟨[.bool l0, .bool l1, .bool l2, .bool l3, I64 r0, I64 r1, I64 r2, I64 r3, .bool s0, .bool s1, .bool s2, I64 can, I64 must, I64 now]⟩] [] (.agg ⟨F.cells⟩) []) (hNc : Ctr Tryd.prog 6 34 [I64 c, I64 7] [] (I64 ((cn : Nat) : Int)) []) (hNb : Ctr Tryd.prog 6 34 [I64 b, I64 3] [] (I64 2) []) (hNs : Ctr Tryd.prog 6 34 [I64 s, I64 4] [] (I64 3) []) : Ctr Tryd.prog 6 15 [.agg ⟨[.bool l0, .bool l1, .bool l2, .bool l3, I64 r0, I64 r1, I64 r2, I64 r3, .bool s0, .bool s1, .bool s2, I64 can, I64 must, I64 now]⟩, I64 c, I64 s, I64 b] [(5, .ro 0 tzv)] (.bool true) [.ro 0 tzv] := by
  obtain ⟨K, hK⟩ : ∃ K : Fc, K = { F with can := nAn F.can (2 ^ cn), s2 := true } := ⟨_, rfl⟩
  obtain ⟨H, hH⟩ : ∃ H : Fc, H = { F with l3 := false } := ⟨_, rfl⟩
  have kc : K.can < 128 := by rw [hK]; exact nAn_lt fc
  have km : K.must < 128 := by rw [hK]; exact fm
  have kn : K.now < 128 := by rw [hK]; exact fn
  have hc : H.can < 128 := by rw [hH]; exact fc
  have hm : H.must < 128 := by rw [hH]; exact fm
  have hn : H.now < 128 := by rw [hH]; exact fn
  have hB := choose_Best F fc fm fn
  have hBK := choose_Best K kc km kn
  have hBH := choose_Best H hc hm hn
  have KS : ∀ k, F.s k = true → K.s k = true := by
    intro k h; rw [hK]
    match k, h with
    | 0, h => first | rfl | exact h
    | 1, h => first | rfl | exact h
    | 2, h => first | rfl | exact h
    | k + 3, h => exact h
  have HL : ∀ k, H.l k = true → F.l k = true := by
    intro k h; rw [hH] at h
    match k, h with
    | 0, h => first | exact h | cases h
    | 1, h => first | exact h | cases h
    | 2, h => first | exact h | cases h
    | 3, h => first | exact h | cases h
    | k + 4, h => exact h
  have Hf : ∀ m, fitB H m = fitB F m := by intro m; rw [hH]; rfl
  have KF : ∀ y, y < 128 → fitB K y = true → fitB F y = true := fun y hy h =>
    fit_less (by rw [hK]; exact nAn_mono ⟨F.can, fc⟩ ⟨cn, h7⟩) kc fc (by rw [hK]) fm KS hy h
  have hfy := choose_Fits F fc fm (bestF K 128).1
  have BK := (bestOk K 128).yes
  have BF := (bestOk F 128).yes
  have BH := (bestOk H 128).yes
  have hki := found_iff K F KF
  have hhi := found_iff H F (fun m _ h => (Hf m) ▸ h)
  have hfh := found_iff F H (fun m _ h => (Hf m).symm ▸ h)
  have hle := best_less (F := F) (K := H) HL Hf
  have eK : (.agg ⟨K.cells⟩ : Value) = .agg ⟨[.bool F.l0, .bool F.l1, .bool F.l2, .bool F.l3, I64 F.r0, I64 F.r1, I64 F.r2, I64 F.r3, .bool F.s0, .bool F.s1, .bool true, I64 (anX ((F.can : Nat) : Int) (IntKind.i64.wrap (1 * 2 ^ min (IntKind.u64.wrap ((cn : Nat) : Int)).toNat IntKind.i64.bits))), I64 ((F.must : Nat) : Int), I64 ((F.now : Nat) : Int)]⟩ := by rw [shx fc h7, hK]; rfl
  have eH : (.agg ⟨H.cells⟩ : Value) = .agg ⟨[.bool F.l0, .bool F.l1, .bool F.l2, .bool false, I64 F.r0, I64 F.r1, I64 F.r2, I64 F.r3, .bool F.s0, .bool F.s1, .bool F.s2, I64 ((F.can : Nat) : Int), I64 ((F.must : Nat) : Int), I64 ((F.now : Nat) : Int)]⟩ := by rw [hH]; rfl
  rw [eK] at hBK
  have hsF := choose_Score4 F fn (bestF F 128).1
  have hsH := choose_Score4 H hn (bestF H 128).1
  rw [eH] at hBH hsH
  have q0 := u64_7 ⟨cn, h7⟩
  have N7 : ∀ x, x = false ∨ x = true := by decide
  rcases N7 (bestF F 128).2.1 with a | a
  · have k0 : (bestF K 128).2.1 = false := by cases h : (bestF K 128).2.1 with | false => rfl | true => rw [hki h] at a; cases a
    have z0 : (bestF H 128).2.1 = false := by cases h : (bestF H 128).2.1 with | false => rfl | true => rw [hhi h] at a; cases a
    rw [a] at hB; rw [k0] at hBK; rw [z0] at hBH
    exact less_2300 l0 l1 l2 l3 r0 r1 r2 r3 s0 s1 s2 can must now c s b F cn _ _ _ hF hNc hNb hNs q0 hB hBK hBH
  · have z1 := hfh a
    rw [a] at hB; rw [z1] at hBH
    have l := hle a z1
    have hx := hsF (BF a).1
    have hz := hsH (BH z1).1
    rcases N7 (bestF K 128).2.1 with k | k
    · rw [k] at hBK
      exact less_2301 l0 l1 l2 l3 r0 r1 r2 r3 s0 s1 s2 can must now c s b F cn _ _ _ _ _ _ _ _ _ _ _ hF hNc hNb hNs q0 hB hBK hBH hx hz l
    · rw [k] at hBK
      have y1 := hfy (BK k).1
      rw [KF _ (BK k).1 (BK k).2.1] at y1
      exact less_2311 l0 l1 l2 l3 r0 r1 r2 r3 s0 s1 s2 can must now c s b F cn _ _ _ _ _ _ _ _ _ _ _ hF hNc hNb hNs q0 hB hBK hBH y1 hx hz l

set_option maxRecDepth 100000 in
theorem chooseLess (l0 l1 l2 l3 : Bool) (r0 r1 r2 r3 : Int) (s0 s1 s2 : Bool) (can must now : Int) (c s b : Int) : Ctr Tryd.prog 6 15 [.agg ⟨[.bool l0, .bool l1, .bool l2, .bool l3, I64 r0, I64 r1, I64 r2, I64 r3, .bool s0, .bool s1, .bool s2, I64 can, I64 must, I64 now]⟩, I64 c, I64 s, I64 b] [(5, .ro 0 tzv)] (.bool true) [.ro 0 tzv] := by
  obtain ⟨ca, m, n, hc, hm, hn, hF⟩ := facts22 l0 l1 l2 l3 r0 r1 r2 r3 s0 s1 s2 can must now
  have hNc := world_Number (G := 6) c 7 (by decide)
  have hNb := world_Number (G := 6) b 3 (by decide)
  have hNs := world_Number (G := 6) s 4 (by decide)
  obtain ⟨x, ex, hx⟩ := num_nat c 7 (by decide) (by decide)
  obtain ⟨y, ey, hy⟩ := num_nat b 3 (by decide) (by decide)
  obtain ⟨z, ez, hz⟩ := num_nat s 4 (by decide) (by decide)
  rw [ex] at hNc; rw [ey] at hNb; rw [ez] at hNs
  have hx : x < 7 := Int.ofNat_lt.1 hx
  have hy : y < 3 := Int.ofNat_lt.1 hy
  have hz : z < 4 := Int.ofNat_lt.1 hz
  match y, hy, z, hz with
  | 0, _, 0, _ => exact lessT_00 l0 l1 l2 l3 r0 r1 r2 r3 s0 s1 s2 can must now c s b _ x hx hc hm hn hF hNc hNb hNs
  | 0, _, 1, _ => exact lessT_01 l0 l1 l2 l3 r0 r1 r2 r3 s0 s1 s2 can must now c s b _ x hx hc hm hn hF hNc hNb hNs
  | 0, _, 2, _ => exact lessT_02 l0 l1 l2 l3 r0 r1 r2 r3 s0 s1 s2 can must now c s b _ x hx hc hm hn hF hNc hNb hNs
  | 0, _, 3, _ => exact lessT_03 l0 l1 l2 l3 r0 r1 r2 r3 s0 s1 s2 can must now c s b _ x hx hc hm hn hF hNc hNb hNs
  | 1, _, 0, _ => exact lessT_10 l0 l1 l2 l3 r0 r1 r2 r3 s0 s1 s2 can must now c s b _ x hx hc hm hn hF hNc hNb hNs
  | 1, _, 1, _ => exact lessT_11 l0 l1 l2 l3 r0 r1 r2 r3 s0 s1 s2 can must now c s b _ x hx hc hm hn hF hNc hNb hNs
  | 1, _, 2, _ => exact lessT_12 l0 l1 l2 l3 r0 r1 r2 r3 s0 s1 s2 can must now c s b _ x hx hc hm hn hF hNc hNb hNs
  | 1, _, 3, _ => exact lessT_13 l0 l1 l2 l3 r0 r1 r2 r3 s0 s1 s2 can must now c s b _ x hx hc hm hn hF hNc hNb hNs
  | 2, _, 0, _ => exact lessT_20 l0 l1 l2 l3 r0 r1 r2 r3 s0 s1 s2 can must now c s b _ x hx hc hm hn hF hNc hNb hNs
  | 2, _, 1, _ => exact lessT_21 l0 l1 l2 l3 r0 r1 r2 r3 s0 s1 s2 can must now c s b _ x hx hc hm hn hF hNc hNb hNs
  | 2, _, 2, _ => exact lessT_22 l0 l1 l2 l3 r0 r1 r2 r3 s0 s1 s2 can must now c s b _ x hx hc hm hn hF hNc hNb hNs
  | 2, _, 3, _ => exact lessT_23 l0 l1 l2 l3 r0 r1 r2 r3 s0 s1 s2 can must now c s b _ x hx hc hm hn hF hNc hNb hNs
end Go.Proofs.YtlhhcongoplfpaaDoor
