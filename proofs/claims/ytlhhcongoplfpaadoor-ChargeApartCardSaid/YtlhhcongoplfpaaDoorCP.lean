/- What functions of this program do, each as a contract that its callers use.
   By an AI agent. -/
import Derived.Test.YtlhhcongoplfpaaDoorAB
import Derived.Test.YtlhhcongoplfpaaDoorLayD
import Derived.Test.YtlhhcongoplfpaaDoorDC8
import Derived.Test.YtlhhcongoplfpaaDoorDS12
import Derived.Test.YtlhhcongoplfpaaDoorABW
namespace Go.Proofs.YtlhhcongoplfpaaDoor
open Go Go.Proofs.YtlhhcongoplfpaaDoorAB
set_option linter.unusedSimpArgs false
set_option linter.unusedVariables false

/-- A span of a battery's charge. -/
def Wd (lo hi : Int) : Prop := 0 ≤ lo ∧ lo ≤ hi ∧ hi ≤ 100000
/-- A number stands in a span. -/
def Hs (lo hi q : Int) : Prop := lo ≤ q ∧ q ≤ hi
theorem mx21 : mx 2 1 = 2 := by decide
section
variable {X Y : Nat → Int} {n : Nat} {s : Bool × Int × Int} {x : Int}
theorem cvStep_f (h : cntN X Y x n < 2) : cvStep X Y n s x = s := by unfold cvStep; rw [mx21, if_pos h]
theorem cvStep_t (h : ¬ cntN X Y x n < 2) : cvStep X Y n s x = (true, mn (if s.1 = true then s.2.1 else mn x x) (mn x x), mx (if s.1 = true then s.2.2 else mx x x) (mx x x)) := by unfold cvStep; rw [mx21, if_neg h]
theorem cvStep_keep (h : s.1 = true) : (cvStep X Y n s x).1 = true ∧ (cvStep X Y n s x).2.1 ≤ s.2.1 ∧ s.2.2 ≤ (cvStep X Y n s x).2.2 := by
  by_cases hc : cntN X Y x n < 2
  · rw [cvStep_f hc]; exact ⟨h, Int.le_refl _, Int.le_refl _⟩
  · rw [cvStep_t hc, h]; simp only [if_true, mn_eq, mx_eq]; exact ⟨trivial, by omega, by omega⟩
theorem cvStep_has (h : ¬ cntN X Y x n < 2) : (cvStep X Y n s x).1 = true ∧ (cvStep X Y n s x).2.1 ≤ x ∧ x ≤ (cvStep X Y n s x).2.2 := by
  rw [cvStep_t h]; simp only [mn_eq, mx_eq]
  generalize (if s.1 = true then s.2.1 else min x x) = a
  generalize (if s.1 = true then s.2.2 else max x x) = b
  exact ⟨trivial, by omega, by omega⟩
theorem cvStep_wd (hx : 0 ≤ x) (hx2 : x ≤ 100000) (hs : s.1 = true → Wd s.2.1 s.2.2) (h : (cvStep X Y n s x).1 = true) : Wd (cvStep X Y n s x).2.1 (cvStep X Y n s x).2.2 := by
  by_cases hc : cntN X Y x n < 2
  · rw [cvStep_f hc] at h ⊢; exact hs h
  · rw [cvStep_t hc]
    by_cases h1 : s.1 = true
    · have := hs h1
      simp only [h1, if_true, mn_eq, mx_eq]; unfold Wd at *; omega
    · show Wd (mn (if s.1 = true then s.2.1 else mn x x) (mn x x)) (mx (if s.1 = true then s.2.2 else mx x x) (mx x x))
      rw [if_neg h1, if_neg h1]; simp only [mn_eq, mx_eq]; unfold Wd; omega
theorem cvIn_keep (m : Nat) : ∀ k : Nat, (cvIn X Y n m).1 = true → (cvIn X Y n (m + k)).1 = true ∧ (cvIn X Y n (m + k)).2.1 ≤ (cvIn X Y n m).2.1 ∧ (cvIn X Y n m).2.2 ≤ (cvIn X Y n (m + k)).2.2
  | 0, h => ⟨h, Int.le_refl _, Int.le_refl _⟩
  | k + 1, h => by
    obtain ⟨a, b, c⟩ := cvIn_keep m k h
    obtain ⟨d, e, f⟩ := cvStep_keep (X := X) (Y := Y) (n := n) (x := X (m + k)) a
    obtain ⟨g, i, j⟩ := cvStep_keep (X := X) (Y := Y) (n := n) (x := Y (m + k)) d
    exact ⟨g, Int.le_trans i (Int.le_trans e b), Int.le_trans c (Int.le_trans f j)⟩
theorem cvIn_X {i m : Nat} (hi : i < m) (h : ¬ cntN X Y (X i) n < 2) : (cvIn X Y n m).1 = true ∧ (cvIn X Y n m).2.1 ≤ X i ∧ X i ≤ (cvIn X Y n m).2.2 := by
  obtain ⟨a, b, c⟩ := cvStep_has (X := X) (Y := Y) (n := n) (s := cvIn X Y n i) h
  obtain ⟨d, e, f⟩ := cvStep_keep (X := X) (Y := Y) (n := n) (x := Y i) a
  obtain ⟨g, k, l⟩ := cvIn_keep (X := X) (Y := Y) (n := n) (i + 1) (m - (i + 1)) d
  rw [show i + 1 + (m - (i + 1)) = m by omega] at g k l
  exact ⟨g, Int.le_trans k (Int.le_trans e b), Int.le_trans c (Int.le_trans f l)⟩
theorem cvIn_Y {i m : Nat} (hi : i < m) (h : ¬ cntN X Y (Y i) n < 2) : (cvIn X Y n m).1 = true ∧ (cvIn X Y n m).2.1 ≤ Y i ∧ Y i ≤ (cvIn X Y n m).2.2 := by
  obtain ⟨d, e, f⟩ := cvStep_has (X := X) (Y := Y) (n := n) (s := cvStep X Y n (cvIn X Y n i) (X i)) h
  obtain ⟨g, k, l⟩ := cvIn_keep (X := X) (Y := Y) (n := n) (i + 1) (m - (i + 1)) d
  rw [show i + 1 + (m - (i + 1)) = m by omega] at g k l
  exact ⟨g, Int.le_trans k e, Int.le_trans f l⟩
theorem cvIn_wd (h : ∀ i, i < n → (0 ≤ X i ∧ X i ≤ 100000) ∧ (0 ≤ Y i ∧ Y i ≤ 100000)) : ∀ m : Nat, m ≤ n → (cvIn X Y n m).1 = true → Wd (cvIn X Y n m).2.1 (cvIn X Y n m).2.2
  | 0, _, hh => by cases hh
  | m + 1, hm, hh => by
    obtain ⟨⟨a, b⟩, c, d⟩ := h m (by omega)
    exact cvStep_wd c d (fun g => cvStep_wd a b (cvIn_wd h m (by omega)) g) hh
end
theorem cnt3 (X Y : Nat → Int) (x : Int) : cntN X Y x 3 = (if X 2 ≤ x ∧ x ≤ Y 2 then 1 else 0) + ((if X 1 ≤ x ∧ x ≤ Y 1 then 1 else 0) + (if X 0 ≤ x ∧ x ≤ Y 0 then 1 else 0)) := by
  simp only [cntN]
  (repeat' split) <;> omega
theorem cnt_two {X Y : Nat → Int} {x : Int} {i j : Nat} (hi : i < 3) (hj : j < 3) (hij : i ≠ j) (h1 : X i ≤ x ∧ x ≤ Y i) (h2 : X j ≤ x ∧ x ≤ Y j) : ¬ cntN X Y x 3 < 2 := by
  rw [cnt3]
  rcases (show i = 0 ∨ i = 1 ∨ i = 2 by omega) with rfl | rfl | rfl <;> rcases (show j = 0 ∨ j = 1 ∨ j = 2 by omega) with rfl | rfl | rfl <;> (repeat' split) <;> first | (exact absurd rfl hij) | omega
theorem pair_has {X Y : Nat → Int} {q : Int} {i j : Nat} (hi : i < 3) (hj : j < 3) (hij : i ≠ j) (h1 : Hs (X i) (Y i) q) (h2 : Hs (X j) (Y j) q) : (cvIn X Y 3 3).1 = true ∧ Hs (cvIn X Y 3 3).2.1 (cvIn X Y 3 3).2.2 q := by
  unfold Hs at *
  have lo : (cvIn X Y 3 3).1 = true ∧ (cvIn X Y 3 3).2.1 ≤ q := by
    rcases ltge (X i) (X j) with h | h
    · have := cvIn_X (X := X) (Y := Y) (n := 3) hj (cnt_two hi hj hij (by omega) (by omega)); exact ⟨this.1, by omega⟩
    · have := cvIn_X (X := X) (Y := Y) (n := 3) hi (cnt_two hi hj hij (by omega) (by omega)); exact ⟨this.1, by omega⟩
  have hi' : q ≤ (cvIn X Y 3 3).2.2 := by
    rcases ltge (Y i) (Y j) with h | h
    · have := cvIn_Y (X := X) (Y := Y) (n := 3) hi (cnt_two hi hj hij (by omega) (by omega)); omega
    · have := cvIn_Y (X := X) (Y := Y) (n := 3) hj (cnt_two hi hj hij (by omega) (by omega)); omega
  exact ⟨lo.1, lo.2, hi'⟩
section
variable {a1 b1 a2 b2 a3 b3 q : Int}
/-- A number that stands in two of three. -/
def Two (a1 b1 a2 b2 a3 b3 q : Int) : Prop := (Hs a1 b1 q ∧ Hs a2 b2 q) ∨ (Hs a1 b1 q ∧ Hs a3 b3 q) ∨ (Hs a2 b2 q ∧ Hs a3 b3 q)
theorem cv3_has (h : Two a1 b1 a2 b2 a3 b3 q) : (cv3 a1 b1 a2 b2 a3 b3).1 = true ∧ Hs (cv3 a1 b1 a2 b2 a3 b3).2.1 (cv3 a1 b1 a2 b2 a3 b3).2.2 q := by
  rcases h with ⟨h1, h2⟩ | ⟨h1, h2⟩ | ⟨h1, h2⟩
  · exact pair_has (X := vX a1 b1 a2 b2 a3 b3) (Y := vY a1 b1 a2 b2 a3 b3) (i := 0) (j := 1) (by decide) (by decide) (by decide) h1 h2
  · exact pair_has (X := vX a1 b1 a2 b2 a3 b3) (Y := vY a1 b1 a2 b2 a3 b3) (i := 0) (j := 2) (by decide) (by decide) (by decide) h1 h2
  · exact pair_has (X := vX a1 b1 a2 b2 a3 b3) (Y := vY a1 b1 a2 b2 a3 b3) (i := 1) (j := 2) (by decide) (by decide) (by decide) h1 h2
theorem cv3_wd (h1 : Wd a1 b1) (h2 : Wd a2 b2) (h3 : Wd a3 b3) (h : (cv3 a1 b1 a2 b2 a3 b3).1 = true) : Wd (cv3 a1 b1 a2 b2 a3 b3).2.1 (cv3 a1 b1 a2 b2 a3 b3).2.2 := by
  refine cvIn_wd (fun i hi => ?_) 3 (Nat.le_refl _) h
  unfold Wd at *
  rcases (show i = 0 ∨ i = 1 ∨ i = 2 by omega) with rfl | rfl | rfl
  · show (0 ≤ a1 ∧ a1 ≤ 100000) ∧ (0 ≤ b1 ∧ b1 ≤ 100000); omega
  · show (0 ≤ a2 ∧ a2 ≤ 100000) ∧ (0 ≤ b2 ∧ b2 ≤ 100000); omega
  · show (0 ≤ a3 ∧ a3 ≤ 100000) ∧ (0 ≤ b3 ∧ b3 ≤ 100000); omega
theorem mIs_iff : mIs a1 b1 a2 b2 = true ↔ max a1 a2 ≤ min b1 b2 := by
  unfold mIs; rw [mx_eq, mn_eq]; simp only [Bool.not_eq_true', decide_eq_false_iff_not, Int.not_lt]; first | done | omega
theorem vt_has3 (h : Two a1 b1 a2 b2 a3 b3 q) : Hs (vtLo a1 b1 a2 b2 a3 b3 true) (vtHi a1 b1 a2 b2 a3 b3 true) q := by
  obtain ⟨c1, c2⟩ := cv3_has h
  unfold vtLo vtHi
  rw [if_pos rfl, if_pos rfl, if_pos c1, if_pos c1]; exact c2
theorem vt_has2 (h1 : Hs a1 b1 q) (h2 : Hs a2 b2 q) : Hs (vtLo a1 b1 a2 b2 a3 b3 false) (vtHi a1 b1 a2 b2 a3 b3 false) q := by
  unfold Hs at *
  have hm : mIs a1 b1 a2 b2 = true := mIs_iff.2 (by omega)
  have hm2 : ¬ mx a1 a2 > mn b1 b2 := by rw [mx_eq, mn_eq]; omega
  unfold vtLo vtHi
  rw [if_neg (show ¬ (false = true) by decide), if_neg (show ¬ (false = true) by decide), if_pos hm, if_pos hm]
  unfold mLo mHi
  rw [if_neg hm2, if_neg hm2, mx_eq, mn_eq]; omega
theorem vt_has {says : Bool} (h1 : Hs a1 b1 q) (h2 : Hs a2 b2 q) : Hs (vtLo a1 b1 a2 b2 a3 b3 says) (vtHi a1 b1 a2 b2 a3 b3 says) q := by
  cases says
  · exact vt_has2 h1 h2
  · exact vt_has3 (.inl ⟨h1, h2⟩)
theorem vt_wd {says : Bool} (h1 : Wd a1 b1) (h2 : Wd a2 b2) (h3 : says = true → Wd a3 b3) : Wd (vtLo a1 b1 a2 b2 a3 b3 says) (vtHi a1 b1 a2 b2 a3 b3 says) := by
  have hull : Wd (mn a1 a2) (mx b1 b2) := by unfold Wd at *; rw [mn_eq, mx_eq]; omega
  unfold vtLo vtHi
  cases says with
  | true =>
    rw [if_pos rfl, if_pos rfl]
    by_cases hc : (cv3 a1 b1 a2 b2 a3 b3).1 = true
    · rw [if_pos hc, if_pos hc]; exact cv3_wd h1 h2 (h3 rfl) hc
    · rw [if_neg hc, if_neg hc]; exact hull
  | false =>
    rw [if_neg (show ¬ (false = true) by decide), if_neg (show ¬ (false = true) by decide)]
    by_cases hc : mIs a1 b1 a2 b2 = true
    · have hm := mIs_iff.1 hc
      rw [if_pos hc, if_pos hc]
      have hm2 : ¬ mx a1 a2 > mn b1 b2 := by rw [mx_eq, mn_eq]; omega
      unfold mLo mHi
      rw [if_neg hm2, if_neg hm2, mx_eq, mn_eq]
      unfold Wd at *; omega
    · rw [if_neg hc, if_neg hc]; exact hull
/-- The same span thrice. -/
theorem cv3_same (h : a1 ≤ b1) : cv3 a1 b1 a1 b1 a1 b1 = (true, a1, b1) := by
  have ca : ¬ cntN (vX a1 b1 a1 b1 a1 b1) (vY a1 b1 a1 b1 a1 b1) a1 3 < 2 := cnt_two (i := 0) (j := 1) (by decide) (by decide) (by decide) ⟨Int.le_refl _, h⟩ ⟨Int.le_refl _, h⟩
  have cb : ¬ cntN (vX a1 b1 a1 b1 a1 b1) (vY a1 b1 a1 b1 a1 b1) b1 3 < 2 := cnt_two (i := 0) (j := 1) (by decide) (by decide) (by decide) ⟨h, Int.le_refl _⟩ ⟨h, Int.le_refl _⟩
  have e : cv3 a1 b1 a1 b1 a1 b1 = cvStep (vX a1 b1 a1 b1 a1 b1) (vY a1 b1 a1 b1 a1 b1) 3 (cvStep (vX a1 b1 a1 b1 a1 b1) (vY a1 b1 a1 b1 a1 b1) 3 (cvStep (vX a1 b1 a1 b1 a1 b1) (vY a1 b1 a1 b1 a1 b1) 3 (cvStep (vX a1 b1 a1 b1 a1 b1) (vY a1 b1 a1 b1 a1 b1) 3 (cvStep (vX a1 b1 a1 b1 a1 b1) (vY a1 b1 a1 b1 a1 b1) 3 (cvStep (vX a1 b1 a1 b1 a1 b1) (vY a1 b1 a1 b1 a1 b1) 3 (false, 0, 0) a1) b1) a1) b1) a1) b1 := rfl
  rw [e]
  simp only [cvStep_t ca, cvStep_t cb, if_true, mn_eq, mx_eq]
  simp only [Bool.false_eq_true, if_false]
  refine congrArg (Prod.mk true) (Prod.ext ?_ ?_)
  · show min _ _ = a1; omega
  · show max _ _ = b1; omega
theorem vt_same (h : a1 ≤ b1) : vtLo a1 b1 a1 b1 a1 b1 true = a1 ∧ vtHi a1 b1 a1 b1 a1 b1 true = b1 := by
  have e := cv3_same h
  unfold vtLo vtHi
  rw [if_pos rfl, if_pos rfl, e]; exact ⟨rfl, rfl⟩
end
section
variable {c : Cfg} {lo hi x y q : Int}
theorem clip_in {x : Int} : 0 ≤ mx (mn x 100000) 0 ∧ mx (mn x 100000) 0 ≤ 100000 := by rw [mx_eq, mn_eq]; omega
theorem clip_mono {x y : Int} (h : x ≤ y) : mx (mn x 100000) 0 ≤ mx (mn y 100000) 0 := by simp only [mx_eq, mn_eq]; omega
theorem clip_id {x : Int} (h : 0 ≤ x) (h2 : x ≤ 100000) : mx (mn x 100000) 0 = x := by simp only [mx_eq, mn_eq]; omega
theorem clip_le {x q : Int} (h : x ≤ q) (h2 : 0 ≤ q) : mx (mn x 100000) 0 ≤ q := by simp only [mx_eq, mn_eq]; omega
theorem clip_ge {x q : Int} (h : q ≤ x) (h2 : q ≤ 100000) : q ≤ mx (mn x 100000) 0 := by simp only [mx_eq, mn_eq]; omega
theorem wide_eq (hD : c.Drift = 50) (h : Wd x y) : wLo x c.Drift = x - 50 ∧ wHi y c.Drift = y + 50 := by
  unfold Wd at h
  unfold wLo wHi
  rw [hD, if_neg (by decide), if_neg (by decide), fSub_in (by omega) (by omega) (by omega) (by omega), fAdd_in (by omega) (by omega) (by omega) (by omega)]
  exact ⟨rfl, rfl⟩
theorem st_wd (hC : c.Cap = 100000) (hD : c.Drift = 50) (h1 : Wd lo hi) (h2 : Wd x y) : Wd (stLo c lo hi x y) (stHi c lo hi x y) := by
  unfold stLo stHi
  by_cases hm : mIs lo hi x y = true
  · rw [if_pos hm, if_pos hm]; exact h1
  · rw [if_neg hm, if_neg hm, (wide_eq hD h2).1, (wide_eq hD h2).2, hC]
    have a := clip_in (x := x - 50); have b := clip_in (x := y + 50)
    have m := clip_mono (x := x - 50) (y := y + 50) (by unfold Wd at h2; omega)
    unfold Wd; omega
theorem st_has (hC : c.Cap = 100000) (hD : c.Drift = 50) (h2 : Wd x y) (h3 : Hs lo hi q) (h4 : Hs x y q) : Hs (stLo c lo hi x y) (stHi c lo hi x y) q := by
  have hm : mIs lo hi x y = true := mIs_iff.2 (by unfold Hs at *; omega)
  unfold stLo stHi
  rw [if_pos hm, if_pos hm]; exact h3
theorem st_meets (hC : c.Cap = 100000) (hD : c.Drift = 50) (h1 : Wd lo hi) (h2 : Wd x y) : mIs (stLo c lo hi x y) (stHi c lo hi x y) x y = true := by
  unfold stLo stHi
  by_cases hm : mIs lo hi x y = true
  · rw [if_pos hm, if_pos hm]; exact hm
  · rw [if_neg hm, if_neg hm, (wide_eq hD h2).1, (wide_eq hD h2).2, hC]
    refine mIs_iff.2 ?_
    have a := clip_le (x := x - 50) (q := x) (by omega) (by unfold Wd at h2; omega)
    have b := clip_ge (x := y + 50) (q := y) (by omega) (by unfold Wd at h2; omega)
    unfold Wd at h2; omega
theorem out_eq (hI : c.Imax = 500) (e0 : 0 ≤ c.AmpErr) (e4 : c.AmpErr ≤ 4) {v : Int} {fr : Bool} (h4 : -1000000 < v) (h5 : v < 1000000) :
    outLo c v fr = (if fr = true then v - c.AmpErr else -500) ∧ outHi c v fr = (if fr = true then v + c.AmpErr else 500) := by
  cases fr
  · refine ⟨?_, ?_⟩
    · show mn (IntKind.i64.wrap (0 - c.Imax)) c.Imax = -500; rw [hI]; decide
    · show mx (IntKind.i64.wrap (0 - c.Imax)) c.Imax = 500; rw [hI]; decide
  · refine ⟨?_, ?_⟩
    · show wLo (mn v v) c.AmpErr = v - c.AmpErr
      have : mn v v = v := by rw [mn_eq]; omega
      unfold wLo; rw [if_neg (by omega), this, fSub_in (by omega) (by omega) (by omega) (by omega)]
    · show wHi (mx v v) c.AmpErr = v + c.AmpErr
      have : mx v v = v := by rw [mx_eq]; omega
      unfold wHi; rw [if_neg (by omega), this, fAdd_in (by omega) (by omega) (by omega) (by omega)]
theorem q_wd (hC : c.Cap = 100000) (hI : c.Imax = 500) (e0 : 0 ≤ c.AmpErr) (e4 : c.AmpErr ≤ 4) (h : Wd lo hi) {v : Int} {fr : Bool} (h4 : -1000000 < v) (h5 : v < 1000000) : Wd (qLo c lo v fr) (qHi c hi v fr) := by
  obtain ⟨ea, eb⟩ := out_eq hI e0 e4 (fr := fr) h4 h5
  unfold Wd at h
  unfold qLo qHi
  have key : outLo c v fr ≤ outHi c v fr ∧ -2000000 < outLo c v fr ∧ outHi c v fr < 2000000 := by rw [ea, eb]; split <;> omega
  rw [hC, fSub_in (by omega) (by omega) (by omega) (by omega), fSub_in (by omega) (by omega) (by omega) (by omega)]
  exact ⟨clip_in.1, clip_mono (by omega), clip_in.2⟩
/-- A counter that has the charge, and is told the amps, has what is left. -/
theorem q_has (hC : c.Cap = 100000) (hI : c.Imax = 500) (e0 : 0 ≤ c.AmpErr) (e4 : c.AmpErr ≤ 4) (h : Wd lo hi) (hq : Hs lo hi q) {v : Int} (h4 : -1000000 < v) (h5 : v < 1000000) (h6 : 0 ≤ q - v) (h7 : q - v ≤ 100000) : Hs (qLo c lo v true) (qHi c hi v true) (q - v) := by
  obtain ⟨ea, eb⟩ := out_eq hI e0 e4 (fr := true) h4 h5
  rw [if_pos rfl] at ea eb
  unfold Wd Hs at *
  unfold qLo qHi
  rw [ea, eb, hC, fSub_in (by omega) (by omega) (by omega) (by omega), fSub_in (by omega) (by omega) (by omega) (by omega)]
  exact ⟨clip_le (by omega) h6, clip_ge (by omega) h7⟩
/-- What true volts say has the charge. -/
theorem sag_hasQ (hL : c.ocL = 4) (hV : c.Vmin = 10000) (hS : c.SagErr = 100) {v a : Int} (h1 : 0 ≤ q) (h2 : q ≤ 100000) (hv : v = tLo 4 oX oY q - dn (a * 20) 1000) (h3 : ¬ v < 10000) : sIs c v true true = true ∧ Hs (sLo c oX oY v a true true) (sHi c oX oY v a true true) q := by
  have hn : ¬ v < c.Vmin := by rw [hV]; exact h3
  have t3 := ocOk.apart q
  have x0 : oX 0 = 0 := rfl
  have x3 : oX (4 - 1) = 100000 := rfl
  have d := (dn_up (a := a * 20) (b := 1000) (by decide)).1
  refine ⟨by unfold sIs; exact decide_eq_true ⟨rfl, rfl, hn⟩, ?_⟩
  unfold sLo sHi
  rw [if_pos ⟨rfl, rfl, hn⟩, if_pos ⟨rfl, rfl, hn⟩, hL, hS]
  exact ocOk.h_has (by omega) (by omega) (by omega) (by omega)
theorem sag_wd (hL : c.ocL = 4) {v a : Int} {p r : Bool} (h : sIs c v p r = true) : Wd (sLo c oX oY v a p r) (sHi c oX oY v a p r) := by
  have hn : p = true ∧ r = true ∧ ¬ v < c.Vmin := by unfold sIs at h; exact of_decide_eq_true h
  have x0 : oX 0 = 0 := rfl
  have x3 : oX (4 - 1) = 100000 := rfl
  have b := ocOk.h_in (v + dn (a * 20) 1000 - c.SagErr) (v + up (a * 20) 1000 + c.SagErr)
  unfold sLo sHi
  rw [if_pos hn, if_pos hn, hL]
  unfold Wd; omega
end
end Go.Proofs.YtlhhcongoplfpaaDoor
