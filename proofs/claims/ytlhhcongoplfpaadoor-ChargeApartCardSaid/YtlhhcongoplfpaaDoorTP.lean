/- What functions of this program do, each as a contract that its callers use.
   By an AI agent. -/
import Derived.Test.YtlhhcongoplfpaaDoorAB
/-! Tables, in plain numbers: lines through points, and where a line has a height. -/
namespace Go.Proofs.YtlhhcongoplfpaaDoorAB
set_option linter.unusedVariables false
set_option linter.unusedSimpArgs false
/-- Points, at places of a row. -/
abbrev PX (z : List (Int × Int)) (i : Nat) : Int := (z.getD i (0, 0)).1
abbrev PY (z : List (Int × Int)) (i : Nat) : Int := (z.getD i (0, 0)).2
theorem ltge (a b : Int) : a < b ∨ b ≤ a := by omega
structure TOk (n : Nat) (X Y : Nat → Int) : Prop where
  n2 : 2 ≤ n
  n64 : n ≤ 64
  x1 : ∀ i, i < n → -1073741824 ≤ X i
  x2 : ∀ i, i < n → X i ≤ 1073741824
  y1 : ∀ i, i < n → -1073741824 ≤ Y i
  y2 : ∀ i, i < n → Y i ≤ 1073741824
  xs : ∀ i, i + 1 < n → X i < X (i + 1)
  ys : ∀ i, i + 1 < n → Y i ≤ Y (i + 1)
/-- The first place from k on that is not left of x. -/
def fkA (X : Nat → Int) (x : Int) : Nat → Nat → Nat
  | 0, k => k
  | m + 1, k => if X k < x then fkA X x m (k + 1) else k
theorem fkA_spec {X : Nat → Int} {x : Int} : ∀ {m k : Nat}, k ≤ fkA X x m k ∧ fkA X x m k ≤ k + m ∧ (∀ j, k ≤ j → j < fkA X x m k → X j < x) ∧ (fkA X x m k < k + m → x ≤ X (fkA X x m k))
  | 0, k => ⟨Nat.le_refl _, Nat.le_refl _, fun j h1 h2 => by unfold fkA at h2; omega, fun h => by unfold fkA at h; omega⟩
  | m + 1, k => by
    unfold fkA
    split
    · rename_i h
      obtain ⟨a, b, c, d⟩ := fkA_spec (X := X) (x := x) (m := m) (k := k + 1)
      refine ⟨by omega, by omega, fun j h1 h2 => ?_, fun h2 => d (by omega)⟩
      rcases Nat.lt_or_ge k j with h3 | h3
      · exact c j h3 h2
      · obtain rfl : j = k := by omega
        exact h
    · rename_i h
      exact ⟨Nat.le_refl _, by omega, fun j h1 h2 => by omega, fun _ => by omega⟩
def dn (a b : Int) : Int := a / b
def up (a b : Int) : Int := -((-a) / b)
def tLo (n : Nat) (X Y : Nat → Int) (x : Int) : Int :=
  let k := fkA X x n 0
  if k = n then Y (k - 1) else if k = 0 ∨ X k = x then Y k else Y (k - 1) + dn ((Y k - Y (k - 1)) * (x - X (k - 1))) (X k - X (k - 1))
def tHi (n : Nat) (X Y : Nat → Int) (x : Int) : Int :=
  let k := fkA X x n 0
  if k = n then Y (k - 1) else if k = 0 ∨ X k = x then Y k else Y (k - 1) + up ((Y k - Y (k - 1)) * (x - X (k - 1))) (X k - X (k - 1))
section
variable {n : Nat} {X Y : Nat → Int}
theorem TOk.xmono (o : TOk n X Y) : ∀ {j i : Nat}, i ≤ j → j < n → X i ≤ X j ∧ (i < j → X i < X j)
  | 0, i, h, _ => by obtain rfl : i = 0 := by omega
                     exact ⟨Int.le_refl _, fun h => absurd h (Nat.lt_irrefl _)⟩
  | j + 1, i, h, hj => by
    rcases Nat.lt_or_ge i (j + 1) with h1 | h1
    · have h2 := (o.xmono (j := j) (i := i) (by omega) (by omega)).1
      have h3 := o.xs j hj
      exact ⟨by omega, fun _ => by omega⟩
    · obtain rfl : i = j + 1 := by omega
      exact ⟨Int.le_refl _, fun h => absurd h (Nat.lt_irrefl _)⟩
theorem TOk.ymono (o : TOk n X Y) : ∀ {j i : Nat}, i ≤ j → j < n → Y i ≤ Y j
  | 0, i, h, _ => by obtain rfl : i = 0 := by omega
                     exact Int.le_refl _
  | j + 1, i, h, hj => by
    rcases Nat.lt_or_ge i (j + 1) with h1 | h1
    · have h2 := o.ymono (j := j) (i := i) (by omega) (by omega)
      have h3 := o.ys j hj
      omega
    · obtain rfl : i = j + 1 := by omega
      exact Int.le_refl _
theorem dn_zero {b : Int} : dn 0 b = 0 := by unfold dn; exact Int.zero_ediv _
theorem up_zero {b : Int} : up 0 b = 0 := by unfold up; simp
theorem dn_mul {a b : Int} (h : 0 < b) : dn (a * b) b = a := by unfold dn; exact Int.mul_ediv_cancel _ (by omega)
theorem up_mul {a b : Int} (h : 0 < b) : up (a * b) b = a := by
  unfold up; rw [← Int.neg_mul, Int.mul_ediv_cancel _ (by omega)]; omega
theorem dn_mono {a c b : Int} (h : 0 < b) (hc : a ≤ c) : dn a b ≤ dn c b := by unfold dn; exact Int.ediv_le_ediv h hc
theorem up_mono {a c b : Int} (h : 0 < b) (hc : a ≤ c) : up a b ≤ up c b := by
  unfold up; have := Int.ediv_le_ediv h (show -c ≤ -a by omega); omega
theorem dn_up {a b : Int} (h : 0 < b) : dn a b ≤ up a b ∧ up a b ≤ dn a b + 1 := by
  unfold dn up
  have h1 := Int.mul_ediv_self_le (x := a) (k := b) (by omega)
  have h2 := Int.lt_mul_ediv_self_add (x := a) (k := b) h
  have h3 := Int.mul_ediv_self_le (x := -a) (k := b) (by omega)
  have h4 := Int.lt_mul_ediv_self_add (x := -a) (k := b) h
  generalize a / b = p at *
  generalize -a / b = q at *
  have e1 : b * p + b * q = b * (p + q) := by rw [Int.mul_add]
  constructor
  · have : ¬ (0 < p + q) := fun hh => by
      have := Int.mul_le_mul_of_nonneg_left (show 1 ≤ p + q by omega) (show 0 ≤ b by omega)
      omega
    omega
  · have : ¬ (p + q < -1) := fun hh => by
      have := Int.mul_le_mul_of_nonneg_left (show p + q ≤ -2 by omega) (show 0 ≤ b by omega)
      omega
    omega
/-- Between two points, ends and all. -/
theorem TOk.seg (o : TOk n X Y) {i : Nat} {x : Int} (hi : i + 1 < n) (h1 : X i ≤ x) (h2 : x ≤ X (i + 1)) :
    tLo n X Y x = Y i + dn ((Y (i + 1) - Y i) * (x - X i)) (X (i + 1) - X i) ∧ tHi n X Y x = Y i + up ((Y (i + 1) - Y i) * (x - X i)) (X (i + 1) - X i) := by
  obtain ⟨a, b, c, d⟩ := fkA_spec (X := X) (x := x) (m := n) (k := 0)
  have hw := o.xs i hi
  rcases ltge (X i) x with h3 | h3
  · -- then the place is i + 1
    have hk : fkA X x n 0 = i + 1 := by
      generalize fkA X x n 0 = k at *
      have k1 : i < k := by
        rcases Nat.lt_or_ge i k with h | h
        · exact h
        · have hd := d (by omega)
          have hx := (o.xmono h (by omega)).1
          omega
      have k2 : k ≤ i + 1 := by
        rcases Nat.lt_or_ge (i + 1) k with h | h
        · have hc := c (i + 1) (by omega) h
          omega
        · exact h
      omega
    unfold tLo tHi
    dsimp only
    rw [hk]
    rw [if_neg (show ¬ i + 1 = n by omega), if_neg (show ¬ i + 1 = n by omega)]
    simp only [Nat.add_sub_cancel]
    by_cases he : X (i + 1) = x
    · rw [if_pos (.inr he), if_pos (.inr he), he]
      rw [dn_mul (by omega), up_mul (by omega)]
      omega
    · rw [if_neg (show ¬ (i + 1 = 0 ∨ X (i + 1) = x) by omega), if_neg (show ¬ (i + 1 = 0 ∨ X (i + 1) = x) by omega)]
      exact ⟨rfl, rfl⟩
  · obtain rfl : x = X i := by omega
    have hk : fkA X (X i) n 0 = i := by
      generalize fkA X (X i) n 0 = k at *
      have k1 : i ≤ k := by
        rcases Nat.lt_or_ge k i with h | h
        · have hd := d (by omega)
          have hx := (o.xmono (i := k) (j := i) (by omega) (by omega)).2 h
          omega
        · exact h
      have k2 : k ≤ i := by
        rcases Nat.lt_or_ge i k with h | h
        · have hc := c i (by omega) h
          omega
        · exact h
      omega
    unfold tLo tHi
    dsimp only
    rw [hk]
    rw [if_neg (show ¬ i = n by omega), if_neg (show ¬ i = n by omega), if_pos (.inr rfl), if_pos (.inr rfl), Int.sub_self, Int.mul_zero, dn_zero, up_zero]
    omega
theorem TOk.left (o : TOk n X Y) {x : Int} (h : x ≤ X 0) : tLo n X Y x = Y 0 ∧ tHi n X Y x = Y 0 := by
  obtain ⟨a, b, c, d⟩ := fkA_spec (X := X) (x := x) (m := n) (k := 0)
  have := o.n2
  have hk : fkA X x n 0 = 0 := by
    rcases Nat.eq_zero_or_pos (fkA X x n 0) with h1 | h1
    · exact h1
    · have := c 0 (Nat.le_refl _) h1
      omega
  unfold tLo tHi
  dsimp only
  rw [hk]
  rw [if_neg (show ¬ 0 = n by omega), if_neg (show ¬ 0 = n by omega), if_pos (.inl rfl), if_pos (.inl rfl)]
  exact ⟨rfl, rfl⟩
theorem TOk.right (o : TOk n X Y) {x : Int} (h : X (n - 1) ≤ x) : tLo n X Y x = Y (n - 1) ∧ tHi n X Y x = Y (n - 1) := by
  have hn := o.n2
  rcases ltge (X (n - 1)) x with h3 | h3
  · obtain ⟨a, b, c, d⟩ := fkA_spec (X := X) (x := x) (m := n) (k := 0)
    have hk : fkA X x n 0 = n := by
      generalize fkA X x n 0 = k at *
      rcases Nat.lt_or_ge k n with h1 | h1
      · have hd := d (by omega)
        have := (o.xmono (i := k) (j := n - 1) (by omega) (by omega)).1
        omega
      · omega
    unfold tLo tHi
    dsimp only
    rw [hk]
    rw [if_pos rfl, if_pos rfl]
    exact ⟨rfl, rfl⟩
  · obtain rfl : x = X (n - 1) := by omega
    obtain ⟨e1, e2⟩ := o.seg (i := n - 2) (x := X (n - 1)) (by omega) (by rw [show n - 1 = n - 2 + 1 by omega]; have := o.xs (n - 2) (by omega); omega) (by rw [show n - 2 + 1 = n - 1 by omega]; exact Int.le_refl _)
    rw [e1, e2]
    have hw := o.xs (n - 2) (by omega)
    rw [show n - 2 + 1 = n - 1 by omega] at hw ⊢
    rw [dn_mul (by omega), up_mul (by omega)]
    omega
/-- Where a number is. -/
theorem TOk.where_ (o : TOk n X Y) (x : Int) : x ≤ X 0 ∨ X (n - 1) ≤ x ∨ ∃ i, i + 1 < n ∧ X i ≤ x ∧ x ≤ X (i + 1) ∧ X i < x := by
  obtain ⟨a, b, c, d⟩ := fkA_spec (X := X) (x := x) (m := n) (k := 0)
  have hn := o.n2
  generalize fkA X x n 0 = k at *
  rcases Nat.eq_zero_or_pos k with h | h
  · subst h; exact .inl (d (by omega))
  · rcases Nat.lt_or_ge k n with h2 | h2
    · have h3 := c (k - 1) (by omega) (by omega)
      have h4 := d (by omega)
      exact .inr (.inr ⟨k - 1, by omega, by omega, by rw [show k - 1 + 1 = k by omega]; exact h4, h3⟩)
    · have h3 := c (n - 1) (by omega) (by omega)
      exact .inr (.inl (by omega))
theorem TOk.step (o : TOk n X Y) (x : Int) : tLo n X Y x ≤ tLo n X Y (x + 1) ∧ tHi n X Y x ≤ tHi n X Y (x + 1) := by
  rcases o.where_ (x + 1) with h | h | ⟨i, hi, h1, h2, h3⟩
  · rw [(o.left h).1, (o.left h).2, (o.left (x := x) (by omega)).1, (o.left (x := x) (by omega)).2]; exact ⟨Int.le_refl _, Int.le_refl _⟩
  · rcases ltge x (X (n - 1)) with h4 | h4
    · have hn := o.n2
      have hx := o.xs (n - 2) (by omega)
      rw [show n - 2 + 1 = n - 1 by omega] at hx
      have e1 := o.seg (i := n - 2) (x := x) (by omega) (by omega) (by rw [show n - 2 + 1 = n - 1 by omega]; omega)
      have e2 := o.seg (i := n - 2) (x := x + 1) (by omega) (by omega) (by rw [show n - 2 + 1 = n - 1 by omega]; omega)
      rw [e1.1, e1.2, e2.1, e2.2]
      have hy := o.ys (n - 2) (by omega)
      rw [show n - 2 + 1 = n - 1 by omega] at hy ⊢
      have := Int.mul_le_mul_of_nonneg_left (show x - X (n - 2) ≤ x + 1 - X (n - 2) by omega) (show 0 ≤ Y (n - 1) - Y (n - 2) by omega)
      exact ⟨by have := dn_mono (b := X (n - 1) - X (n - 2)) (by omega) this; omega, by have := up_mono (b := X (n - 1) - X (n - 2)) (by omega) this; omega⟩
    · rw [(o.right h).1, (o.right h).2, (o.right h4).1, (o.right h4).2]; exact ⟨Int.le_refl _, Int.le_refl _⟩
  · have e1 := o.seg (i := i) (x := x) hi (by omega) (by omega)
    have e2 := o.seg (i := i) (x := x + 1) hi (by omega) (by omega)
    rw [e1.1, e1.2, e2.1, e2.2]
    have hy := o.ys i hi
    have hx := o.xs i hi
    have := Int.mul_le_mul_of_nonneg_left (show x - X i ≤ x + 1 - X i by omega) (show 0 ≤ Y (i + 1) - Y i by omega)
    exact ⟨by have := dn_mono (b := X (i + 1) - X i) (by omega) this; omega, by have := up_mono (b := X (i + 1) - X i) (by omega) this; omega⟩
theorem TOk.mono' (o : TOk n X Y) (x : Int) : ∀ d : Nat, tLo n X Y x ≤ tLo n X Y (x + d) ∧ tHi n X Y x ≤ tHi n X Y (x + d)
  | 0 => by rw [show x + ((0 : Nat) : Int) = x by omega]; exact ⟨Int.le_refl _, Int.le_refl _⟩
  | d + 1 => by
    have h1 := o.mono' x d
    have h2 := o.step (x + d)
    rw [show x + ((d + 1 : Nat) : Int) = x + d + 1 by omega]
    omega
theorem TOk.mono (o : TOk n X Y) {x y : Int} (h : x ≤ y) : tLo n X Y x ≤ tLo n X Y y ∧ tHi n X Y x ≤ tHi n X Y y := by
  have := o.mono' x (y - x).toNat
  rw [show x + ((y - x).toNat : Int) = y by omega] at this
  exact this
theorem TOk.apart (o : TOk n X Y) (x : Int) : tLo n X Y x ≤ tHi n X Y x ∧ tHi n X Y x ≤ tLo n X Y x + 1 := by
  rcases o.where_ x with h | h | ⟨i, hi, h1, h2, h3⟩
  · rw [(o.left h).1, (o.left h).2]; omega
  · rw [(o.right h).1, (o.right h).2]; omega
  · have e1 := o.seg hi h1 h2
    rw [e1.1, e1.2]
    have := dn_up (a := (Y (i + 1) - Y i) * (x - X i)) (b := X (i + 1) - X i) (by have := o.xs i hi; omega)
    omega
theorem TOk.lo0 (o : TOk n X Y) (x : Int) : Y 0 ≤ tLo n X Y x := by
  rcases ltge x (X 0) with h | h
  · rw [(o.left (x := x) (by omega)).1]; exact Int.le_refl _
  · have := (o.mono h).1; rw [(o.left (x := X 0) (by omega)).1] at this; exact this
theorem TOk.hi1 (o : TOk n X Y) (x : Int) : tHi n X Y x ≤ Y (n - 1) := by
  rcases ltge (X (n - 1)) x with h | h
  · rw [(o.right (x := x) (by omega)).2]; exact Int.le_refl _
  · have := (o.mono h).2; rw [(o.right (x := X (n - 1)) (by omega)).2] at this; exact this
/-- The least number from first to last for which something is so; last + 1: none. -/
def IsLeast (p : Int → Bool) (first last r : Int) : Prop := first ≤ r ∧ r ≤ last + 1 ∧ (∀ x, first ≤ x → x < r → p x = false) ∧ (∀ x, r ≤ x → x ≤ last → p x = true)
theorem IsLeast.uniq {p : Int → Bool} {f l r s : Int} (h1 : IsLeast p f l r) (h2 : IsLeast p f l s) : r = s := by
  rcases Int.lt_trichotomy r s with h | h | h
  · have a := h2.2.2.1 r h1.1 h
    have b := h1.2.2.2 r (Int.le_refl _) (by have := h2.2.1; omega)
    rw [a] at b; exact absurd b (by decide)
  · exact h
  · have a := h1.2.2.1 s h2.1 h
    have b := h2.2.2.2 s (Int.le_refl _) (by have := h1.2.1; omega)
    rw [a] at b; exact absurd b (by decide)
open Classical in
noncomputable def leastV (p : Int → Bool) (first last : Int) : Int := if h : ∃ r, IsLeast p first last r then h.choose else 0
theorem IsLeast.eq {p : Int → Bool} {f l r : Int} (h : IsLeast p f l r) : leastV p f l = r := by
  unfold leastV
  rw [dif_pos ⟨r, h⟩]
  exact (Exists.choose_spec (⟨r, h⟩ : ∃ r, IsLeast p f l r)).uniq h
theorem isLeast_ex {p : Int → Bool} (hm : ∀ x y, x ≤ y → p x = true → p y = true) (f : Int) : ∀ d : Nat, ∃ r, IsLeast p f (f + d - 1) r
  | 0 => ⟨f, Int.le_refl _, by omega, fun x h1 h2 => by omega, fun x h1 h2 => by omega⟩
  | d + 1 => by
    obtain ⟨r, h1, h2, h3, h4⟩ := isLeast_ex hm f d
    rw [show f + ((d + 1 : Nat) : Int) - 1 = f + d by omega]
    by_cases hr : r ≤ f + d - 1
    · refine ⟨r, h1, by omega, h3, fun x hx hy => ?_⟩
      exact hm r x hx (h4 r (Int.le_refl _) hr)
    · obtain rfl : r = f + d := by omega
      cases hp : p (f + d) with
      | true => exact ⟨f + d, h1, by omega, h3, fun x hx hy => by rw [show x = f + d by omega]; exact hp⟩
      | false => exact ⟨f + d + 1, by omega, by omega, fun x hx hy => by
          rcases ltge x (f + d) with h | h
          · exact h3 x hx h
          · rw [show x = f + d by omega]; exact hp, fun x hx hy => by omega⟩
theorem leastV_spec {p : Int → Bool} (hm : ∀ x y, x ≤ y → p x = true → p y = true) {f l : Int} (h : f ≤ l + 1) : IsLeast p f l (leastV p f l) := by
  obtain ⟨r, hr⟩ := isLeast_ex hm f (l + 1 - f).toNat
  rw [show f + ((l + 1 - f).toNat : Int) - 1 = l by omega] at hr
  rw [hr.eq]; exact hr
abbrev pHi (n : Nat) (X Y : Nat → Int) (y x : Int) : Bool := decide (y ≤ tHi n X Y x)
abbrev pLo (n : Nat) (X Y : Nat → Int) (y x : Int) : Bool := decide (y < tLo n X Y x)
theorem TOk.pHi_mono (o : TOk n X Y) (y : Int) : ∀ a b, a ≤ b → pHi n X Y y a = true → pHi n X Y y b = true := fun a b h h1 => by
  have := (o.mono h).2
  simp only [pHi, decide_eq_true_eq] at h1 ⊢; omega
theorem TOk.pLo_mono (o : TOk n X Y) (y : Int) : ∀ a b, a ≤ b → pLo n X Y y a = true → pLo n X Y y b = true := fun a b h h1 => by
  have := (o.mono h).1
  simp only [pLo, decide_eq_true_eq] at h1 ⊢; omega
/-- The ends of where a line has a height. -/
theorem mn_eq (a b : Int) : mn a b = min a b := by unfold mn; split <;> omega
theorem mx_eq (a b : Int) : mx a b = max a b := by unfold mx; split <;> omega
noncomputable def bA (n : Nat) (X Y : Nat → Int) (y : Int) : Int := mn (leastV (pHi n X Y y) (X 0) (X (n - 1))) (X (n - 1))
noncomputable def bB (n : Nat) (X Y : Nat → Int) (y : Int) : Int := mx (leastV (pLo n X Y y) (X 0) (X (n - 1)) - 1) (X 0)
theorem TOk.ends (o : TOk n X Y) : X 0 < X (n - 1) := (o.xmono (i := 0) (j := n - 1) (by omega) (by have := o.n2; omega)).2 (by have := o.n2; omega)
theorem TOk.least1 (o : TOk n X Y) (y : Int) : IsLeast (pHi n X Y y) (X 0) (X (n - 1)) (leastV (pHi n X Y y) (X 0) (X (n - 1))) := leastV_spec (o.pHi_mono y) (by have := o.ends; omega)
theorem TOk.least2 (o : TOk n X Y) (y : Int) : IsLeast (pLo n X Y y) (X 0) (X (n - 1)) (leastV (pLo n X Y y) (X 0) (X (n - 1))) := leastV_spec (o.pLo_mono y) (by have := o.ends; omega)
theorem TOk.bA_in (o : TOk n X Y) (y : Int) : X 0 ≤ bA n X Y y ∧ bA n X Y y ≤ X (n - 1) := by
  have h := o.least1 y; have := o.ends; unfold bA IsLeast at *; rw [mn_eq]; omega
theorem TOk.bB_in (o : TOk n X Y) (y : Int) : X 0 ≤ bB n X Y y ∧ bB n X Y y ≤ X (n - 1) := by
  have h := o.least2 y; have := o.ends; unfold bB IsLeast at *; rw [mx_eq]; omega
/-- What is as high is not left of the left end. -/
theorem TOk.bA_le (o : TOk n X Y) {x y : Int} (h : y ≤ tHi n X Y x) (hx : X 0 ≤ x) : bA n X Y y ≤ x := by
  obtain ⟨a, b, c, d⟩ := o.least1 y
  unfold bA
  simp only [mn_eq]
  generalize leastV (pHi n X Y y) (X 0) (X (n - 1)) = r at *
  rcases ltge x r with h1 | h1
  · have := c x hx h1
    simp only [pHi, decide_eq_false_iff_not] at this
    exact absurd h this
  · omega
theorem TOk.bB_ge (o : TOk n X Y) {x y : Int} (h : tLo n X Y x ≤ y) (hx : x ≤ X (n - 1)) : x ≤ bB n X Y y := by
  obtain ⟨a, b, c, d⟩ := o.least2 y
  unfold bB
  simp only [mx_eq]
  generalize leastV (pLo n X Y y) (X 0) (X (n - 1)) = r at *
  rcases ltge x r with h1 | h1
  · omega
  · have := d x h1 hx
    simp only [pLo, decide_eq_true_eq] at this
    omega
theorem TOk.bA_mono (o : TOk n X Y) {y w : Int} (h : y ≤ w) : bA n X Y y ≤ bA n X Y w := by
  obtain ⟨a, b, c, d⟩ := o.least1 y
  obtain ⟨a', b', c', d'⟩ := o.least1 w
  have he := o.ends
  unfold bA
  simp only [mn_eq]
  generalize leastV (pHi n X Y y) (X 0) (X (n - 1)) = r at *
  generalize leastV (pHi n X Y w) (X 0) (X (n - 1)) = s at *
  rcases ltge s r with h1 | h1
  · have h2 := c s a' h1
    rcases ltge (X (n - 1)) s with h3 | h3
    · omega
    · have h4 := d' s (Int.le_refl _) h3
      simp only [pHi, decide_eq_false_iff_not, decide_eq_true_eq] at h2 h4
      omega
  · omega
theorem TOk.bB_mono (o : TOk n X Y) {y w : Int} (h : y ≤ w) : bB n X Y y ≤ bB n X Y w := by
  obtain ⟨a, b, c, d⟩ := o.least2 y
  obtain ⟨a', b', c', d'⟩ := o.least2 w
  have he := o.ends
  unfold bB
  simp only [mx_eq]
  generalize leastV (pLo n X Y y) (X 0) (X (n - 1)) = r at *
  generalize leastV (pLo n X Y w) (X 0) (X (n - 1)) = s at *
  rcases ltge s r with h1 | h1
  · have h2 := c s a' h1
    rcases ltge (X (n - 1)) s with h3 | h3
    · omega
    · have h4 := d' s (Int.le_refl _) h3
      simp only [pLo, decide_eq_false_iff_not, decide_eq_true_eq] at h2 h4
      omega
  · omega
/-- What the document's search from the left, and from the right, finds. -/
theorem TOk.bA_of (o : TOk n X Y) {y r : Int} (h1 : X 0 ≤ r) (h2 : r ≤ X (n - 1)) (h3 : ∀ x, X 0 ≤ x → x < r → tHi n X Y x < y) (h4 : r < X (n - 1) → y ≤ tHi n X Y r) : bA n X Y y = r := by
  have h := o.least1 y
  unfold bA
  simp only [mn_eq]
  by_cases hy : y ≤ tHi n X Y r
  · have : IsLeast (pHi n X Y y) (X 0) (X (n - 1)) r := ⟨h1, by omega, fun x a b => by have := h3 x a b; simp only [pHi, decide_eq_false_iff_not]; omega, fun x a b => o.pHi_mono y r x a (by simp only [pHi, decide_eq_true_eq]; exact hy)⟩
    rw [this.eq]; omega
  · have hr : r = X (n - 1) := by
      rcases ltge r (X (n - 1)) with a | a
      · exact absurd (h4 a) hy
      · omega
    have : IsLeast (pHi n X Y y) (X 0) (X (n - 1)) (r + 1) := ⟨by omega, by omega, fun x a b => by
      simp only [pHi, decide_eq_false_iff_not]
      rcases ltge x r with hh | hh
      · have := h3 x a hh; omega
      · rw [show x = r by omega]; exact hy, fun x a b => by omega⟩
    rw [this.eq]; omega
theorem TOk.bB_of (o : TOk n X Y) {y r : Int} (h1 : X 0 ≤ r) (h2 : r ≤ X (n - 1)) (h3 : ∀ x, r < x → x ≤ X (n - 1) → y < tLo n X Y x) (h4 : X 0 < r → tLo n X Y r ≤ y) : bB n X Y y = r := by
  have h := o.least2 y
  unfold bB
  simp only [mx_eq]
  by_cases hy : tLo n X Y r ≤ y
  · have : IsLeast (pLo n X Y y) (X 0) (X (n - 1)) (r + 1) := ⟨by omega, by omega, fun x a b => by
      have := (o.mono (x := x) (y := r) (by omega)).1
      simp only [pLo, decide_eq_false_iff_not]; omega, fun x a b => by have := h3 x (by omega) b; simp only [pLo, decide_eq_true_eq]; omega⟩
    rw [this.eq]; omega
  · have hr : r = X 0 := by
      rcases ltge (X 0) r with a | a
      · exact absurd (h4 a) hy
      · omega
    have : IsLeast (pLo n X Y y) (X 0) (X (n - 1)) r := ⟨h1, by omega, fun x a b => by omega, fun x a b => by
      simp only [pLo, decide_eq_true_eq]
      rcases ltge r x with hh | hh
      · exact h3 x hh b
      · rw [show x = r by omega]; omega⟩
    rw [this.eq]; omega
/-- Where a line has a height: both ends. -/
noncomputable def kLo (n : Nat) (X Y : Nat → Int) (y : Int) : Int := mn (bA n X Y y) (bB n X Y y)
noncomputable def kHi (n : Nat) (X Y : Nat → Int) (y : Int) : Int := mx (bA n X Y y) (bB n X Y y)
theorem TOk.k_in (o : TOk n X Y) (y : Int) : X 0 ≤ kLo n X Y y ∧ kLo n X Y y ≤ kHi n X Y y ∧ kHi n X Y y ≤ X (n - 1) := by
  have h1 := o.bA_in y; have h2 := o.bB_in y
  unfold kLo kHi; rw [mn_eq, mx_eq]; omega
theorem TOk.k_mono (o : TOk n X Y) {y w : Int} (h : y ≤ w) : kLo n X Y y ≤ kLo n X Y w ∧ kHi n X Y y ≤ kHi n X Y w := by
  have h1 := o.bA_mono h; have h2 := o.bB_mono h
  unfold kLo kHi; simp only [mn_eq, mx_eq]; omega
theorem TOk.kLo_le (o : TOk n X Y) {x y : Int} (h : y ≤ tHi n X Y x) (hx : X 0 ≤ x) : kLo n X Y y ≤ x := by
  have h1 := o.bA_le h hx
  unfold kLo; rw [mn_eq]; omega
theorem TOk.kHi_ge (o : TOk n X Y) {x y : Int} (h : tLo n X Y x ≤ y) (hx : x ≤ X (n - 1)) : x ≤ kHi n X Y y := by
  have h1 := o.bB_ge h hx
  unfold kHi; rw [mx_eq]; omega
/-- Both ends of what two heights say together. -/
noncomputable def hLo (n : Nat) (X Y : Nat → Int) (y w : Int) : Int := mn (kLo n X Y y) (kLo n X Y w)
noncomputable def hHi (n : Nat) (X Y : Nat → Int) (y w : Int) : Int := mx (kHi n X Y y) (kHi n X Y w)
theorem TOk.h_in (o : TOk n X Y) (y w : Int) : X 0 ≤ hLo n X Y y w ∧ hLo n X Y y w ≤ hHi n X Y y w ∧ hHi n X Y y w ≤ X (n - 1) := by
  have h1 := o.k_in y; have h2 := o.k_in w
  unfold hLo hHi; rw [mn_eq, mx_eq]; omega
theorem TOk.h_mono (o : TOk n X Y) {y w y' w' : Int} (h : y ≤ y') (k : w ≤ w') : hLo n X Y y w ≤ hLo n X Y y' w' ∧ hHi n X Y y w ≤ hHi n X Y y' w' := by
  have h1 := o.k_mono h; have h2 := o.k_mono k
  unfold hLo hHi; simp only [mn_eq, mx_eq]; omega
/-- What is more wrong says a span at least as wide. -/
theorem TOk.h_wide (o : TOk n X Y) {y w y' w' : Int} (h0 : y ≤ w) (h : y' ≤ y) (k : w ≤ w') : hLo n X Y y' w' ≤ hLo n X Y y w ∧ hHi n X Y y w ≤ hHi n X Y y' w' := by
  have h1 := o.k_mono h; have h2 := o.k_mono k; have h3 := o.k_mono h0
  unfold hLo hHi; simp only [mn_eq, mx_eq]; omega
/-- The place of a height between both stands in it. -/
theorem TOk.h_has (o : TOk n X Y) {x y w : Int} (hx : X 0 ≤ x) (hx2 : x ≤ X (n - 1)) (h1 : y ≤ tHi n X Y x) (h2 : tLo n X Y x ≤ w) : hLo n X Y y w ≤ x ∧ x ≤ hHi n X Y y w := by
  have a := o.kLo_le h1 hx; have b := o.kHi_ge h2 hx2
  unfold hLo hHi; rw [mn_eq, mx_eq]; omega
end
end Go.Proofs.YtlhhcongoplfpaaDoorAB
