/- The contract of math/bits.TrailingZeros64, over the table that the row lists, in the form of the printed contracts. -/
import Derived.Test.YtjmggdccmggboabDoorProg
import Derived.WalkKit
import Derived.KernelRfl
import Derived.RowKit
import Derived.Laws.BitsLemmas
import Derived.Below
import Derived.Test.YtjmggdccmggboabDoorWMore
namespace Go.Proofs.YtjmggdccmggboabDoor.Tz
open Go.RowKit Go.Proofs.YtjmggdccmggboabDoorW.PrintWords Go.Proofs.YtjmggdccmggboabDoorW.PrintLast Go.Proofs.YtjmggdccmggboabDoorW.PrintMore
def tztab : List Int := [0, 1, 56, 2, 57, 49, 28, 3, 61, 58, 42, 50, 38, 29, 17, 4, 62, 47, 59, 36, 45, 43, 51, 22, 53, 39, 33, 30, 24, 18, 12, 5, 63, 55, 48, 27, 60, 41, 37, 16, 46, 35, 44, 21, 52, 32, 23, 11, 54, 26, 40, 15, 34, 20, 31, 10, 25, 14, 19, 9, 13, 8, 7, 6]
def GLaid (w : World) : Prop := ∀ j : Nat, j < 64 → w.cell? ⟨5, j, none⟩ = some (.int .u8 (tztab.getD j 0))
theorem GLaid.drewN {w : World} {n : Nat} (h : GLaid w) : GLaid (w.drewN n) := fun j hj => by simpa using h j hj
theorem GLaid.drew {w : World} (h : GLaid w) : GLaid w.drew := fun j hj => by simpa using h j hj
def tzix (x : Int) : Int := IntKind.u64.wrap (Go.bits .and .u64 x (IntKind.u64.wrap (-x)) * 285870213051353865) / 288230376151711744
theorem tzix_lt (x : Int) : 0 ≤ tzix x ∧ tzix x < 64 := by unfold tzix; rw [IntKind.wrap_u64]; omega
theorem tztab_small : ∀ j : Fin 64, 0 ≤ tztab.getD j.val 0 ∧ tztab.getD j.val 0 ≤ 63 := by decide
def bits_TrailingZeros64.f (a0 : Int) : Option Int := if a0 = 0 then some 64 else some (tztab.getD (tzix a0).toNat 0)
theorem tz_zero (w : World) : Calls Tryd.prog 56 #[.int .u64 0] w fun e w' => e = .returned (.int .i64 64) ∧ w = w' := by
  go_enter Tryd.func56, Tryd.ntmps56
  go_wp2
  go_ret
  exact ⟨rfl, rfl⟩
set_option maxHeartbeats 800000 in
theorem tz_pos (x : Int) (w : World) (hx : (x == 0) = false) (j : Nat) (hj : j < 64) (v : Int) (hv0 : 0 ≤ v) (hv1 : v ≤ 63)
    (hi : IntKind.u64.wrap (Go.bits .and .u64 x (IntKind.u64.wrap (-x)) * 285870213051353865) / 288230376151711744 = (j : Int))
    (hc : w.cell? ⟨5, j, none⟩ = some (.int .u8 v)) :
    Calls Tryd.prog 56 #[.int .u64 x] w fun e w' => e = .returned (.int .i64 v) ∧ w = w' := by
  go_enter Tryd.func56, Tryd.ntmps56
  go_wp2
  go_ret
  exact ⟨rfl, rfl⟩
theorem bits_TrailingZeros64.calls (a0 : Int) (r : Int) (w : World) (hG : GLaid w) (h : bits_TrailingZeros64.f a0 = some r) :
    Calls Tryd.prog 56 #[.int .u64 a0] w fun e w' => e = .returned (.int .i64 r) ∧ Drawn0 w w' := by
  unfold bits_TrailingZeros64.f at h
  by_cases h0 : a0 = 0
  · subst h0
    rw [if_pos rfl] at h
    obtain rfl := Option.some.inj h
    exact (tz_zero w).mono fun e w' ⟨he, hw⟩ => ⟨he, hw ▸ Drawn0.refl _⟩
  · rw [if_neg h0] at h
    obtain rfl := Option.some.inj h
    have hb := tzix_lt a0
    have hs := tztab_small ⟨(tzix a0).toNat, by omega⟩
    have hi : tzix a0 = (((tzix a0).toNat : Nat) : Int) := by omega
    exact (tz_pos a0 w (by simp [h0]) (tzix a0).toNat (by omega) _ hs.1 hs.2 hi (hG _ (by omega))).mono fun e w' ⟨he, hw⟩ => ⟨he, hw ▸ Drawn0.refl _⟩
end Go.Proofs.YtjmggdccmggboabDoor.Tz
