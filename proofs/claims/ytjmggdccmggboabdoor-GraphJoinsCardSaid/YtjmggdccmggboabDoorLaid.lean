/- What the rows' listed tables give a walk, and a world that meets them. -/
import Derived.Test.YtjmggdccmggboabDoorRows
import Derived.Test.YtjmggdccmggboabDoorTz
import Derived.WalkKit
import Derived.ProofKit
import Derived.OpenShut
import Derived.SizedLaws
import Derived.LaidLaws
import Derived.LaidHandle
import Derived.FnData
import Derived.Stop.Joined
import Derived.ChangeSame
import Derived.ChangeVars
import Derived.JoinedOf
import Derived.RowKitTokens
namespace Go.Proofs.YtjmggdccmggboabDoor.Laid
open Go.ChangeShapes Go.WideShapes Go.ChangeAt Go.RowKit Go.Proofs.YtjmggdccmggboabDoor.Tz
theorem tzg : Tryd.prog.globalNamed "math/bits.deBruijn64tab" = some 5 := by kernel_rfl
theorem tzt : (Tryd.prog.globals[5]?).map (·.type) = some 74 := by kernel_rfl
theorem tzu : Tryd.prog.underlying 74 = some (.array 64 5) := by kernel_rfl
theorem tzu5 : Tryd.prog.underlying 5 = some (.int .u8) := by kernel_rfl
theorem tzc5 : Tryd.prog.cellsOf 5 = 1 := by kernel_rfl
theorem int_of_trod {H : Type} {enc : TypeId × Value → H} {P : Program} {w : World} {base : Nat} {sp : Nat → Bool} {held : Bool} {fuel : Nat} {t : TypeId} {k : IntKind} {c : Value} {y : DataW H × List MemPlace}
    (ht : P.underlying t = some (.int k)) (h : DataW.trod enc P w base sp held fuel t [c] = some y) : ∃ n, c = .int k n ∧ y = (.lit (.int k n), []) := by
  cases fuel with
  | zero => simp [DataW.trod] at h
  | succ fuel =>
    cases c <;> simp [DataW.trod, ht] at h
    rename_i k' n
    obtain ⟨⟨rfl, _⟩, rfl⟩ := h
    exact ⟨n, rfl, rfl⟩
def laid0 : List (String × DataW Unit) := [("math/bits.deBruijn32tab", Rows.laid_math_bits_deBruijn32tab), ("math/bits.deBruijn64tab", Rows.laid_math_bits_deBruijn64tab)]
theorem table_data : (Rows.laid_math_bits_deBruijn64tab : DataW Unit) = .agg (tztab.map fun n => .lit (.int .u8 n)) := by rfl
theorem glaid_of {W : World} (h : laidMetH Tryd.prog laid0 W) : GLaid W := by
  have h' : laidMet Tryd.prog laid0 W := h
  obtain ⟨ps, ⟨g0, t0, cs0, fuel0, p0, q0, _, _, _, _, ⟨g, t, cs, fuel, p, q, hg, ht, hvar, hd, _, _⟩, _⟩, _⟩ := h'
  obtain rfl := Option.some.inj (tzg.symm.trans hg)
  obtain rfl := Option.some.inj (tzt.symm.trans ht)
  have c74 : Tryd.prog.cellsOf 74 = 64 := by kernel_rfl
  obtain ⟨xs, m, rfl, hx, hl, hxl, hi⟩ := DataW.trod_array tzu hd
  rw [c74] at hl
  intro j hj
  have hcj := World.var?_cell tzg hvar j
  have h1 := hi j hj
  rw [tzc5, Nat.mul_one] at h1
  have hlj : j < cs.toList.length := by omega
  have e1 : (cs.toList.drop j).take 1 = [cs.toList[j]] := by rw [List.drop_eq_getElem_cons hlj]; rfl
  rw [e1, List.getElem?_eq_getElem (by omega)] at h1
  obtain ⟨n, hn, hy⟩ := int_of_trod tzu5 h1
  have hx1 : (tztab.map fun n => (DataW.lit (.int .u8 n) : DataW Unit)) = xs.map (·.1) := by
    have := congrArg Prod.fst hx
    rw [table_data] at this
    exact DataW.agg.inj this
  have hx2 := congrArg (fun l => l[j]?) hx1
  have hlt : j < tztab.length := hj
  simp only [List.getElem?_map, List.getElem?_eq_getElem hlt, List.getElem?_eq_getElem (show j < xs.length by omega), Option.map_some, hy] at hx2
  have hn2 : tztab[j] = n := by injection hx2 with h3; injection h3 with h4; injection h4 with h5 h6
  rw [hcj, List.getD_eq_getElem?_getD, List.getElem?_eq_getElem hlt, Option.getD_some, hn2, ← hn]
  simp
theorem g32 : Tryd.prog.globalNamed "math/bits.deBruijn32tab" = some 4 := by kernel_rfl
def cells32 : Array Value := #[.int .u8 0, .int .u8 1, .int .u8 28, .int .u8 2, .int .u8 29, .int .u8 14, .int .u8 24, .int .u8 3, .int .u8 30, .int .u8 22, .int .u8 20, .int .u8 15, .int .u8 25, .int .u8 17, .int .u8 4, .int .u8 8, .int .u8 31, .int .u8 27, .int .u8 13, .int .u8 23, .int .u8 21, .int .u8 19, .int .u8 16, .int .u8 7, .int .u8 26, .int .u8 12, .int .u8 18, .int .u8 6, .int .u8 11, .int .u8 5, .int .u8 10, .int .u8 9]
def cells64 : Array Value := #[.int .u8 0, .int .u8 1, .int .u8 56, .int .u8 2, .int .u8 57, .int .u8 49, .int .u8 28, .int .u8 3, .int .u8 61, .int .u8 58, .int .u8 42, .int .u8 50, .int .u8 38, .int .u8 29, .int .u8 17, .int .u8 4, .int .u8 62, .int .u8 47, .int .u8 59, .int .u8 36, .int .u8 45, .int .u8 43, .int .u8 51, .int .u8 22, .int .u8 53, .int .u8 39, .int .u8 33, .int .u8 30, .int .u8 24, .int .u8 18, .int .u8 12, .int .u8 5, .int .u8 63, .int .u8 55, .int .u8 48, .int .u8 27, .int .u8 60, .int .u8 41, .int .u8 37, .int .u8 16, .int .u8 46, .int .u8 35, .int .u8 44, .int .u8 21, .int .u8 52, .int .u8 32, .int .u8 23, .int .u8 11, .int .u8 54, .int .u8 26, .int .u8 40, .int .u8 15, .int .u8 34, .int .u8 20, .int .u8 31, .int .u8 10, .int .u8 25, .int .u8 14, .int .u8 19, .int .u8 9, .int .u8 13, .int .u8 8, .int .u8 7, .int .u8 6]
theorem own : ownKnob Tryd.prog.godebug = none := by kernel_rfl
def setRow (cs : Array Value) (o : Obj) : Obj := match o with
  | .cells _ t frozen => .cells cs t frozen
  | o => o
noncomputable def laidWorld (os : Os) : World :=
  { World.holding Tryd.prog os ⟨#[], #[], []⟩ with heap := ((World.holding Tryd.prog os ⟨#[], #[], []⟩).heap.modify 4 (setRow cells32)).modify 5 (setRow cells64) }
theorem laidWorld_met (os : Os) (args : Array Value) : laidMetH Tryd.prog laid0 ((laidWorld os).forCall (fun _ _ => 0) ⟨#[], args, []⟩).memory :=
  laidMet_of_run' 8 (by kernel_rfl) (by kernel_rfl)
end Go.Proofs.YtjmggdccmggboabDoor.Laid
