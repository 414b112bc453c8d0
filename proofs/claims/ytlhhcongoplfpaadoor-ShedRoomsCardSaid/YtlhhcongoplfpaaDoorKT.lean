/- What functions of this program do, each as a contract that its callers use, and what follows of it in plain numbers.
   By an AI agent. -/
import Derived.Test.YtlhhcongoplfpaaDoorGRC
import Derived.Test.YtlhhcongoplfpaaDoorABM
import Derived.Test.YtlhhcongoplfpaaDoorRows
import Derived.WalkKit
import Derived.ProofKit
import Derived.OpenShut
import Derived.SizedLaws
import Derived.LaidLaws
import Derived.LaidHandle
import Derived.FnData
import Derived.Stop.Joined
import Derived.WideShapes
namespace Go.Proofs.YtlhhcongoplfpaaDoor.Top
open Go Go.Proofs.YtlhhcongoplfpaaDoorAB Go.ChangeShapes Go.WideShapes Go.ChangeAt Go.RowKit Go.Proofs.YtlhhcongoplfpaaDoor
set_option linter.unusedVariables false
set_option linter.unusedSimpArgs false
set_option maxRecDepth 100000
def tztab : List Int := [0, 1, 56, 2, 57, 49, 28, 3, 61, 58, 42, 50, 38, 29, 17, 4, 62, 47, 59, 36, 45, 43, 51, 22, 53, 39, 33, 30, 24, 18, 12, 5, 63, 55, 48, 27, 60, 41, 37, 16, 46, 35, 44, 21, 52, 32, 23, 11, 54, 26, 40, 15, 34, 20, 31, 10, 25, 14, 19, 9, 13, 8, 7, 6]
theorem tzg : Tryd.prog.globalNamed "math/bits.deBruijn64tab" = some 5 := by kernel_rfl
theorem tzt : (Tryd.prog.globals[5]?).map (·.type) = some 167 := by kernel_rfl
theorem tzu : Tryd.prog.underlying 167 = some (.array 64 5) := by kernel_rfl
theorem tzu5 : Tryd.prog.underlying 5 = some (.int .u8) := by kernel_rfl
theorem tzc5 : Tryd.prog.cellsOf 5 = 1 := by kernel_rfl
theorem int_of_trod {H : Type} {enc : TypeId × Value → H} {P : Program} {w : World} {base : Nat} {sp : Nat → Bool} {held : Bool} {fuel : Nat} {t : TypeId} {k : IntKind} {c : Value} {y : DataW H × List MemPlace}
    (ht : P.underlying t = some (.int k)) (h : DataW.trod enc P w base sp held fuel t [c] = some y) : ∃ n, c = .int k n ∧ y = (.lit (.int k n), []) := by
  cases fuel with
  | zero => simp [DataW.trod] at h
  | succ fuel =>
    cases c <;> simp [DataW.trod, ht] at h
    rename_i k' n
    obtain ⟨⟨rfl, _⟩, rfl⟩ := h
    exact ⟨n, rfl, rfl⟩
def laid0 : List (String × DataW Unit) := [("math/bits.deBruijn32tab", Rows.laid_math_bits_deBruijn32tab), ("math/bits.deBruijn64tab", Rows.laid_math_bits_deBruijn64tab)]
theorem table_data : (Rows.laid_math_bits_deBruijn64tab : DataW Unit) = .agg (tztab.map fun n => .lit (.int .u8 n)) := by rfl
theorem glaid_of {W : World} (h : laidMetH Tryd.prog laid0 W) : ∀ j : Nat, j < 64 → W.cell? ⟨5, j, none⟩ = some (.int .u8 (tztab.getD j 0)) := by
  have h' : laidMet Tryd.prog laid0 W := h
  obtain ⟨ps, ⟨g0, t0, cs0, fuel0, p0, q0, _, _, _, _, ⟨g, t, cs, fuel, p, q, hg, ht, hvar, hd, _, _⟩, _⟩, _⟩ := h'
  obtain rfl := Option.some.inj (tzg.symm.trans hg)
  obtain rfl := Option.some.inj (tzt.symm.trans ht)
  have c74 : Tryd.prog.cellsOf 167 = 64 := by kernel_rfl
  obtain ⟨xs, m, rfl, hx, hl, hxl, hi⟩ := DataW.trod_array tzu hd
  rw [c74] at hl
  intro j hj
  have hcj := World.var?_cell tzg hvar j
  have h1 := hi j hj
  rw [tzc5, Nat.mul_one] at h1
  have hlj : j < cs.toList.length := by omega
  have e1 : (cs.toList.drop j).take 1 = [cs.toList[j]] := by rw [List.drop_eq_getElem_cons hlj]; rfl
  rw [e1, List.getElem?_eq_getElem (by omega)] at h1
  obtain ⟨n, hn, hy⟩ := int_of_trod tzu5 h1
  have hx1 : (tztab.map fun n => (DataW.lit (.int .u8 n) : DataW Unit)) = xs.map (·.1) := by
    have := congrArg Prod.fst hx
    rw [table_data] at this
    exact DataW.agg.inj this
  have hx2 := congrArg (fun l => l[j]?) hx1
  have hlt : j < tztab.length := hj
  simp only [List.getElem?_map, List.getElem?_eq_getElem hlt, List.getElem?_eq_getElem (show j < xs.length by omega), Option.map_some, hy] at hx2
  have hn2 : tztab[j] = n := by injection hx2 with h3; injection h3 with h4; injection h4 with h5 h6
  rw [hcj, List.getD_eq_getElem?_getD, List.getElem?_eq_getElem hlt, Option.getD_some, hn2, ← hn]
  simp [hlj]
theorem tzv_tab : tzv = tztab.map (.int .u8) := by rfl
theorem rd5 {W : World} (h : laidMetH Tryd.prog laid0 W) : Rd W 5 0 tzv := by
  have hc := glaid_of h
  refine (Rd.ofc (w := W) (x := ⟨5, 0, none⟩) (cs := tzv) (fun ρ => by rw [tzv_tab]; exact vrl_map _ (fun x => .int _ _) _) (by decide) (fun k hk => ?_)).2
  have hk : k < 64 := hk
  rw [add_none, Nat.zero_add, hc k hk, tzv_tab, List.getElem?_map, List.getElem?_eq_getElem (show k < tztab.length from hk), List.getD_eq_getElem?_getD, List.getElem?_eq_getElem (show k < tztab.length from hk)]
  rfl
/-- The names of the globals. -/
def ρ6 : Ren := ⟨fun i => if i < 6 then some i else none, fun _ => 0⟩
theorem top6 {f : FuncId} {args : List Value} {cargs : Array Value} {b : Bool} {W : World} (h : laidMetH Tryd.prog laid0 W) (c : Ctr Tryd.prog 6 f args [(5, .ro 0 tzv)] (.bool b) [.ro 0 tzv]) (hv : VRL ρ6 args cargs.toList) :
    Calls Tryd.prog f cargs W fun e w' => e = .returned (.bool b) ∧ RowKit.Below W.heap.size W w' := by
  obtain ⟨h5, arr, ty, fr, hh, hr⟩ := rd5 h
  refine Ctr.topR (ρ := ρ6) (sim_top (fun i b hb => ?_) (fun e he => ?_) (fun e he => ?_) (fun i j e e' hij hi hj hw => ?_) (fun g hg => ?_) ⟨6, fun i hi => ?_⟩) c rfl (fun e he hw => ?_) hv
  · have hb : (if i < 6 then some i else none) = some b := hb
    split at hb
    · cases hb; omega
    · cases hb
  · obtain rfl : e = (5, .ro 0 tzv) := by simpa using he
    exact ⟨fun h => (by cases h), fun _ => ⟨5, _, rfl, hh, arr, ty, fr, rfl, hr _⟩⟩
  · obtain rfl : e = (5, .ro 0 tzv) := by simpa using he
    simp
  · have a : i < 1 := (List.getElem?_eq_some_iff.1 hi).1
    have b : j < 1 := (List.getElem?_eq_some_iff.1 hj).1
    omega
  · show (if g < 6 then some g else none) = some g; rw [if_pos hg]
  · show (if i < 6 then some i else none) = none; rw [if_neg (by omega)]
  · obtain rfl : e = (5, .ro 0 tzv) := by simpa using he
    cases hw
theorem open_facts {w : World} {r : Reach} {base : Nat} {v : Value} (hv : Value.okWide Tryd.prog w r base 65 v) : ∃ (b0 b1 b2 b3 : Bool) (n4 n5 n6 n7 : Int) (b8 b9 b10 : Bool) (n11 n12 n13 : Int), v = .agg ⟨[.bool b0, .bool b1, .bool b2, .bool b3, .int .i64 n4, .int .i64 n5, .int .i64 n6, .int .i64 n7, .bool b8, .bool b9, .bool b10, .int .i64 n11, .int .i64 n12, .int .i64 n13]⟩ := by
  have he : Tryd.prog.underlying 3 = some (.int .i64) := Tryd.underlying3
  have hb : Tryd.prog.underlying 4 = some .bool := Tryd.underlying4
  have cellInt : ∀ x, Cell.okWide Tryd.prog w r base 3 x → ∃ n, x = .int .i64 n := fun x hx => by
    simp only [Cell.okWide, he] at hx
    cases x <;> simp_all [Cell.ok]
  have cellBool : ∀ x, Cell.okWide Tryd.prog w r base 4 x → ∃ n, x = .bool n := fun x hx => by
    simp only [Cell.okWide, hb] at hx
    cases x <;> simp_all [Cell.ok]
  simp only [Value.okWide, Tryd.underlying65] at hv
  obtain ⟨⟨cs⟩, rfl, hs, ts, h1, _, h2⟩ := hv
  have hc : Tryd.prog.cellTypes Tryd.prog.depth 65 = some [4, 4, 4, 4, 3, 3, 3, 3, 4, 4, 4, 3, 3, 3] := by kernel_rfl
  have hn : Tryd.prog.cellsOf 65 = 14 := by kernel_rfl
  rw [hc] at h1
  cases h1
  rw [hn] at hs
  match cs, hs with
  | [x0, x1, x2, x3, x4, x5, x6, x7, x8, x9, x10, x11, x12, x13], _ =>
    obtain ⟨u0, hu0, hx0⟩ := h2 0 x0 rfl
    cases hu0
    obtain ⟨b0, rfl⟩ := cellBool x0 hx0
    obtain ⟨u1, hu1, hx1⟩ := h2 1 x1 rfl
    cases hu1
    obtain ⟨b1, rfl⟩ := cellBool x1 hx1
    obtain ⟨u2, hu2, hx2⟩ := h2 2 x2 rfl
    cases hu2
    obtain ⟨b2, rfl⟩ := cellBool x2 hx2
    obtain ⟨u3, hu3, hx3⟩ := h2 3 x3 rfl
    cases hu3
    obtain ⟨b3, rfl⟩ := cellBool x3 hx3
    obtain ⟨u4, hu4, hx4⟩ := h2 4 x4 rfl
    cases hu4
    obtain ⟨n4, rfl⟩ := cellInt x4 hx4
    obtain ⟨u5, hu5, hx5⟩ := h2 5 x5 rfl
    cases hu5
    obtain ⟨n5, rfl⟩ := cellInt x5 hx5
    obtain ⟨u6, hu6, hx6⟩ := h2 6 x6 rfl
    cases hu6
    obtain ⟨n6, rfl⟩ := cellInt x6 hx6
    obtain ⟨u7, hu7, hx7⟩ := h2 7 x7 rfl
    cases hu7
    obtain ⟨n7, rfl⟩ := cellInt x7 hx7
    obtain ⟨u8, hu8, hx8⟩ := h2 8 x8 rfl
    cases hu8
    obtain ⟨b8, rfl⟩ := cellBool x8 hx8
    obtain ⟨u9, hu9, hx9⟩ := h2 9 x9 rfl
    cases hu9
    obtain ⟨b9, rfl⟩ := cellBool x9 hx9
    obtain ⟨u10, hu10, hx10⟩ := h2 10 x10 rfl
    cases hu10
    obtain ⟨b10, rfl⟩ := cellBool x10 hx10
    obtain ⟨u11, hu11, hx11⟩ := h2 11 x11 rfl
    cases hu11
    obtain ⟨n11, rfl⟩ := cellInt x11 hx11
    obtain ⟨u12, hu12, hx12⟩ := h2 12 x12 rfl
    cases hu12
    obtain ⟨n12, rfl⟩ := cellInt x12 hx12
    obtain ⟨u13, hu13, hx13⟩ := h2 13 x13 rfl
    cases hu13
    obtain ⟨n13, rfl⟩ := cellInt x13 hx13
    exact ⟨b0, b1, b2, b3, n4, n5, n6, n7, b8, b9, b10, n11, n12, n13, rfl⟩
end Go.Proofs.YtlhhcongoplfpaaDoor.Top
