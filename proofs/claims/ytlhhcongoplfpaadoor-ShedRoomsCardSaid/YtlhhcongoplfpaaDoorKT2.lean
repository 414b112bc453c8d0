/- What functions of this program do, each as a contract that its callers use, and what follows of it in plain numbers.
   By an AI agent. -/
import Derived.Test.YtlhhcongoplfpaaDoorKT
namespace Go.Proofs.YtlhhcongoplfpaaDoor.Top
open Go Go.Proofs.YtlhhcongoplfpaaDoorAB Go.ChangeShapes Go.WideShapes Go.ChangeAt Go.RowKit Go.Proofs.YtlhhcongoplfpaaDoor
set_option linter.unusedVariables false
set_option linter.unusedSimpArgs false
set_option maxRecDepth 100000
theorem open_r110 {w : World} {r : Reach} {base : Nat} {v : Value} (hv : Value.okWide Tryd.prog w r base 110 v) : ∃ (b0 b1 : Bool), v = .agg ⟨[.bool b0, .bool b1]⟩ := by
  have cell2 : ∀ x, Cell.okWide Tryd.prog w r base 2 x → ∃ n, x = .int .i64 n := fun x hx => by
    simp only [Cell.okWide, Tryd.underlying2] at hx
    cases x <;> simp_all [Cell.ok]
  have cell3 : ∀ x, Cell.okWide Tryd.prog w r base 3 x → ∃ n, x = .int .i64 n := fun x hx => by
    simp only [Cell.okWide, Tryd.underlying3] at hx
    cases x <;> simp_all [Cell.ok]
  have cell4 : ∀ x, Cell.okWide Tryd.prog w r base 4 x → ∃ n, x = .bool n := fun x hx => by
    simp only [Cell.okWide, Tryd.underlying4] at hx
    cases x <;> simp_all [Cell.ok]
  simp only [Value.okWide, Tryd.underlying110] at hv
  obtain ⟨⟨cs⟩, rfl, hs, ts, h1, _, h2⟩ := hv
  have hc : Tryd.prog.cellTypes Tryd.prog.depth 110 = some [4, 4] := by kernel_rfl
  have hn : Tryd.prog.cellsOf 110 = 2 := by kernel_rfl
  rw [hc] at h1
  cases h1
  rw [hn] at hs
  match cs, hs with
  | [x0, x1], _ =>
    obtain ⟨u0, hu0, hx0⟩ := h2 0 x0 rfl
    cases hu0
    obtain ⟨b0, rfl⟩ := cell4 x0 hx0
    obtain ⟨u1, hu1, hx1⟩ := h2 1 x1 rfl
    cases hu1
    obtain ⟨b1, rfl⟩ := cell4 x1 hx1
    exact ⟨b0, b1, rfl⟩
theorem open_r111 {w : World} {r : Reach} {base : Nat} {v : Value} (hv : Value.okWide Tryd.prog w r base 111 v) : ∃ (n0 n1 : Int), v = .agg ⟨[.int .i64 n0, .int .i64 n1]⟩ := by
  have cell2 : ∀ x, Cell.okWide Tryd.prog w r base 2 x → ∃ n, x = .int .i64 n := fun x hx => by
    simp only [Cell.okWide, Tryd.underlying2] at hx
    cases x <;> simp_all [Cell.ok]
  have cell3 : ∀ x, Cell.okWide Tryd.prog w r base 3 x → ∃ n, x = .int .i64 n := fun x hx => by
    simp only [Cell.okWide, Tryd.underlying3] at hx
    cases x <;> simp_all [Cell.ok]
  have cell4 : ∀ x, Cell.okWide Tryd.prog w r base 4 x → ∃ n, x = .bool n := fun x hx => by
    simp only [Cell.okWide, Tryd.underlying4] at hx
    cases x <;> simp_all [Cell.ok]
  simp only [Value.okWide, Tryd.underlying111] at hv
  obtain ⟨⟨cs⟩, rfl, hs, ts, h1, _, h2⟩ := hv
  have hc : Tryd.prog.cellTypes Tryd.prog.depth 111 = some [2, 2] := by kernel_rfl
  have hn : Tryd.prog.cellsOf 111 = 2 := by kernel_rfl
  rw [hc] at h1
  cases h1
  rw [hn] at hs
  match cs, hs with
  | [x0, x1], _ =>
    obtain ⟨u0, hu0, hx0⟩ := h2 0 x0 rfl
    cases hu0
    obtain ⟨n0, rfl⟩ := cell2 x0 hx0
    obtain ⟨u1, hu1, hx1⟩ := h2 1 x1 rfl
    cases hu1
    obtain ⟨n1, rfl⟩ := cell2 x1 hx1
    exact ⟨n0, n1, rfl⟩
theorem open_r112 {w : World} {r : Reach} {base : Nat} {v : Value} (hv : Value.okWide Tryd.prog w r base 112 v) : ∃ (n0 n1 : Int), v = .agg ⟨[.int .i64 n0, .int .i64 n1]⟩ := by
  have cell2 : ∀ x, Cell.okWide Tryd.prog w r base 2 x → ∃ n, x = .int .i64 n := fun x hx => by
    simp only [Cell.okWide, Tryd.underlying2] at hx
    cases x <;> simp_all [Cell.ok]
  have cell3 : ∀ x, Cell.okWide Tryd.prog w r base 3 x → ∃ n, x = .int .i64 n := fun x hx => by
    simp only [Cell.okWide, Tryd.underlying3] at hx
    cases x <;> simp_all [Cell.ok]
  have cell4 : ∀ x, Cell.okWide Tryd.prog w r base 4 x → ∃ n, x = .bool n := fun x hx => by
    simp only [Cell.okWide, Tryd.underlying4] at hx
    cases x <;> simp_all [Cell.ok]
  simp only [Value.okWide, Tryd.underlying112] at hv
  obtain ⟨⟨cs⟩, rfl, hs, ts, h1, _, h2⟩ := hv
  have hc : Tryd.prog.cellTypes Tryd.prog.depth 112 = some [3, 3] := by kernel_rfl
  have hn : Tryd.prog.cellsOf 112 = 2 := by kernel_rfl
  rw [hc] at h1
  cases h1
  rw [hn] at hs
  match cs, hs with
  | [x0, x1], _ =>
    obtain ⟨u0, hu0, hx0⟩ := h2 0 x0 rfl
    cases hu0
    obtain ⟨n0, rfl⟩ := cell3 x0 hx0
    obtain ⟨u1, hu1, hx1⟩ := h2 1 x1 rfl
    cases hu1
    obtain ⟨n1, rfl⟩ := cell3 x1 hx1
    exact ⟨n0, n1, rfl⟩
theorem open_r113 {w : World} {r : Reach} {base : Nat} {v : Value} (hv : Value.okWide Tryd.prog w r base 113 v) : ∃ (n0 n1 n2 n3 : Int), v = .agg ⟨[.int .i64 n0, .int .i64 n1, .int .i64 n2, .int .i64 n3]⟩ := by
  have cell2 : ∀ x, Cell.okWide Tryd.prog w r base 2 x → ∃ n, x = .int .i64 n := fun x hx => by
    simp only [Cell.okWide, Tryd.underlying2] at hx
    cases x <;> simp_all [Cell.ok]
  have cell3 : ∀ x, Cell.okWide Tryd.prog w r base 3 x → ∃ n, x = .int .i64 n := fun x hx => by
    simp only [Cell.okWide, Tryd.underlying3] at hx
    cases x <;> simp_all [Cell.ok]
  have cell4 : ∀ x, Cell.okWide Tryd.prog w r base 4 x → ∃ n, x = .bool n := fun x hx => by
    simp only [Cell.okWide, Tryd.underlying4] at hx
    cases x <;> simp_all [Cell.ok]
  simp only [Value.okWide, Tryd.underlying113] at hv
  obtain ⟨⟨cs⟩, rfl, hs, ts, h1, _, h2⟩ := hv
  have hc : Tryd.prog.cellTypes Tryd.prog.depth 113 = some [2, 2, 2, 2] := by kernel_rfl
  have hn : Tryd.prog.cellsOf 113 = 4 := by kernel_rfl
  rw [hc] at h1
  cases h1
  rw [hn] at hs
  match cs, hs with
  | [x0, x1, x2, x3], _ =>
    obtain ⟨u0, hu0, hx0⟩ := h2 0 x0 rfl
    cases hu0
    obtain ⟨n0, rfl⟩ := cell2 x0 hx0
    obtain ⟨u1, hu1, hx1⟩ := h2 1 x1 rfl
    cases hu1
    obtain ⟨n1, rfl⟩ := cell2 x1 hx1
    obtain ⟨u2, hu2, hx2⟩ := h2 2 x2 rfl
    cases hu2
    obtain ⟨n2, rfl⟩ := cell2 x2 hx2
    obtain ⟨u3, hu3, hx3⟩ := h2 3 x3 rfl
    cases hu3
    obtain ⟨n3, rfl⟩ := cell2 x3 hx3
    exact ⟨n0, n1, n2, n3, rfl⟩
/-- The names of the globals, and one row. -/
def ρ7 (b : Option Nat) : Ren := ⟨fun i => if i < 6 then some i else if i = 6 then b else none, fun _ => 0⟩
theorem top6i {f : FuncId} {args : List Value} {cargs : Array Value} {b : Bool} {W : World} (h : laidMetH Tryd.prog laid0 W) (ob : AObj) (rb : Option Nat) (hob : (ob = .lost ∧ rb = none) ∨ ∃ fo cs bk, ob = .ro fo cs ∧ rb = some bk ∧ Rd W bk fo cs)
    (c : Ctr Tryd.prog 6 f args [(5, .ro 0 tzv), (6, ob)] (.bool b) [.ro 0 tzv, ob]) (hv : VRL (ρ7 rb) args cargs.toList) :
    Calls Tryd.prog f cargs W fun e w' => e = .returned (.bool b) ∧ RowKit.Below W.heap.size W w' := by
  obtain ⟨h5, arr, ty, fr, hh, hr⟩ := rd5 h
  have nw : ob.wr = false := by
    rcases hob with ⟨rfl, _⟩ | ⟨fo, cs, bk, rfl, _⟩ <;> rfl
  refine Ctr.topR (ρ := ρ7 rb) (sim_top (fun i x hx => ?_) (fun e he => ?_) (fun e he => ?_) (fun i j e e' hij hi hj hw => ?_) (fun g hg => ?_) ⟨7, fun i hi => ?_⟩) c rfl (fun e he hw => ?_) hv
  · have hx : (if i < 6 then some i else if i = 6 then rb else none) = some x := hx
    split at hx
    · cases hx; omega
    · split at hx
      · rcases hob with ⟨_, rfl⟩ | ⟨fo, cs, bk, _, rfl, hb, _⟩
        · cases hx
        · cases hx; exact hb
      · cases hx
  · have he : e = (5, .ro 0 tzv) ∨ e = (6, ob) := by simpa using he
    rcases he with rfl | rfl
    · exact ⟨fun h => (by cases h), fun _ => ⟨5, _, rfl, hh, arr, ty, fr, rfl, hr _⟩⟩
    · rcases hob with ⟨rfl, _⟩ | ⟨fo, cs, bk, rfl, rfl, hb, a2, t2, f2, g2, g3⟩
      · exact ⟨fun h => (by cases h), fun h => (by cases h)⟩
      · exact ⟨fun h => (by cases h), fun _ => ⟨bk, _, rfl, g2, a2, t2, f2, rfl, g3 _⟩⟩
  · have he : e = (5, .ro 0 tzv) ∨ e = (6, ob) := by simpa using he
    rcases he with rfl | rfl
    · simp
    · rcases hob with ⟨rfl, _⟩ | ⟨fo, cs, bk, rfl, _⟩ <;> simp
  · have wf : ∀ (i : Nat) (e : Nat × AObj), [(5, AObj.ro 0 tzv), (6, ob)][i]? = some e → e.2.wr = false := fun i e hi => by
      have he : e = (5, .ro 0 tzv) ∨ e = (6, ob) := by simpa using List.mem_of_getElem? hi
      rcases he with rfl | rfl
      · rfl
      · exact nw
    rw [wf i e hi, wf j e' hj] at hw
    rcases hw with hw | hw <;> cases hw
  · show (if g < 6 then some g else _) = some g; rw [if_pos hg]
  · show (if i < 6 then some i else if i = 6 then rb else none) = none; rw [if_neg (by omega), if_neg (by omega)]
  · have he : e = (5, .ro 0 tzv) ∨ e = (6, ob) := by simpa using he
    rcases he with rfl | rfl
    · cases hw
    · rw [nw] at hw; cases hw
end Go.Proofs.YtlhhcongoplfpaaDoor.Top
