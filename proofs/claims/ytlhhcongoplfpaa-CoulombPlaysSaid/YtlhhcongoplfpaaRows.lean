/-
  No cell of these rows narrows 'for every input' (looked for: loops, veiled, ifaces, maps, wideKeys, modest, calm, conditions, laid).
  DERIVED. THE GIVEN ROWS OF THIS SEAT. 4 by the template 'for every input the law returns true; each argument reads behind the call as it read before'; 0 by the template 'total and deterministic' (their statements: YtlhhcongoplfpaaTotals.lean).
  GIVEN WITH THE SEED: the statements are not yours to turn. If you find one false, say at which input.
  Laid BY PROGRAM, IN A SANDBOX (cutbox-rows.mjs): the forced cells as the released guide's own fill.sh prints them over the translation c63928288acbeec9… (all of the seat's roots in one cut). By AI agents, Wed Nov 11 2026. No macro, syntax, notation, axiom, sorry.
-/
import Derived.Test.YtlhhcongoplfpaaChecked
import GoSem.Claim
import GoSem.ClaimJoined
import GoSem.ClaimMapViews
import Derived.JoinedTies
import Derived.KernelRfl
namespace Go.Proofs.Ytlhhcongoplfpaa
/- THE CELL 'sum', in the pinned program and in every row, IS THE sha256 OF THE DUMP (.gsa) THAT YtlhhcongoplfpaaProg.lean LOADS. Nothing in Lean hashes anything: it is a label: what it is worth is what the hold of that sum in a sandbox is worth. -/
noncomputable def Try.pinned : Pinned := { name := "ytlhhcongoplfpaa", sum := "c63928288acbeec9a14c9b8252aabfd721809928065fbbe0e92e2668d5d116b9", checked := Try.checked }
namespace Rows
def none {H : Type} : Left H := { results := [], args := [] }

/-- 'dynamolaw18.CoulombPlays': WHATEVER THE INPUT: true; the input reads as it did. -/
def coulombPlaysSpec : ChangeSpec := { name := "coulombPlays", fn := fun _ => fun
  | [d1, d2, d3, d4, d5, d6] => { results := [.lit (.bool true)], args := [d1, d2, d3, d4, d5, d6] }
  | _ => none }
def coulombPlaysRow : OpenClaim := { program := "ytlhhcongoplfpaa", sum := "c63928288acbeec9a14c9b8252aabfd721809928065fbbe0e92e2668d5d116b9", func := "dynamo/dynamolaw18.CoulombPlays", spec := "coulombPlays", apart := false }
def CoulombPlaysSaid : Prop := coulombPlaysRow.holds Try.pinned (OpenSpec.ofChange coulombPlaysSpec)

/-- ITS FALSE NEIGHBOUR: 'it returns false'. Refute it at one input. -/
def coulombPlaysWrong : ChangeSpec := { name := "coulombPlays", fn := fun _ => fun
  | [d1, d2, d3, d4, d5, d6] => { results := [.lit (.bool false)], args := [d1, d2, d3, d4, d5, d6] }
  | _ => none }
def CoulombPlaysWrongFalsely : Prop := coulombPlaysRow.holds Try.pinned (OpenSpec.ofChange coulombPlaysWrong)

/-- 'dynamolaw18.CoulombHolds': WHATEVER THE INPUT: true; the input reads as it did. -/
def coulombHoldsSpec : ChangeSpec := { name := "coulombHolds", fn := fun _ => fun
  | [d1, d2, d3, d4, d5, d6, d7] => { results := [.lit (.bool true)], args := [d1, d2, d3, d4, d5, d6, d7] }
  | _ => none }
def coulombHoldsRow : OpenClaim := { program := "ytlhhcongoplfpaa", sum := "c63928288acbeec9a14c9b8252aabfd721809928065fbbe0e92e2668d5d116b9", func := "dynamo/dynamolaw18.CoulombHolds", spec := "coulombHolds", apart := false }
def CoulombHoldsSaid : Prop := coulombHoldsRow.holds Try.pinned (OpenSpec.ofChange coulombHoldsSpec)

/-- ITS FALSE NEIGHBOUR: 'it returns false'. Refute it at one input. -/
def coulombHoldsWrong : ChangeSpec := { name := "coulombHolds", fn := fun _ => fun
  | [d1, d2, d3, d4, d5, d6, d7] => { results := [.lit (.bool false)], args := [d1, d2, d3, d4, d5, d6, d7] }
  | _ => none }
def CoulombHoldsWrongFalsely : Prop := coulombHoldsRow.holds Try.pinned (OpenSpec.ofChange coulombHoldsWrong)

/-- 'dynamolaw18.CoulombRows': WHATEVER THE INPUT: true; the input reads as it did. -/
def coulombRowsSpec : ChangeSpec := { name := "coulombRows", fn := fun _ => fun
  | [d1, d2, d3, d4] => { results := [.lit (.bool true)], args := [d1, d2, d3, d4] }
  | _ => none }
def coulombRowsRow : OpenClaim := { program := "ytlhhcongoplfpaa", sum := "c63928288acbeec9a14c9b8252aabfd721809928065fbbe0e92e2668d5d116b9", func := "dynamo/dynamolaw18.CoulombRows", spec := "coulombRows", apart := false }
def CoulombRowsSaid : Prop := coulombRowsRow.holds Try.pinned (OpenSpec.ofChange coulombRowsSpec)

/-- ITS FALSE NEIGHBOUR: 'it returns false'. Refute it at one input. -/
def coulombRowsWrong : ChangeSpec := { name := "coulombRows", fn := fun _ => fun
  | [d1, d2, d3, d4] => { results := [.lit (.bool false)], args := [d1, d2, d3, d4] }
  | _ => none }
def CoulombRowsWrongFalsely : Prop := coulombRowsRow.holds Try.pinned (OpenSpec.ofChange coulombRowsWrong)

/-- 'dynamolaw18.CoulombBounds': WHATEVER THE INPUT: true; the input reads as it did. -/
def coulombBoundsSpec : ChangeSpec := { name := "coulombBounds", fn := fun _ => fun
  | [d1, d2, d3] => { results := [.lit (.bool true)], args := [d1, d2, d3] }
  | _ => none }
def coulombBoundsRow : OpenClaim := { program := "ytlhhcongoplfpaa", sum := "c63928288acbeec9a14c9b8252aabfd721809928065fbbe0e92e2668d5d116b9", func := "dynamo/dynamolaw18.CoulombBounds", spec := "coulombBounds", apart := false }
def CoulombBoundsSaid : Prop := coulombBoundsRow.holds Try.pinned (OpenSpec.ofChange coulombBoundsSpec)

/-- ITS FALSE NEIGHBOUR: 'it returns false'. Refute it at one input. -/
def coulombBoundsWrong : ChangeSpec := { name := "coulombBounds", fn := fun _ => fun
  | [d1, d2, d3] => { results := [.lit (.bool false)], args := [d1, d2, d3] }
  | _ => none }
def CoulombBoundsWrongFalsely : Prop := coulombBoundsRow.holds Try.pinned (OpenSpec.ofChange coulombBoundsWrong)

/- THE SECOND FORM. 'bulk': how many values and letters a reading holds, each counted each time it is reached (what is shared counts as often as it is met; a slice's spare places count too). A statement '..UptoSaid' is the law's where the arguments, and the package variables that the reading takes, are together of bulk at most 1048576: NARROWER than '..Said'. Prove '..Said' where nothing that the law and all that it calls make is longer than what came in: it says more and counts as full. Else prove '..UptoSaid'. A law counts once. -/
mutual
def uptoBulk {H : Type} : DataW H → Nat
  | .lit (.string bytes) => bytes.length + 1
  | .lit _ => 1
  | .nil => 1
  | .ptr d => uptoBulk d + 1
  | .slice elems spare => uptoBulkAll elems + uptoBulkAll spare + 1
  | .agg parts => uptoBulkAll parts + 1
  | .iface _ d => uptoBulk d + 1
  | .map entries => uptoBulkEntries entries + 1
  | .held _ => 1
def uptoBulkAll {H : Type} : List (DataW H) → Nat
  | [] => 0
  | d :: r => uptoBulk d + uptoBulkAll r
def uptoBulkEntries {H : Type} : List (Lit × DataW H) → Nat
  | [] => 0
  | x :: r => uptoBulkEntry x + uptoBulkEntries r
def uptoBulkEntry {H : Type} : Lit × DataW H → Nat
  | (.string bytes, d) => bytes.length + uptoBulk d + 1
  | (_, d) => uptoBulk d + 1
 end
def uptoSmall : (H : Type) → List (DataW H) → Bool := fun _ ds => decide (uptoBulkAll ds ≤ 1048576)
def OpenSpec.upto (s : _root_.Go.ChangeSpec) : _root_.Go.OpenSpec := { _root_.Go.OpenSpec.ofChange s with cond := some uptoSmall }

/-- 'dynamolaw18.CoulombPlays', WHERE WHAT IT READS IS OF BULK AT MOST 1048576: true; the input reads as it did. -/
def coulombPlaysUptoRow : OpenClaim := { program := "ytlhhcongoplfpaa", sum := "c63928288acbeec9a14c9b8252aabfd721809928065fbbe0e92e2668d5d116b9", func := "dynamo/dynamolaw18.CoulombPlays", spec := "coulombPlays", apart := false, narrowed := true }
def CoulombPlaysUptoSaid : Prop := coulombPlaysUptoRow.holds Try.pinned (OpenSpec.upto coulombPlaysSpec)

/-- 'dynamolaw18.CoulombHolds', WHERE WHAT IT READS IS OF BULK AT MOST 1048576: true; the input reads as it did. -/
def coulombHoldsUptoRow : OpenClaim := { program := "ytlhhcongoplfpaa", sum := "c63928288acbeec9a14c9b8252aabfd721809928065fbbe0e92e2668d5d116b9", func := "dynamo/dynamolaw18.CoulombHolds", spec := "coulombHolds", apart := false, narrowed := true }
def CoulombHoldsUptoSaid : Prop := coulombHoldsUptoRow.holds Try.pinned (OpenSpec.upto coulombHoldsSpec)

/-- 'dynamolaw18.CoulombRows', WHERE WHAT IT READS IS OF BULK AT MOST 1048576: true; the input reads as it did. -/
def coulombRowsUptoRow : OpenClaim := { program := "ytlhhcongoplfpaa", sum := "c63928288acbeec9a14c9b8252aabfd721809928065fbbe0e92e2668d5d116b9", func := "dynamo/dynamolaw18.CoulombRows", spec := "coulombRows", apart := false, narrowed := true }
def CoulombRowsUptoSaid : Prop := coulombRowsUptoRow.holds Try.pinned (OpenSpec.upto coulombRowsSpec)

/-- 'dynamolaw18.CoulombBounds', WHERE WHAT IT READS IS OF BULK AT MOST 1048576: true; the input reads as it did. -/
def coulombBoundsUptoRow : OpenClaim := { program := "ytlhhcongoplfpaa", sum := "c63928288acbeec9a14c9b8252aabfd721809928065fbbe0e92e2668d5d116b9", func := "dynamo/dynamolaw18.CoulombBounds", spec := "coulombBounds", apart := false, narrowed := true }
def CoulombBoundsUptoSaid : Prop := coulombBoundsUptoRow.holds Try.pinned (OpenSpec.upto coulombBoundsSpec)

end Rows
end Go.Proofs.Ytlhhcongoplfpaa
