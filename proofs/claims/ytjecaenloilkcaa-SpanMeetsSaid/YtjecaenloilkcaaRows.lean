/-
  No cell of these rows narrows 'for every input' (looked for: loops, veiled, ifaces, maps, wideKeys, modest, calm, conditions, laid).
  DERIVED. THE GIVEN ROWS OF THIS SEAT. 9 by the template 'for every input the law returns true; each argument reads behind the call as it read before'; 0 by the template 'total and deterministic' (their statements: YtjecaenloilkcaaTotals.lean).
  GIVEN WITH THE SEED: the statements are not yours to turn. If you find one false, say at which input.
  Laid BY PROGRAM, IN A SANDBOX (cutbox-rows.mjs): the forced cells as the released guide's own fill.sh prints them over the translation 9413060a498c2479… (all of the seat's roots in one cut). By AI agents, Wed Nov 11 2026. No macro, syntax, notation, axiom, sorry.
-/
import Derived.Test.YtjecaenloilkcaaChecked
import GoSem.Claim
import GoSem.ClaimJoined
import GoSem.ClaimMapViews
import Derived.JoinedTies
import Derived.KernelRfl
namespace Go.Proofs.Ytjecaenloilkcaa
/- THE CELL 'sum', in the pinned program and in every row, IS THE sha256 OF THE DUMP (.gsa) THAT YtjecaenloilkcaaProg.lean LOADS. Nothing in Lean hashes anything: it is a label: what it is worth is what the hold of that sum in a sandbox is worth. -/
noncomputable def Try.pinned : Pinned := { name := "ytjecaenloilkcaa", sum := "9413060a498c2479534fdf4c69f9d0c6a0630c80630cfb0f3efb9b11a7ec6eb6", checked := Try.checked }
namespace Rows
def none {H : Type} : Left H := { results := [], args := [] }

/-- 'dynamolaw2.SpanMeets': WHATEVER THE INPUT: true; the input reads as it did. -/
def spanMeetsSpec : ChangeSpec := { name := "spanMeets", fn := fun _ => fun
  | [d1, d2, d3, d4, d5] => { results := [.lit (.bool true)], args := [d1, d2, d3, d4, d5] }
  | _ => none }
def spanMeetsRow : OpenClaim := { program := "ytjecaenloilkcaa", sum := "9413060a498c2479534fdf4c69f9d0c6a0630c80630cfb0f3efb9b11a7ec6eb6", func := "dynamo/dynamolaw2.SpanMeets", spec := "spanMeets", apart := false }
def SpanMeetsSaid : Prop := spanMeetsRow.holds Try.pinned (OpenSpec.ofChange spanMeetsSpec)

/-- ITS FALSE NEIGHBOUR: 'it returns false'. Refute it at one input. -/
def spanMeetsWrong : ChangeSpec := { name := "spanMeets", fn := fun _ => fun
  | [d1, d2, d3, d4, d5] => { results := [.lit (.bool false)], args := [d1, d2, d3, d4, d5] }
  | _ => none }
def SpanMeetsWrongFalsely : Prop := spanMeetsRow.holds Try.pinned (OpenSpec.ofChange spanMeetsWrong)

/-- 'dynamolaw1.FixedDivides': WHATEVER THE INPUT: true; the input reads as it did. -/
def fixedDividesSpec : ChangeSpec := { name := "fixedDivides", fn := fun _ => fun
  | [d1, d2] => { results := [.lit (.bool true)], args := [d1, d2] }
  | _ => none }
def fixedDividesRow : OpenClaim := { program := "ytjecaenloilkcaa", sum := "9413060a498c2479534fdf4c69f9d0c6a0630c80630cfb0f3efb9b11a7ec6eb6", func := "dynamo/dynamolaw1.FixedDivides", spec := "fixedDivides", apart := false }
def FixedDividesSaid : Prop := fixedDividesRow.holds Try.pinned (OpenSpec.ofChange fixedDividesSpec)

/-- ITS FALSE NEIGHBOUR: 'it returns false'. Refute it at one input. -/
def fixedDividesWrong : ChangeSpec := { name := "fixedDivides", fn := fun _ => fun
  | [d1, d2] => { results := [.lit (.bool false)], args := [d1, d2] }
  | _ => none }
def FixedDividesWrongFalsely : Prop := fixedDividesRow.holds Try.pinned (OpenSpec.ofChange fixedDividesWrong)

/-- 'dynamolaw1.FixedClamps': WHATEVER THE INPUT: true; the input reads as it did. -/
def fixedClampsSpec : ChangeSpec := { name := "fixedClamps", fn := fun _ => fun
  | [d1, d2, d3] => { results := [.lit (.bool true)], args := [d1, d2, d3] }
  | _ => none }
def fixedClampsRow : OpenClaim := { program := "ytjecaenloilkcaa", sum := "9413060a498c2479534fdf4c69f9d0c6a0630c80630cfb0f3efb9b11a7ec6eb6", func := "dynamo/dynamolaw1.FixedClamps", spec := "fixedClamps", apart := false }
def FixedClampsSaid : Prop := fixedClampsRow.holds Try.pinned (OpenSpec.ofChange fixedClampsSpec)

/-- ITS FALSE NEIGHBOUR: 'it returns false'. Refute it at one input. -/
def fixedClampsWrong : ChangeSpec := { name := "fixedClamps", fn := fun _ => fun
  | [d1, d2, d3] => { results := [.lit (.bool false)], args := [d1, d2, d3] }
  | _ => none }
def FixedClampsWrongFalsely : Prop := fixedClampsRow.holds Try.pinned (OpenSpec.ofChange fixedClampsWrong)

/-- 'dynamolaw2.SpanIn': WHATEVER THE INPUT: true; the input reads as it did. -/
def spanInSpec : ChangeSpec := { name := "spanIn", fn := fun _ => fun
  | [d1, d2, d3, d4, d5, d6] => { results := [.lit (.bool true)], args := [d1, d2, d3, d4, d5, d6] }
  | _ => none }
def spanInRow : OpenClaim := { program := "ytjecaenloilkcaa", sum := "9413060a498c2479534fdf4c69f9d0c6a0630c80630cfb0f3efb9b11a7ec6eb6", func := "dynamo/dynamolaw2.SpanIn", spec := "spanIn", apart := false }
def SpanInSaid : Prop := spanInRow.holds Try.pinned (OpenSpec.ofChange spanInSpec)

/-- ITS FALSE NEIGHBOUR: 'it returns false'. Refute it at one input. -/
def spanInWrong : ChangeSpec := { name := "spanIn", fn := fun _ => fun
  | [d1, d2, d3, d4, d5, d6] => { results := [.lit (.bool false)], args := [d1, d2, d3, d4, d5, d6] }
  | _ => none }
def SpanInWrongFalsely : Prop := spanInRow.holds Try.pinned (OpenSpec.ofChange spanInWrong)

/-- 'dynamolaw1.FixedRises': WHATEVER THE INPUT: true; the input reads as it did. -/
def fixedRisesSpec : ChangeSpec := { name := "fixedRises", fn := fun _ => fun
  | [d1, d2, d3] => { results := [.lit (.bool true)], args := [d1, d2, d3] }
  | _ => none }
def fixedRisesRow : OpenClaim := { program := "ytjecaenloilkcaa", sum := "9413060a498c2479534fdf4c69f9d0c6a0630c80630cfb0f3efb9b11a7ec6eb6", func := "dynamo/dynamolaw1.FixedRises", spec := "fixedRises", apart := false }
def FixedRisesSaid : Prop := fixedRisesRow.holds Try.pinned (OpenSpec.ofChange fixedRisesSpec)

/-- ITS FALSE NEIGHBOUR: 'it returns false'. Refute it at one input. -/
def fixedRisesWrong : ChangeSpec := { name := "fixedRises", fn := fun _ => fun
  | [d1, d2, d3] => { results := [.lit (.bool false)], args := [d1, d2, d3] }
  | _ => none }
def FixedRisesWrongFalsely : Prop := fixedRisesRow.holds Try.pinned (OpenSpec.ofChange fixedRisesWrong)

/-- 'dynamolaw1.FixedBounds': WHATEVER THE INPUT: true; the input reads as it did. -/
def fixedBoundsSpec : ChangeSpec := { name := "fixedBounds", fn := fun _ => fun
  | [d1, d2] => { results := [.lit (.bool true)], args := [d1, d2] }
  | _ => none }
def fixedBoundsRow : OpenClaim := { program := "ytjecaenloilkcaa", sum := "9413060a498c2479534fdf4c69f9d0c6a0630c80630cfb0f3efb9b11a7ec6eb6", func := "dynamo/dynamolaw1.FixedBounds", spec := "fixedBounds", apart := false }
def FixedBoundsSaid : Prop := fixedBoundsRow.holds Try.pinned (OpenSpec.ofChange fixedBoundsSpec)

/-- ITS FALSE NEIGHBOUR: 'it returns false'. Refute it at one input. -/
def fixedBoundsWrong : ChangeSpec := { name := "fixedBounds", fn := fun _ => fun
  | [d1, d2] => { results := [.lit (.bool false)], args := [d1, d2] }
  | _ => none }
def FixedBoundsWrongFalsely : Prop := fixedBoundsRow.holds Try.pinned (OpenSpec.ofChange fixedBoundsWrong)

/-- 'dynamolaw1.FixedSays': WHATEVER THE INPUT: true; the input reads as it did. -/
def fixedSaysSpec : ChangeSpec := { name := "fixedSays", fn := fun _ => fun
  | [d1, d2, d3, d4] => { results := [.lit (.bool true)], args := [d1, d2, d3, d4] }
  | _ => none }
def fixedSaysRow : OpenClaim := { program := "ytjecaenloilkcaa", sum := "9413060a498c2479534fdf4c69f9d0c6a0630c80630cfb0f3efb9b11a7ec6eb6", func := "dynamo/dynamolaw1.FixedSays", spec := "fixedSays", apart := false }
def FixedSaysSaid : Prop := fixedSaysRow.holds Try.pinned (OpenSpec.ofChange fixedSaysSpec)

/-- ITS FALSE NEIGHBOUR: 'it returns false'. Refute it at one input. -/
def fixedSaysWrong : ChangeSpec := { name := "fixedSays", fn := fun _ => fun
  | [d1, d2, d3, d4] => { results := [.lit (.bool false)], args := [d1, d2, d3, d4] }
  | _ => none }
def FixedSaysWrongFalsely : Prop := fixedSaysRow.holds Try.pinned (OpenSpec.ofChange fixedSaysWrong)

/-- 'dynamolaw2.SpanHolds': WHATEVER THE INPUT: true; the input reads as it did. -/
def spanHoldsSpec : ChangeSpec := { name := "spanHolds", fn := fun _ => fun
  | [d1, d2, d3, d4, d5, d6, d7] => { results := [.lit (.bool true)], args := [d1, d2, d3, d4, d5, d6, d7] }
  | _ => none }
def spanHoldsRow : OpenClaim := { program := "ytjecaenloilkcaa", sum := "9413060a498c2479534fdf4c69f9d0c6a0630c80630cfb0f3efb9b11a7ec6eb6", func := "dynamo/dynamolaw2.SpanHolds", spec := "spanHolds", apart := false }
def SpanHoldsSaid : Prop := spanHoldsRow.holds Try.pinned (OpenSpec.ofChange spanHoldsSpec)

/-- ITS FALSE NEIGHBOUR: 'it returns false'. Refute it at one input. -/
def spanHoldsWrong : ChangeSpec := { name := "spanHolds", fn := fun _ => fun
  | [d1, d2, d3, d4, d5, d6, d7] => { results := [.lit (.bool false)], args := [d1, d2, d3, d4, d5, d6, d7] }
  | _ => none }
def SpanHoldsWrongFalsely : Prop := spanHoldsRow.holds Try.pinned (OpenSpec.ofChange spanHoldsWrong)

/-- 'dynamolaw2.SpanSays': WHATEVER THE INPUT: true; the input reads as it did. -/
def spanSaysSpec : ChangeSpec := { name := "spanSays", fn := fun _ => fun
  | [d1, d2, d3, d4, d5, d6] => { results := [.lit (.bool true)], args := [d1, d2, d3, d4, d5, d6] }
  | _ => none }
def spanSaysRow : OpenClaim := { program := "ytjecaenloilkcaa", sum := "9413060a498c2479534fdf4c69f9d0c6a0630c80630cfb0f3efb9b11a7ec6eb6", func := "dynamo/dynamolaw2.SpanSays", spec := "spanSays", apart := false }
def SpanSaysSaid : Prop := spanSaysRow.holds Try.pinned (OpenSpec.ofChange spanSaysSpec)

/-- ITS FALSE NEIGHBOUR: 'it returns false'. Refute it at one input. -/
def spanSaysWrong : ChangeSpec := { name := "spanSays", fn := fun _ => fun
  | [d1, d2, d3, d4, d5, d6] => { results := [.lit (.bool false)], args := [d1, d2, d3, d4, d5, d6] }
  | _ => none }
def SpanSaysWrongFalsely : Prop := spanSaysRow.holds Try.pinned (OpenSpec.ofChange spanSaysWrong)

/- THE SECOND FORM. 'bulk': how many values and letters a reading holds, each counted each time it is reached (what is shared counts as often as it is met; a slice's spare places count too). A statement '..UptoSaid' is the law's where the arguments, and the package variables that the reading takes, are together of bulk at most 1048576: NARROWER than '..Said'. Prove '..Said' where nothing that the law and all that it calls make is longer than what came in: it says more and counts as full. Else prove '..UptoSaid'. A law counts once. -/
mutual
def uptoBulk {H : Type} : DataW H → Nat
  | .lit (.string bytes) => bytes.length + 1
  | .lit _ => 1
  | .nil => 1
  | .ptr d => uptoBulk d + 1
  | .slice elems spare => uptoBulkAll elems + uptoBulkAll spare + 1
  | .agg parts => uptoBulkAll parts + 1
  | .iface _ d => uptoBulk d + 1
  | .map entries => uptoBulkEntries entries + 1
  | .held _ => 1
def uptoBulkAll {H : Type} : List (DataW H) → Nat
  | [] => 0
  | d :: r => uptoBulk d + uptoBulkAll r
def uptoBulkEntries {H : Type} : List (Lit × DataW H) → Nat
  | [] => 0
  | x :: r => uptoBulkEntry x + uptoBulkEntries r
def uptoBulkEntry {H : Type} : Lit × DataW H → Nat
  | (.string bytes, d) => bytes.length + uptoBulk d + 1
  | (_, d) => uptoBulk d + 1
 end
def uptoSmall : (H : Type) → List (DataW H) → Bool := fun _ ds => decide (uptoBulkAll ds ≤ 1048576)
def OpenSpec.upto (s : _root_.Go.ChangeSpec) : _root_.Go.OpenSpec := { _root_.Go.OpenSpec.ofChange s with cond := some uptoSmall }

/-- 'dynamolaw2.SpanMeets', WHERE WHAT IT READS IS OF BULK AT MOST 1048576: true; the input reads as it did. -/
def spanMeetsUptoRow : OpenClaim := { program := "ytjecaenloilkcaa", sum := "9413060a498c2479534fdf4c69f9d0c6a0630c80630cfb0f3efb9b11a7ec6eb6", func := "dynamo/dynamolaw2.SpanMeets", spec := "spanMeets", apart := false, narrowed := true }
def SpanMeetsUptoSaid : Prop := spanMeetsUptoRow.holds Try.pinned (OpenSpec.upto spanMeetsSpec)

/-- 'dynamolaw1.FixedDivides', WHERE WHAT IT READS IS OF BULK AT MOST 1048576: true; the input reads as it did. -/
def fixedDividesUptoRow : OpenClaim := { program := "ytjecaenloilkcaa", sum := "9413060a498c2479534fdf4c69f9d0c6a0630c80630cfb0f3efb9b11a7ec6eb6", func := "dynamo/dynamolaw1.FixedDivides", spec := "fixedDivides", apart := false, narrowed := true }
def FixedDividesUptoSaid : Prop := fixedDividesUptoRow.holds Try.pinned (OpenSpec.upto fixedDividesSpec)

/-- 'dynamolaw1.FixedClamps', WHERE WHAT IT READS IS OF BULK AT MOST 1048576: true; the input reads as it did. -/
def fixedClampsUptoRow : OpenClaim := { program := "ytjecaenloilkcaa", sum := "9413060a498c2479534fdf4c69f9d0c6a0630c80630cfb0f3efb9b11a7ec6eb6", func := "dynamo/dynamolaw1.FixedClamps", spec := "fixedClamps", apart := false, narrowed := true }
def FixedClampsUptoSaid : Prop := fixedClampsUptoRow.holds Try.pinned (OpenSpec.upto fixedClampsSpec)

/-- 'dynamolaw2.SpanIn', WHERE WHAT IT READS IS OF BULK AT MOST 1048576: true; the input reads as it did. -/
def spanInUptoRow : OpenClaim := { program := "ytjecaenloilkcaa", sum := "9413060a498c2479534fdf4c69f9d0c6a0630c80630cfb0f3efb9b11a7ec6eb6", func := "dynamo/dynamolaw2.SpanIn", spec := "spanIn", apart := false, narrowed := true }
def SpanInUptoSaid : Prop := spanInUptoRow.holds Try.pinned (OpenSpec.upto spanInSpec)

/-- 'dynamolaw1.FixedRises', WHERE WHAT IT READS IS OF BULK AT MOST 1048576: true; the input reads as it did. -/
def fixedRisesUptoRow : OpenClaim := { program := "ytjecaenloilkcaa", sum := "9413060a498c2479534fdf4c69f9d0c6a0630c80630cfb0f3efb9b11a7ec6eb6", func := "dynamo/dynamolaw1.FixedRises", spec := "fixedRises", apart := false, narrowed := true }
def FixedRisesUptoSaid : Prop := fixedRisesUptoRow.holds Try.pinned (OpenSpec.upto fixedRisesSpec)

/-- 'dynamolaw1.FixedBounds', WHERE WHAT IT READS IS OF BULK AT MOST 1048576: true; the input reads as it did. -/
def fixedBoundsUptoRow : OpenClaim := { program := "ytjecaenloilkcaa", sum := "9413060a498c2479534fdf4c69f9d0c6a0630c80630cfb0f3efb9b11a7ec6eb6", func := "dynamo/dynamolaw1.FixedBounds", spec := "fixedBounds", apart := false, narrowed := true }
def FixedBoundsUptoSaid : Prop := fixedBoundsUptoRow.holds Try.pinned (OpenSpec.upto fixedBoundsSpec)

/-- 'dynamolaw1.FixedSays', WHERE WHAT IT READS IS OF BULK AT MOST 1048576: true; the input reads as it did. -/
def fixedSaysUptoRow : OpenClaim := { program := "ytjecaenloilkcaa", sum := "9413060a498c2479534fdf4c69f9d0c6a0630c80630cfb0f3efb9b11a7ec6eb6", func := "dynamo/dynamolaw1.FixedSays", spec := "fixedSays", apart := false, narrowed := true }
def FixedSaysUptoSaid : Prop := fixedSaysUptoRow.holds Try.pinned (OpenSpec.upto fixedSaysSpec)

/-- 'dynamolaw2.SpanHolds', WHERE WHAT IT READS IS OF BULK AT MOST 1048576: true; the input reads as it did. -/
def spanHoldsUptoRow : OpenClaim := { program := "ytjecaenloilkcaa", sum := "9413060a498c2479534fdf4c69f9d0c6a0630c80630cfb0f3efb9b11a7ec6eb6", func := "dynamo/dynamolaw2.SpanHolds", spec := "spanHolds", apart := false, narrowed := true }
def SpanHoldsUptoSaid : Prop := spanHoldsUptoRow.holds Try.pinned (OpenSpec.upto spanHoldsSpec)

/-- 'dynamolaw2.SpanSays', WHERE WHAT IT READS IS OF BULK AT MOST 1048576: true; the input reads as it did. -/
def spanSaysUptoRow : OpenClaim := { program := "ytjecaenloilkcaa", sum := "9413060a498c2479534fdf4c69f9d0c6a0630c80630cfb0f3efb9b11a7ec6eb6", func := "dynamo/dynamolaw2.SpanSays", spec := "spanSays", apart := false, narrowed := true }
def SpanSaysUptoSaid : Prop := spanSaysUptoRow.holds Try.pinned (OpenSpec.upto spanSaysSpec)

end Rows
end Go.Proofs.Ytjecaenloilkcaa
