/-
  NARROWER THAN 'FOR EVERY INPUT', by the rows' own cells (each row's printed sentence says how): GraphFeeds: laid · GraphSays: laid · GraphJoins: laid · GraphEnds: laid · TableWrong: laid · TableSteps: laid · TableSays: laid · TableRises: laid · TableLines: laid.
  DERIVED. THE GIVEN ROWS OF THIS SEAT. 9 by the template 'for every input the law returns true; each argument reads behind the call as it read before'; 0 by the template 'total and deterministic' (their statements: YtjmggdccmggboabDoorTotals.lean).
  GIVEN WITH THE SEED: the statements are not yours to turn. If you find one false, say at which input.
  Laid BY PROGRAM, IN A SANDBOX (cutbox-rows.mjs): the forced cells as the released guide's own fill.sh prints them over the translation 5c30b54b95133b2a… (all of the seat's roots in one cut). By AI agents, Wed Nov 11 2026. No macro, syntax, notation, axiom, sorry.
-/
import Derived.Test.YtjmggdccmggboabDoorChecked
import GoSem.Claim
import GoSem.ClaimJoined
import GoSem.ClaimMapViews
import Derived.JoinedTies
import Derived.KernelRfl
namespace Go.Proofs.YtjmggdccmggboabDoor
/- THE CELL 'sum', in the pinned program and in every row, IS THE sha256 OF THE DUMP (.gsa) THAT YtjmggdccmggboabDoorProg.lean LOADS. Nothing in Lean hashes anything: it is a label: what it is worth is what the hold of that sum in a sandbox is worth. -/
noncomputable def Tryd.pinned : Pinned := { name := "ytjmggdccmggboabdoor", sum := "5c30b54b95133b2ad7e9dd7ae0bbde55d293c2c1dcfb0732fcbef2c6a9d7ba1c", checked := Tryd.checked }
namespace Rows
def none {H : Type} : Left H := { results := [], args := [] }

/- WHAT THE LISTED PACKAGE-LEVEL VARIABLES READ AS WHEN THE CALL BEGINS. Each datum BY PROGRAM (the guide's laid-datum.mjs) off the statement by which the dump's own 'gosem.cut.vars' lays the variable. In a bare row this is a premise. The card (YtjmggdccmggboabDoorCards.lean) ties it to the program's text. -/
def laid_math_bits_deBruijn32tab {H : Type} : DataW H := .agg [.lit (.int .u8 0), .lit (.int .u8 1), .lit (.int .u8 28), .lit (.int .u8 2), .lit (.int .u8 29), .lit (.int .u8 14), .lit (.int .u8 24), .lit (.int .u8 3), .lit (.int .u8 30), .lit (.int .u8 22), .lit (.int .u8 20), .lit (.int .u8 15), .lit (.int .u8 25), .lit (.int .u8 17), .lit (.int .u8 4), .lit (.int .u8 8), .lit (.int .u8 31), .lit (.int .u8 27), .lit (.int .u8 13), .lit (.int .u8 23), .lit (.int .u8 21), .lit (.int .u8 19), .lit (.int .u8 16), .lit (.int .u8 7), .lit (.int .u8 26), .lit (.int .u8 12), .lit (.int .u8 18), .lit (.int .u8 6), .lit (.int .u8 11), .lit (.int .u8 5), .lit (.int .u8 10), .lit (.int .u8 9)]
def laid_math_bits_deBruijn64tab {H : Type} : DataW H := .agg [.lit (.int .u8 0), .lit (.int .u8 1), .lit (.int .u8 56), .lit (.int .u8 2), .lit (.int .u8 57), .lit (.int .u8 49), .lit (.int .u8 28), .lit (.int .u8 3), .lit (.int .u8 61), .lit (.int .u8 58), .lit (.int .u8 42), .lit (.int .u8 50), .lit (.int .u8 38), .lit (.int .u8 29), .lit (.int .u8 17), .lit (.int .u8 4), .lit (.int .u8 62), .lit (.int .u8 47), .lit (.int .u8 59), .lit (.int .u8 36), .lit (.int .u8 45), .lit (.int .u8 43), .lit (.int .u8 51), .lit (.int .u8 22), .lit (.int .u8 53), .lit (.int .u8 39), .lit (.int .u8 33), .lit (.int .u8 30), .lit (.int .u8 24), .lit (.int .u8 18), .lit (.int .u8 12), .lit (.int .u8 5), .lit (.int .u8 63), .lit (.int .u8 55), .lit (.int .u8 48), .lit (.int .u8 27), .lit (.int .u8 60), .lit (.int .u8 41), .lit (.int .u8 37), .lit (.int .u8 16), .lit (.int .u8 46), .lit (.int .u8 35), .lit (.int .u8 44), .lit (.int .u8 21), .lit (.int .u8 52), .lit (.int .u8 32), .lit (.int .u8 23), .lit (.int .u8 11), .lit (.int .u8 54), .lit (.int .u8 26), .lit (.int .u8 40), .lit (.int .u8 15), .lit (.int .u8 34), .lit (.int .u8 20), .lit (.int .u8 31), .lit (.int .u8 10), .lit (.int .u8 25), .lit (.int .u8 14), .lit (.int .u8 19), .lit (.int .u8 9), .lit (.int .u8 13), .lit (.int .u8 8), .lit (.int .u8 7), .lit (.int .u8 6)]
def laid_dynamo_api_ErrRange {H : Type} : DataW H := .iface "*errors.errorString" (.ptr (.agg [.lit (.string [97, 32, 110, 117, 109, 98, 101, 114, 32, 111, 117, 116, 32, 111, 102, 32, 105, 116, 115, 32, 114, 97, 110, 103, 101])]))
def laid_dynamo_api_ErrLong {H : Type} : DataW H := .iface "*errors.errorString" (.ptr (.agg [.lit (.string [109, 111, 114, 101, 32, 116, 104, 97, 110, 32, 109, 97, 121, 32, 98, 101])]))
def laid_dynamo_api_ErrShort {H : Type} : DataW H := .iface "*errors.errorString" (.ptr (.agg [.lit (.string [108, 101, 115, 115, 32, 116, 104, 97, 110, 32, 104, 97, 115, 32, 116, 111, 32, 98, 101])]))
def laid_dynamo_api_ErrSum {H : Type} : DataW H := .iface "*errors.errorString" (.ptr (.agg [.lit (.string [97, 32, 115, 117, 109, 32, 116, 104, 97, 116, 32, 100, 111, 101, 115, 32, 110, 111, 116, 32, 102, 105, 116])]))
def laid_dynamo_api_ErrTable {H : Type} : DataW H := .iface "*errors.errorString" (.ptr (.agg [.lit (.string [97, 32, 116, 97, 98, 108, 101, 32, 116, 104, 97, 116, 32, 100, 111, 101, 115, 32, 110, 111, 116, 32, 114, 105, 115, 101])]))
def laid_dynamo_api_ErrConfig {H : Type} : DataW H := .iface "*errors.errorString" (.ptr (.agg [.lit (.string [97, 32, 99, 111, 110, 102, 105, 103, 117, 114, 97, 116, 105, 111, 110, 32, 116, 104, 97, 116, 32, 99, 97, 110, 39, 116, 32, 98, 101])]))
def laid_dynamo_api_ErrNone {H : Type} : DataW H := .iface "*errors.errorString" (.ptr (.agg [.lit (.string [110, 111, 32, 114, 101, 99, 111, 114, 100])]))

/-- 'dynamolaw21.GraphFeeds': WHATEVER THE INPUT: true; the input reads as it did. -/
def graphFeedsSpec : ChangeSpec := { name := "graphFeeds", fn := fun _ => fun
  | [d1, d2] => { results := [.lit (.bool true)], args := [d1, d2] }
  | _ => none }
def graphFeedsRow : OpenClaim := { program := "ytjmggdccmggboabdoor", sum := "5c30b54b95133b2ad7e9dd7ae0bbde55d293c2c1dcfb0732fcbef2c6a9d7ba1c", func := "dynamo/dynamolaw21.GraphFeeds", spec := "graphFeeds", named := ["math/bits.deBruijn32tab", "math/bits.deBruijn64tab"], apart := false, laid := [("math/bits.deBruijn32tab", laid_math_bits_deBruijn32tab), ("math/bits.deBruijn64tab", laid_math_bits_deBruijn64tab)] }
def GraphFeedsSaid : Prop := graphFeedsRow.holds Tryd.pinned (OpenSpec.ofChange graphFeedsSpec)

/-- ITS FALSE NEIGHBOUR: 'it returns false'. Refute it at one input. -/
def graphFeedsWrong : ChangeSpec := { name := "graphFeeds", fn := fun _ => fun
  | [d1, d2] => { results := [.lit (.bool false)], args := [d1, d2] }
  | _ => none }
def GraphFeedsWrongFalsely : Prop := graphFeedsRow.holds Tryd.pinned (OpenSpec.ofChange graphFeedsWrong)

/-- 'dynamolaw21.GraphSays': WHATEVER THE INPUT: true; the input reads as it did. -/
def graphSaysSpec : ChangeSpec := { name := "graphSays", fn := fun _ => fun
  | [d1, d2, d3] => { results := [.lit (.bool true)], args := [d1, d2, d3] }
  | _ => none }
def graphSaysRow : OpenClaim := { program := "ytjmggdccmggboabdoor", sum := "5c30b54b95133b2ad7e9dd7ae0bbde55d293c2c1dcfb0732fcbef2c6a9d7ba1c", func := "dynamo/dynamolaw21.GraphSays", spec := "graphSays", named := ["math/bits.deBruijn32tab", "math/bits.deBruijn64tab"], apart := false, laid := [("math/bits.deBruijn32tab", laid_math_bits_deBruijn32tab), ("math/bits.deBruijn64tab", laid_math_bits_deBruijn64tab)] }
def GraphSaysSaid : Prop := graphSaysRow.holds Tryd.pinned (OpenSpec.ofChange graphSaysSpec)

/-- ITS FALSE NEIGHBOUR: 'it returns false'. Refute it at one input. -/
def graphSaysWrong : ChangeSpec := { name := "graphSays", fn := fun _ => fun
  | [d1, d2, d3] => { results := [.lit (.bool false)], args := [d1, d2, d3] }
  | _ => none }
def GraphSaysWrongFalsely : Prop := graphSaysRow.holds Tryd.pinned (OpenSpec.ofChange graphSaysWrong)

/-- 'dynamolaw21.GraphJoins': WHATEVER THE INPUT: true; the input reads as it did. -/
def graphJoinsSpec : ChangeSpec := { name := "graphJoins", fn := fun _ => fun
  | [d1, d2, d3, d4] => { results := [.lit (.bool true)], args := [d1, d2, d3, d4] }
  | _ => none }
def graphJoinsRow : OpenClaim := { program := "ytjmggdccmggboabdoor", sum := "5c30b54b95133b2ad7e9dd7ae0bbde55d293c2c1dcfb0732fcbef2c6a9d7ba1c", func := "dynamo/dynamolaw21.GraphJoins", spec := "graphJoins", named := ["math/bits.deBruijn32tab", "math/bits.deBruijn64tab"], apart := false, laid := [("math/bits.deBruijn32tab", laid_math_bits_deBruijn32tab), ("math/bits.deBruijn64tab", laid_math_bits_deBruijn64tab)] }
def GraphJoinsSaid : Prop := graphJoinsRow.holds Tryd.pinned (OpenSpec.ofChange graphJoinsSpec)

/-- ITS FALSE NEIGHBOUR: 'it returns false'. Refute it at one input. -/
def graphJoinsWrong : ChangeSpec := { name := "graphJoins", fn := fun _ => fun
  | [d1, d2, d3, d4] => { results := [.lit (.bool false)], args := [d1, d2, d3, d4] }
  | _ => none }
def GraphJoinsWrongFalsely : Prop := graphJoinsRow.holds Tryd.pinned (OpenSpec.ofChange graphJoinsWrong)

/-- 'dynamolaw21.GraphEnds': WHATEVER THE INPUT: true; the input reads as it did. -/
def graphEndsSpec : ChangeSpec := { name := "graphEnds", fn := fun _ => fun
  | [d1, d2] => { results := [.lit (.bool true)], args := [d1, d2] }
  | _ => none }
def graphEndsRow : OpenClaim := { program := "ytjmggdccmggboabdoor", sum := "5c30b54b95133b2ad7e9dd7ae0bbde55d293c2c1dcfb0732fcbef2c6a9d7ba1c", func := "dynamo/dynamolaw21.GraphEnds", spec := "graphEnds", named := ["math/bits.deBruijn32tab", "math/bits.deBruijn64tab"], apart := false, laid := [("math/bits.deBruijn32tab", laid_math_bits_deBruijn32tab), ("math/bits.deBruijn64tab", laid_math_bits_deBruijn64tab)] }
def GraphEndsSaid : Prop := graphEndsRow.holds Tryd.pinned (OpenSpec.ofChange graphEndsSpec)

/-- ITS FALSE NEIGHBOUR: 'it returns false'. Refute it at one input. -/
def graphEndsWrong : ChangeSpec := { name := "graphEnds", fn := fun _ => fun
  | [d1, d2] => { results := [.lit (.bool false)], args := [d1, d2] }
  | _ => none }
def GraphEndsWrongFalsely : Prop := graphEndsRow.holds Tryd.pinned (OpenSpec.ofChange graphEndsWrong)

/-- 'dynamolaw3.TableWrong': WHATEVER THE INPUT: true; the input reads as it did. -/
def tableWrongSpec : ChangeSpec := { name := "tableWrong", fn := fun _ => fun
  | [d1, d2, d3, d4] => { results := [.lit (.bool true)], args := [d1, d2, d3, d4] }
  | _ => none }
def tableWrongRow : OpenClaim := { program := "ytjmggdccmggboabdoor", sum := "5c30b54b95133b2ad7e9dd7ae0bbde55d293c2c1dcfb0732fcbef2c6a9d7ba1c", func := "dynamo/dynamolaw3.TableWrong", spec := "tableWrong", named := ["dynamo/api.ErrShort", "dynamo/api.ErrLong", "dynamo/api.ErrRange", "dynamo/api.ErrTable", "dynamo/api.ErrSum", "dynamo/api.ErrConfig", "dynamo/api.ErrNone"], apart := false, laid := [("dynamo/api.ErrRange", laid_dynamo_api_ErrRange), ("dynamo/api.ErrLong", laid_dynamo_api_ErrLong), ("dynamo/api.ErrShort", laid_dynamo_api_ErrShort), ("dynamo/api.ErrSum", laid_dynamo_api_ErrSum), ("dynamo/api.ErrTable", laid_dynamo_api_ErrTable), ("dynamo/api.ErrConfig", laid_dynamo_api_ErrConfig), ("dynamo/api.ErrNone", laid_dynamo_api_ErrNone)] }
def TableWrongSaid : Prop := tableWrongRow.holds Tryd.pinned (OpenSpec.ofChange tableWrongSpec)

/-- ITS FALSE NEIGHBOUR: 'it returns false'. Refute it at one input. -/
def tableWrongWrong : ChangeSpec := { name := "tableWrong", fn := fun _ => fun
  | [d1, d2, d3, d4] => { results := [.lit (.bool false)], args := [d1, d2, d3, d4] }
  | _ => none }
def TableWrongWrongFalsely : Prop := tableWrongRow.holds Tryd.pinned (OpenSpec.ofChange tableWrongWrong)

/-- 'dynamolaw3.TableSteps': WHATEVER THE INPUT: true; the input reads as it did. -/
def tableStepsSpec : ChangeSpec := { name := "tableSteps", fn := fun _ => fun
  | [d1, d2, d3, d4] => { results := [.lit (.bool true)], args := [d1, d2, d3, d4] }
  | _ => none }
def tableStepsRow : OpenClaim := { program := "ytjmggdccmggboabdoor", sum := "5c30b54b95133b2ad7e9dd7ae0bbde55d293c2c1dcfb0732fcbef2c6a9d7ba1c", func := "dynamo/dynamolaw3.TableSteps", spec := "tableSteps", unfollowed := true, recurses := true, named := ["dynamo/api.ErrShort", "dynamo/api.ErrLong", "dynamo/api.ErrRange", "dynamo/api.ErrTable"], apart := false, laid := [("dynamo/api.ErrRange", laid_dynamo_api_ErrRange), ("dynamo/api.ErrLong", laid_dynamo_api_ErrLong), ("dynamo/api.ErrShort", laid_dynamo_api_ErrShort), ("dynamo/api.ErrTable", laid_dynamo_api_ErrTable)] }
def TableStepsSaid : Prop := tableStepsRow.holds Tryd.pinned (OpenSpec.ofChange tableStepsSpec)

/-- ITS FALSE NEIGHBOUR: 'it returns false'. Refute it at one input. -/
def tableStepsWrong : ChangeSpec := { name := "tableSteps", fn := fun _ => fun
  | [d1, d2, d3, d4] => { results := [.lit (.bool false)], args := [d1, d2, d3, d4] }
  | _ => none }
def TableStepsWrongFalsely : Prop := tableStepsRow.holds Tryd.pinned (OpenSpec.ofChange tableStepsWrong)

/-- 'dynamolaw3.TableSays': WHATEVER THE INPUT: true; the input reads as it did. -/
def tableSaysSpec : ChangeSpec := { name := "tableSays", fn := fun _ => fun
  | [d1, d2, d3, d4, d5] => { results := [.lit (.bool true)], args := [d1, d2, d3, d4, d5] }
  | _ => none }
def tableSaysRow : OpenClaim := { program := "ytjmggdccmggboabdoor", sum := "5c30b54b95133b2ad7e9dd7ae0bbde55d293c2c1dcfb0732fcbef2c6a9d7ba1c", func := "dynamo/dynamolaw3.TableSays", spec := "tableSays", unfollowed := true, recurses := true, named := ["dynamo/api.ErrShort", "dynamo/api.ErrLong", "dynamo/api.ErrRange", "dynamo/api.ErrTable", "dynamo/api.ErrSum", "dynamo/api.ErrConfig", "dynamo/api.ErrNone"], apart := false, laid := [("dynamo/api.ErrRange", laid_dynamo_api_ErrRange), ("dynamo/api.ErrLong", laid_dynamo_api_ErrLong), ("dynamo/api.ErrShort", laid_dynamo_api_ErrShort), ("dynamo/api.ErrSum", laid_dynamo_api_ErrSum), ("dynamo/api.ErrTable", laid_dynamo_api_ErrTable), ("dynamo/api.ErrConfig", laid_dynamo_api_ErrConfig), ("dynamo/api.ErrNone", laid_dynamo_api_ErrNone)] }
def TableSaysSaid : Prop := tableSaysRow.holds Tryd.pinned (OpenSpec.ofChange tableSaysSpec)

/-- ITS FALSE NEIGHBOUR: 'it returns false'. Refute it at one input. -/
def tableSaysWrong : ChangeSpec := { name := "tableSays", fn := fun _ => fun
  | [d1, d2, d3, d4, d5] => { results := [.lit (.bool false)], args := [d1, d2, d3, d4, d5] }
  | _ => none }
def TableSaysWrongFalsely : Prop := tableSaysRow.holds Tryd.pinned (OpenSpec.ofChange tableSaysWrong)

/-- 'dynamolaw3.TableRises': WHATEVER THE INPUT: true; the input reads as it did. -/
def tableRisesSpec : ChangeSpec := { name := "tableRises", fn := fun _ => fun
  | [d1, d2, d3, d4] => { results := [.lit (.bool true)], args := [d1, d2, d3, d4] }
  | _ => none }
def tableRisesRow : OpenClaim := { program := "ytjmggdccmggboabdoor", sum := "5c30b54b95133b2ad7e9dd7ae0bbde55d293c2c1dcfb0732fcbef2c6a9d7ba1c", func := "dynamo/dynamolaw3.TableRises", spec := "tableRises", unfollowed := true, recurses := true, named := ["dynamo/api.ErrShort", "dynamo/api.ErrLong", "dynamo/api.ErrRange", "dynamo/api.ErrTable"], apart := false, laid := [("dynamo/api.ErrRange", laid_dynamo_api_ErrRange), ("dynamo/api.ErrLong", laid_dynamo_api_ErrLong), ("dynamo/api.ErrShort", laid_dynamo_api_ErrShort), ("dynamo/api.ErrTable", laid_dynamo_api_ErrTable)] }
def TableRisesSaid : Prop := tableRisesRow.holds Tryd.pinned (OpenSpec.ofChange tableRisesSpec)

/-- ITS FALSE NEIGHBOUR: 'it returns false'. Refute it at one input. -/
def tableRisesWrong : ChangeSpec := { name := "tableRises", fn := fun _ => fun
  | [d1, d2, d3, d4] => { results := [.lit (.bool false)], args := [d1, d2, d3, d4] }
  | _ => none }
def TableRisesWrongFalsely : Prop := tableRisesRow.holds Tryd.pinned (OpenSpec.ofChange tableRisesWrong)

/-- 'dynamolaw3.TableLines': WHATEVER THE INPUT: true; the input reads as it did. -/
def tableLinesSpec : ChangeSpec := { name := "tableLines", fn := fun _ => fun
  | [d1, d2, d3, d4, d5] => { results := [.lit (.bool true)], args := [d1, d2, d3, d4, d5] }
  | _ => none }
def tableLinesRow : OpenClaim := { program := "ytjmggdccmggboabdoor", sum := "5c30b54b95133b2ad7e9dd7ae0bbde55d293c2c1dcfb0732fcbef2c6a9d7ba1c", func := "dynamo/dynamolaw3.TableLines", spec := "tableLines", unfollowed := true, recurses := true, named := ["dynamo/api.ErrShort", "dynamo/api.ErrLong", "dynamo/api.ErrRange", "dynamo/api.ErrTable"], apart := false, laid := [("dynamo/api.ErrRange", laid_dynamo_api_ErrRange), ("dynamo/api.ErrLong", laid_dynamo_api_ErrLong), ("dynamo/api.ErrShort", laid_dynamo_api_ErrShort), ("dynamo/api.ErrTable", laid_dynamo_api_ErrTable)] }
def TableLinesSaid : Prop := tableLinesRow.holds Tryd.pinned (OpenSpec.ofChange tableLinesSpec)

/-- ITS FALSE NEIGHBOUR: 'it returns false'. Refute it at one input. -/
def tableLinesWrong : ChangeSpec := { name := "tableLines", fn := fun _ => fun
  | [d1, d2, d3, d4, d5] => { results := [.lit (.bool false)], args := [d1, d2, d3, d4, d5] }
  | _ => none }
def TableLinesWrongFalsely : Prop := tableLinesRow.holds Tryd.pinned (OpenSpec.ofChange tableLinesWrong)

/- THE SECOND FORM. 'bulk': how many values and letters a reading holds, each counted each time it is reached (what is shared counts as often as it is met; a slice's spare places count too). A statement '..UptoSaid' is the law's where the arguments, and the package variables that the reading takes, are together of bulk at most 1048576: NARROWER than '..Said'. Prove '..Said' where nothing that the law and all that it calls make is longer than what came in: it says more and counts as full. Else prove '..UptoSaid'. A law counts once. -/
mutual
def uptoBulk {H : Type} : DataW H → Nat
  | .lit (.string bytes) => bytes.length + 1
  | .lit _ => 1
  | .nil => 1
  | .ptr d => uptoBulk d + 1
  | .slice elems spare => uptoBulkAll elems + uptoBulkAll spare + 1
  | .agg parts => uptoBulkAll parts + 1
  | .iface _ d => uptoBulk d + 1
  | .map entries => uptoBulkEntries entries + 1
  | .held _ => 1
def uptoBulkAll {H : Type} : List (DataW H) → Nat
  | [] => 0
  | d :: r => uptoBulk d + uptoBulkAll r
def uptoBulkEntries {H : Type} : List (Lit × DataW H) → Nat
  | [] => 0
  | x :: r => uptoBulkEntry x + uptoBulkEntries r
def uptoBulkEntry {H : Type} : Lit × DataW H → Nat
  | (.string bytes, d) => bytes.length + uptoBulk d + 1
  | (_, d) => uptoBulk d + 1
 end
def uptoSmall : (H : Type) → List (DataW H) → Bool := fun _ ds => decide (uptoBulkAll ds ≤ 1048576)
def OpenSpec.upto (s : _root_.Go.ChangeSpec) : _root_.Go.OpenSpec := { _root_.Go.OpenSpec.ofChange s with cond := some uptoSmall }

/-- 'dynamolaw21.GraphFeeds', WHERE WHAT IT READS IS OF BULK AT MOST 1048576: true; the input reads as it did. -/
def graphFeedsUptoRow : OpenClaim := { program := "ytjmggdccmggboabdoor", sum := "5c30b54b95133b2ad7e9dd7ae0bbde55d293c2c1dcfb0732fcbef2c6a9d7ba1c", func := "dynamo/dynamolaw21.GraphFeeds", spec := "graphFeeds", named := ["math/bits.deBruijn32tab", "math/bits.deBruijn64tab"], apart := false, laid := [("math/bits.deBruijn32tab", laid_math_bits_deBruijn32tab), ("math/bits.deBruijn64tab", laid_math_bits_deBruijn64tab)], narrowed := true }
def GraphFeedsUptoSaid : Prop := graphFeedsUptoRow.holds Tryd.pinned (OpenSpec.upto graphFeedsSpec)

/-- 'dynamolaw21.GraphSays', WHERE WHAT IT READS IS OF BULK AT MOST 1048576: true; the input reads as it did. -/
def graphSaysUptoRow : OpenClaim := { program := "ytjmggdccmggboabdoor", sum := "5c30b54b95133b2ad7e9dd7ae0bbde55d293c2c1dcfb0732fcbef2c6a9d7ba1c", func := "dynamo/dynamolaw21.GraphSays", spec := "graphSays", named := ["math/bits.deBruijn32tab", "math/bits.deBruijn64tab"], apart := false, laid := [("math/bits.deBruijn32tab", laid_math_bits_deBruijn32tab), ("math/bits.deBruijn64tab", laid_math_bits_deBruijn64tab)], narrowed := true }
def GraphSaysUptoSaid : Prop := graphSaysUptoRow.holds Tryd.pinned (OpenSpec.upto graphSaysSpec)

/-- 'dynamolaw21.GraphJoins', WHERE WHAT IT READS IS OF BULK AT MOST 1048576: true; the input reads as it did. -/
def graphJoinsUptoRow : OpenClaim := { program := "ytjmggdccmggboabdoor", sum := "5c30b54b95133b2ad7e9dd7ae0bbde55d293c2c1dcfb0732fcbef2c6a9d7ba1c", func := "dynamo/dynamolaw21.GraphJoins", spec := "graphJoins", named := ["math/bits.deBruijn32tab", "math/bits.deBruijn64tab"], apart := false, laid := [("math/bits.deBruijn32tab", laid_math_bits_deBruijn32tab), ("math/bits.deBruijn64tab", laid_math_bits_deBruijn64tab)], narrowed := true }
def GraphJoinsUptoSaid : Prop := graphJoinsUptoRow.holds Tryd.pinned (OpenSpec.upto graphJoinsSpec)

/-- 'dynamolaw21.GraphEnds', WHERE WHAT IT READS IS OF BULK AT MOST 1048576: true; the input reads as it did. -/
def graphEndsUptoRow : OpenClaim := { program := "ytjmggdccmggboabdoor", sum := "5c30b54b95133b2ad7e9dd7ae0bbde55d293c2c1dcfb0732fcbef2c6a9d7ba1c", func := "dynamo/dynamolaw21.GraphEnds", spec := "graphEnds", named := ["math/bits.deBruijn32tab", "math/bits.deBruijn64tab"], apart := false, laid := [("math/bits.deBruijn32tab", laid_math_bits_deBruijn32tab), ("math/bits.deBruijn64tab", laid_math_bits_deBruijn64tab)], narrowed := true }
def GraphEndsUptoSaid : Prop := graphEndsUptoRow.holds Tryd.pinned (OpenSpec.upto graphEndsSpec)

/-- 'dynamolaw3.TableWrong', WHERE WHAT IT READS IS OF BULK AT MOST 1048576: true; the input reads as it did. -/
def tableWrongUptoRow : OpenClaim := { program := "ytjmggdccmggboabdoor", sum := "5c30b54b95133b2ad7e9dd7ae0bbde55d293c2c1dcfb0732fcbef2c6a9d7ba1c", func := "dynamo/dynamolaw3.TableWrong", spec := "tableWrong", named := ["dynamo/api.ErrShort", "dynamo/api.ErrLong", "dynamo/api.ErrRange", "dynamo/api.ErrTable", "dynamo/api.ErrSum", "dynamo/api.ErrConfig", "dynamo/api.ErrNone"], apart := false, laid := [("dynamo/api.ErrRange", laid_dynamo_api_ErrRange), ("dynamo/api.ErrLong", laid_dynamo_api_ErrLong), ("dynamo/api.ErrShort", laid_dynamo_api_ErrShort), ("dynamo/api.ErrSum", laid_dynamo_api_ErrSum), ("dynamo/api.ErrTable", laid_dynamo_api_ErrTable), ("dynamo/api.ErrConfig", laid_dynamo_api_ErrConfig), ("dynamo/api.ErrNone", laid_dynamo_api_ErrNone)], narrowed := true }
def TableWrongUptoSaid : Prop := tableWrongUptoRow.holds Tryd.pinned (OpenSpec.upto tableWrongSpec)

/-- 'dynamolaw3.TableSteps', WHERE WHAT IT READS IS OF BULK AT MOST 1048576: true; the input reads as it did. -/
def tableStepsUptoRow : OpenClaim := { program := "ytjmggdccmggboabdoor", sum := "5c30b54b95133b2ad7e9dd7ae0bbde55d293c2c1dcfb0732fcbef2c6a9d7ba1c", func := "dynamo/dynamolaw3.TableSteps", spec := "tableSteps", unfollowed := true, recurses := true, named := ["dynamo/api.ErrShort", "dynamo/api.ErrLong", "dynamo/api.ErrRange", "dynamo/api.ErrTable"], apart := false, laid := [("dynamo/api.ErrRange", laid_dynamo_api_ErrRange), ("dynamo/api.ErrLong", laid_dynamo_api_ErrLong), ("dynamo/api.ErrShort", laid_dynamo_api_ErrShort), ("dynamo/api.ErrTable", laid_dynamo_api_ErrTable)], narrowed := true }
def TableStepsUptoSaid : Prop := tableStepsUptoRow.holds Tryd.pinned (OpenSpec.upto tableStepsSpec)

/-- 'dynamolaw3.TableSays', WHERE WHAT IT READS IS OF BULK AT MOST 1048576: true; the input reads as it did. -/
def tableSaysUptoRow : OpenClaim := { program := "ytjmggdccmggboabdoor", sum := "5c30b54b95133b2ad7e9dd7ae0bbde55d293c2c1dcfb0732fcbef2c6a9d7ba1c", func := "dynamo/dynamolaw3.TableSays", spec := "tableSays", unfollowed := true, recurses := true, named := ["dynamo/api.ErrShort", "dynamo/api.ErrLong", "dynamo/api.ErrRange", "dynamo/api.ErrTable", "dynamo/api.ErrSum", "dynamo/api.ErrConfig", "dynamo/api.ErrNone"], apart := false, laid := [("dynamo/api.ErrRange", laid_dynamo_api_ErrRange), ("dynamo/api.ErrLong", laid_dynamo_api_ErrLong), ("dynamo/api.ErrShort", laid_dynamo_api_ErrShort), ("dynamo/api.ErrSum", laid_dynamo_api_ErrSum), ("dynamo/api.ErrTable", laid_dynamo_api_ErrTable), ("dynamo/api.ErrConfig", laid_dynamo_api_ErrConfig), ("dynamo/api.ErrNone", laid_dynamo_api_ErrNone)], narrowed := true }
def TableSaysUptoSaid : Prop := tableSaysUptoRow.holds Tryd.pinned (OpenSpec.upto tableSaysSpec)

/-- 'dynamolaw3.TableRises', WHERE WHAT IT READS IS OF BULK AT MOST 1048576: true; the input reads as it did. -/
def tableRisesUptoRow : OpenClaim := { program := "ytjmggdccmggboabdoor", sum := "5c30b54b95133b2ad7e9dd7ae0bbde55d293c2c1dcfb0732fcbef2c6a9d7ba1c", func := "dynamo/dynamolaw3.TableRises", spec := "tableRises", unfollowed := true, recurses := true, named := ["dynamo/api.ErrShort", "dynamo/api.ErrLong", "dynamo/api.ErrRange", "dynamo/api.ErrTable"], apart := false, laid := [("dynamo/api.ErrRange", laid_dynamo_api_ErrRange), ("dynamo/api.ErrLong", laid_dynamo_api_ErrLong), ("dynamo/api.ErrShort", laid_dynamo_api_ErrShort), ("dynamo/api.ErrTable", laid_dynamo_api_ErrTable)], narrowed := true }
def TableRisesUptoSaid : Prop := tableRisesUptoRow.holds Tryd.pinned (OpenSpec.upto tableRisesSpec)

/-- 'dynamolaw3.TableLines', WHERE WHAT IT READS IS OF BULK AT MOST 1048576: true; the input reads as it did. -/
def tableLinesUptoRow : OpenClaim := { program := "ytjmggdccmggboabdoor", sum := "5c30b54b95133b2ad7e9dd7ae0bbde55d293c2c1dcfb0732fcbef2c6a9d7ba1c", func := "dynamo/dynamolaw3.TableLines", spec := "tableLines", unfollowed := true, recurses := true, named := ["dynamo/api.ErrShort", "dynamo/api.ErrLong", "dynamo/api.ErrRange", "dynamo/api.ErrTable"], apart := false, laid := [("dynamo/api.ErrRange", laid_dynamo_api_ErrRange), ("dynamo/api.ErrLong", laid_dynamo_api_ErrLong), ("dynamo/api.ErrShort", laid_dynamo_api_ErrShort), ("dynamo/api.ErrTable", laid_dynamo_api_ErrTable)], narrowed := true }
def TableLinesUptoSaid : Prop := tableLinesUptoRow.holds Tryd.pinned (OpenSpec.upto tableLinesSpec)

end Rows
end Go.Proofs.YtjmggdccmggboabDoor
