/-
  NARROWER THAN 'FOR EVERY INPUT', by the rows' own cells (each row's printed sentence says how): TableWrong: laid · TableSteps: laid · TableSays: laid · TableRises: laid · TableLines: laid · SagSays: laid · SagHolds: laid · SagMore: laid · SagFresh: laid · ChooseBest: laid · ChooseStays: laid · ChooseDark: laid · ChooseLess: laid · ChargePlays: laid · ChargeHolds: laid · ChargeKnown: laid · ChargeApart: laid · ShedTrips: laid · ShedKeeps: laid · ShedBacks: laid · ShedRooms: laid · ShedLoads: laid · ShedCharges: laid · ShedSays: laid.
  DERIVED. THE GIVEN ROWS OF THIS SEAT. 24 by the template 'for every input the law returns true; each argument reads behind the call as it read before'; 0 by the template 'total and deterministic' (their statements: YtlhhcongoplfpaaDoorTotals.lean).
  GIVEN WITH THE SEED: the statements are not yours to turn. If you find one false, say at which input.
  Laid BY PROGRAM, IN A SANDBOX (cutbox-rows.mjs): the forced cells as the released guide's own fill.sh prints them over the translation 97ec90e3368f44a9… (all of the seat's roots in one cut). By AI agents, Wed Nov 11 2026. No macro, syntax, notation, axiom, sorry.
-/
import Derived.Test.YtlhhcongoplfpaaDoorChecked
import GoSem.Claim
import GoSem.ClaimJoined
import GoSem.ClaimMapViews
import Derived.JoinedTies
import Derived.KernelRfl
namespace Go.Proofs.YtlhhcongoplfpaaDoor
/- THE CELL 'sum', in the pinned program and in every row, IS THE sha256 OF THE DUMP (.gsa) THAT YtlhhcongoplfpaaDoorProg.lean LOADS. Nothing in Lean hashes anything: it is a label: what it is worth is what the hold of that sum in a sandbox is worth. -/
noncomputable def Tryd.pinned : Pinned := { name := "ytlhhcongoplfpaadoor", sum := "97ec90e3368f44a9d396bf89346df604e3001ae98259aff26b10616593346847", checked := Tryd.checked }
namespace Rows
def none {H : Type} : Left H := { results := [], args := [] }

/- WHAT THE LISTED PACKAGE-LEVEL VARIABLES READ AS WHEN THE CALL BEGINS. Each datum BY PROGRAM (the guide's laid-datum.mjs) off the statement by which the dump's own 'gosem.cut.vars' lays the variable. In a bare row this is a premise. The card (YtlhhcongoplfpaaDoorCards.lean) ties it to the program's text. -/
def laid_dynamo_api_ErrRange {H : Type} : DataW H := .iface "*errors.errorString" (.ptr (.agg [.lit (.string [97, 32, 110, 117, 109, 98, 101, 114, 32, 111, 117, 116, 32, 111, 102, 32, 105, 116, 115, 32, 114, 97, 110, 103, 101])]))
def laid_dynamo_api_ErrLong {H : Type} : DataW H := .iface "*errors.errorString" (.ptr (.agg [.lit (.string [109, 111, 114, 101, 32, 116, 104, 97, 110, 32, 109, 97, 121, 32, 98, 101])]))
def laid_dynamo_api_ErrShort {H : Type} : DataW H := .iface "*errors.errorString" (.ptr (.agg [.lit (.string [108, 101, 115, 115, 32, 116, 104, 97, 110, 32, 104, 97, 115, 32, 116, 111, 32, 98, 101])]))
def laid_dynamo_api_ErrSum {H : Type} : DataW H := .iface "*errors.errorString" (.ptr (.agg [.lit (.string [97, 32, 115, 117, 109, 32, 116, 104, 97, 116, 32, 100, 111, 101, 115, 32, 110, 111, 116, 32, 102, 105, 116])]))
def laid_dynamo_api_ErrTable {H : Type} : DataW H := .iface "*errors.errorString" (.ptr (.agg [.lit (.string [97, 32, 116, 97, 98, 108, 101, 32, 116, 104, 97, 116, 32, 100, 111, 101, 115, 32, 110, 111, 116, 32, 114, 105, 115, 101])]))
def laid_dynamo_api_ErrConfig {H : Type} : DataW H := .iface "*errors.errorString" (.ptr (.agg [.lit (.string [97, 32, 99, 111, 110, 102, 105, 103, 117, 114, 97, 116, 105, 111, 110, 32, 116, 104, 97, 116, 32, 99, 97, 110, 39, 116, 32, 98, 101])]))
def laid_dynamo_api_ErrNone {H : Type} : DataW H := .iface "*errors.errorString" (.ptr (.agg [.lit (.string [110, 111, 32, 114, 101, 99, 111, 114, 100])]))
def laid_math_bits_deBruijn32tab {H : Type} : DataW H := .agg [.lit (.int .u8 0), .lit (.int .u8 1), .lit (.int .u8 28), .lit (.int .u8 2), .lit (.int .u8 29), .lit (.int .u8 14), .lit (.int .u8 24), .lit (.int .u8 3), .lit (.int .u8 30), .lit (.int .u8 22), .lit (.int .u8 20), .lit (.int .u8 15), .lit (.int .u8 25), .lit (.int .u8 17), .lit (.int .u8 4), .lit (.int .u8 8), .lit (.int .u8 31), .lit (.int .u8 27), .lit (.int .u8 13), .lit (.int .u8 23), .lit (.int .u8 21), .lit (.int .u8 19), .lit (.int .u8 16), .lit (.int .u8 7), .lit (.int .u8 26), .lit (.int .u8 12), .lit (.int .u8 18), .lit (.int .u8 6), .lit (.int .u8 11), .lit (.int .u8 5), .lit (.int .u8 10), .lit (.int .u8 9)]
def laid_math_bits_deBruijn64tab {H : Type} : DataW H := .agg [.lit (.int .u8 0), .lit (.int .u8 1), .lit (.int .u8 56), .lit (.int .u8 2), .lit (.int .u8 57), .lit (.int .u8 49), .lit (.int .u8 28), .lit (.int .u8 3), .lit (.int .u8 61), .lit (.int .u8 58), .lit (.int .u8 42), .lit (.int .u8 50), .lit (.int .u8 38), .lit (.int .u8 29), .lit (.int .u8 17), .lit (.int .u8 4), .lit (.int .u8 62), .lit (.int .u8 47), .lit (.int .u8 59), .lit (.int .u8 36), .lit (.int .u8 45), .lit (.int .u8 43), .lit (.int .u8 51), .lit (.int .u8 22), .lit (.int .u8 53), .lit (.int .u8 39), .lit (.int .u8 33), .lit (.int .u8 30), .lit (.int .u8 24), .lit (.int .u8 18), .lit (.int .u8 12), .lit (.int .u8 5), .lit (.int .u8 63), .lit (.int .u8 55), .lit (.int .u8 48), .lit (.int .u8 27), .lit (.int .u8 60), .lit (.int .u8 41), .lit (.int .u8 37), .lit (.int .u8 16), .lit (.int .u8 46), .lit (.int .u8 35), .lit (.int .u8 44), .lit (.int .u8 21), .lit (.int .u8 52), .lit (.int .u8 32), .lit (.int .u8 23), .lit (.int .u8 11), .lit (.int .u8 54), .lit (.int .u8 26), .lit (.int .u8 40), .lit (.int .u8 15), .lit (.int .u8 34), .lit (.int .u8 20), .lit (.int .u8 31), .lit (.int .u8 10), .lit (.int .u8 25), .lit (.int .u8 14), .lit (.int .u8 19), .lit (.int .u8 9), .lit (.int .u8 13), .lit (.int .u8 8), .lit (.int .u8 7), .lit (.int .u8 6)]

/-- 'dynamolaw3.TableWrong': WHATEVER THE INPUT: true; the input reads as it did. -/
def tableWrongSpec : ChangeSpec := { name := "tableWrong", fn := fun _ => fun
  | [d1, d2, d3, d4] => { results := [.lit (.bool true)], args := [d1, d2, d3, d4] }
  | _ => none }
def tableWrongRow : OpenClaim := { program := "ytlhhcongoplfpaadoor", sum := "97ec90e3368f44a9d396bf89346df604e3001ae98259aff26b10616593346847", func := "dynamo/dynamolaw3.TableWrong", spec := "tableWrong", named := ["dynamo/api.ErrShort", "dynamo/api.ErrLong", "dynamo/api.ErrRange", "dynamo/api.ErrTable", "dynamo/api.ErrSum", "dynamo/api.ErrConfig", "dynamo/api.ErrNone"], apart := false, laid := [("dynamo/api.ErrRange", laid_dynamo_api_ErrRange), ("dynamo/api.ErrLong", laid_dynamo_api_ErrLong), ("dynamo/api.ErrShort", laid_dynamo_api_ErrShort), ("dynamo/api.ErrSum", laid_dynamo_api_ErrSum), ("dynamo/api.ErrTable", laid_dynamo_api_ErrTable), ("dynamo/api.ErrConfig", laid_dynamo_api_ErrConfig), ("dynamo/api.ErrNone", laid_dynamo_api_ErrNone)] }
def TableWrongSaid : Prop := tableWrongRow.holds Tryd.pinned (OpenSpec.ofChange tableWrongSpec)

/-- ITS FALSE NEIGHBOUR: 'it returns false'. Refute it at one input. -/
def tableWrongWrong : ChangeSpec := { name := "tableWrong", fn := fun _ => fun
  | [d1, d2, d3, d4] => { results := [.lit (.bool false)], args := [d1, d2, d3, d4] }
  | _ => none }
def TableWrongWrongFalsely : Prop := tableWrongRow.holds Tryd.pinned (OpenSpec.ofChange tableWrongWrong)

/-- 'dynamolaw3.TableSteps': WHATEVER THE INPUT: true; the input reads as it did. -/
def tableStepsSpec : ChangeSpec := { name := "tableSteps", fn := fun _ => fun
  | [d1, d2, d3, d4] => { results := [.lit (.bool true)], args := [d1, d2, d3, d4] }
  | _ => none }
def tableStepsRow : OpenClaim := { program := "ytlhhcongoplfpaadoor", sum := "97ec90e3368f44a9d396bf89346df604e3001ae98259aff26b10616593346847", func := "dynamo/dynamolaw3.TableSteps", spec := "tableSteps", unfollowed := true, recurses := true, named := ["dynamo/api.ErrShort", "dynamo/api.ErrLong", "dynamo/api.ErrRange", "dynamo/api.ErrTable"], apart := false, laid := [("dynamo/api.ErrRange", laid_dynamo_api_ErrRange), ("dynamo/api.ErrLong", laid_dynamo_api_ErrLong), ("dynamo/api.ErrShort", laid_dynamo_api_ErrShort), ("dynamo/api.ErrTable", laid_dynamo_api_ErrTable)] }
def TableStepsSaid : Prop := tableStepsRow.holds Tryd.pinned (OpenSpec.ofChange tableStepsSpec)

/-- ITS FALSE NEIGHBOUR: 'it returns false'. Refute it at one input. -/
def tableStepsWrong : ChangeSpec := { name := "tableSteps", fn := fun _ => fun
  | [d1, d2, d3, d4] => { results := [.lit (.bool false)], args := [d1, d2, d3, d4] }
  | _ => none }
def TableStepsWrongFalsely : Prop := tableStepsRow.holds Tryd.pinned (OpenSpec.ofChange tableStepsWrong)

/-- 'dynamolaw3.TableSays': WHATEVER THE INPUT: true; the input reads as it did. -/
def tableSaysSpec : ChangeSpec := { name := "tableSays", fn := fun _ => fun
  | [d1, d2, d3, d4, d5] => { results := [.lit (.bool true)], args := [d1, d2, d3, d4, d5] }
  | _ => none }
def tableSaysRow : OpenClaim := { program := "ytlhhcongoplfpaadoor", sum := "97ec90e3368f44a9d396bf89346df604e3001ae98259aff26b10616593346847", func := "dynamo/dynamolaw3.TableSays", spec := "tableSays", unfollowed := true, recurses := true, named := ["dynamo/api.ErrShort", "dynamo/api.ErrLong", "dynamo/api.ErrRange", "dynamo/api.ErrTable", "dynamo/api.ErrSum", "dynamo/api.ErrConfig", "dynamo/api.ErrNone"], apart := false, laid := [("dynamo/api.ErrRange", laid_dynamo_api_ErrRange), ("dynamo/api.ErrLong", laid_dynamo_api_ErrLong), ("dynamo/api.ErrShort", laid_dynamo_api_ErrShort), ("dynamo/api.ErrSum", laid_dynamo_api_ErrSum), ("dynamo/api.ErrTable", laid_dynamo_api_ErrTable), ("dynamo/api.ErrConfig", laid_dynamo_api_ErrConfig), ("dynamo/api.ErrNone", laid_dynamo_api_ErrNone)] }
def TableSaysSaid : Prop := tableSaysRow.holds Tryd.pinned (OpenSpec.ofChange tableSaysSpec)

/-- ITS FALSE NEIGHBOUR: 'it returns false'. Refute it at one input. -/
def tableSaysWrong : ChangeSpec := { name := "tableSays", fn := fun _ => fun
  | [d1, d2, d3, d4, d5] => { results := [.lit (.bool false)], args := [d1, d2, d3, d4, d5] }
  | _ => none }
def TableSaysWrongFalsely : Prop := tableSaysRow.holds Tryd.pinned (OpenSpec.ofChange tableSaysWrong)

/-- 'dynamolaw3.TableRises': WHATEVER THE INPUT: true; the input reads as it did. -/
def tableRisesSpec : ChangeSpec := { name := "tableRises", fn := fun _ => fun
  | [d1, d2, d3, d4] => { results := [.lit (.bool true)], args := [d1, d2, d3, d4] }
  | _ => none }
def tableRisesRow : OpenClaim := { program := "ytlhhcongoplfpaadoor", sum := "97ec90e3368f44a9d396bf89346df604e3001ae98259aff26b10616593346847", func := "dynamo/dynamolaw3.TableRises", spec := "tableRises", unfollowed := true, recurses := true, named := ["dynamo/api.ErrShort", "dynamo/api.ErrLong", "dynamo/api.ErrRange", "dynamo/api.ErrTable"], apart := false, laid := [("dynamo/api.ErrRange", laid_dynamo_api_ErrRange), ("dynamo/api.ErrLong", laid_dynamo_api_ErrLong), ("dynamo/api.ErrShort", laid_dynamo_api_ErrShort), ("dynamo/api.ErrTable", laid_dynamo_api_ErrTable)] }
def TableRisesSaid : Prop := tableRisesRow.holds Tryd.pinned (OpenSpec.ofChange tableRisesSpec)

/-- ITS FALSE NEIGHBOUR: 'it returns false'. Refute it at one input. -/
def tableRisesWrong : ChangeSpec := { name := "tableRises", fn := fun _ => fun
  | [d1, d2, d3, d4] => { results := [.lit (.bool false)], args := [d1, d2, d3, d4] }
  | _ => none }
def TableRisesWrongFalsely : Prop := tableRisesRow.holds Tryd.pinned (OpenSpec.ofChange tableRisesWrong)

/-- 'dynamolaw3.TableLines': WHATEVER THE INPUT: true; the input reads as it did. -/
def tableLinesSpec : ChangeSpec := { name := "tableLines", fn := fun _ => fun
  | [d1, d2, d3, d4, d5] => { results := [.lit (.bool true)], args := [d1, d2, d3, d4, d5] }
  | _ => none }
def tableLinesRow : OpenClaim := { program := "ytlhhcongoplfpaadoor", sum := "97ec90e3368f44a9d396bf89346df604e3001ae98259aff26b10616593346847", func := "dynamo/dynamolaw3.TableLines", spec := "tableLines", unfollowed := true, recurses := true, named := ["dynamo/api.ErrShort", "dynamo/api.ErrLong", "dynamo/api.ErrRange", "dynamo/api.ErrTable"], apart := false, laid := [("dynamo/api.ErrRange", laid_dynamo_api_ErrRange), ("dynamo/api.ErrLong", laid_dynamo_api_ErrLong), ("dynamo/api.ErrShort", laid_dynamo_api_ErrShort), ("dynamo/api.ErrTable", laid_dynamo_api_ErrTable)] }
def TableLinesSaid : Prop := tableLinesRow.holds Tryd.pinned (OpenSpec.ofChange tableLinesSpec)

/-- ITS FALSE NEIGHBOUR: 'it returns false'. Refute it at one input. -/
def tableLinesWrong : ChangeSpec := { name := "tableLines", fn := fun _ => fun
  | [d1, d2, d3, d4, d5] => { results := [.lit (.bool false)], args := [d1, d2, d3, d4, d5] }
  | _ => none }
def TableLinesWrongFalsely : Prop := tableLinesRow.holds Tryd.pinned (OpenSpec.ofChange tableLinesWrong)

/-- 'dynamolaw19.SagSays': WHATEVER THE INPUT: true; the input reads as it did. -/
def sagSaysSpec : ChangeSpec := { name := "sagSays", fn := fun _ => fun
  | [d1, d2, d3, d4, d5] => { results := [.lit (.bool true)], args := [d1, d2, d3, d4, d5] }
  | _ => none }
def sagSaysRow : OpenClaim := { program := "ytlhhcongoplfpaadoor", sum := "97ec90e3368f44a9d396bf89346df604e3001ae98259aff26b10616593346847", func := "dynamo/dynamolaw19.SagSays", spec := "sagSays", unfollowed := true, recurses := true, named := ["dynamo/api.ErrShort", "dynamo/api.ErrLong", "dynamo/api.ErrRange", "dynamo/api.ErrTable"], apart := false, laid := [("dynamo/api.ErrRange", laid_dynamo_api_ErrRange), ("dynamo/api.ErrLong", laid_dynamo_api_ErrLong), ("dynamo/api.ErrShort", laid_dynamo_api_ErrShort), ("dynamo/api.ErrTable", laid_dynamo_api_ErrTable)] }
def SagSaysSaid : Prop := sagSaysRow.holds Tryd.pinned (OpenSpec.ofChange sagSaysSpec)

/-- ITS FALSE NEIGHBOUR: 'it returns false'. Refute it at one input. -/
def sagSaysWrong : ChangeSpec := { name := "sagSays", fn := fun _ => fun
  | [d1, d2, d3, d4, d5] => { results := [.lit (.bool false)], args := [d1, d2, d3, d4, d5] }
  | _ => none }
def SagSaysWrongFalsely : Prop := sagSaysRow.holds Tryd.pinned (OpenSpec.ofChange sagSaysWrong)

/-- 'dynamolaw19.SagHolds': WHATEVER THE INPUT: true; the input reads as it did. -/
def sagHoldsSpec : ChangeSpec := { name := "sagHolds", fn := fun _ => fun
  | [d1, d2, d3, d4, d5, d6] => { results := [.lit (.bool true)], args := [d1, d2, d3, d4, d5, d6] }
  | _ => none }
def sagHoldsRow : OpenClaim := { program := "ytlhhcongoplfpaadoor", sum := "97ec90e3368f44a9d396bf89346df604e3001ae98259aff26b10616593346847", func := "dynamo/dynamolaw19.SagHolds", spec := "sagHolds", unfollowed := true, recurses := true, named := ["dynamo/api.ErrShort", "dynamo/api.ErrLong", "dynamo/api.ErrRange", "dynamo/api.ErrTable"], apart := false, laid := [("dynamo/api.ErrRange", laid_dynamo_api_ErrRange), ("dynamo/api.ErrLong", laid_dynamo_api_ErrLong), ("dynamo/api.ErrShort", laid_dynamo_api_ErrShort), ("dynamo/api.ErrTable", laid_dynamo_api_ErrTable)] }
def SagHoldsSaid : Prop := sagHoldsRow.holds Tryd.pinned (OpenSpec.ofChange sagHoldsSpec)

/-- ITS FALSE NEIGHBOUR: 'it returns false'. Refute it at one input. -/
def sagHoldsWrong : ChangeSpec := { name := "sagHolds", fn := fun _ => fun
  | [d1, d2, d3, d4, d5, d6] => { results := [.lit (.bool false)], args := [d1, d2, d3, d4, d5, d6] }
  | _ => none }
def SagHoldsWrongFalsely : Prop := sagHoldsRow.holds Tryd.pinned (OpenSpec.ofChange sagHoldsWrong)

/-- 'dynamolaw19.SagMore': WHATEVER THE INPUT: true; the input reads as it did. -/
def sagMoreSpec : ChangeSpec := { name := "sagMore", fn := fun _ => fun
  | [d1, d2, d3, d4, d5, d6] => { results := [.lit (.bool true)], args := [d1, d2, d3, d4, d5, d6] }
  | _ => none }
def sagMoreRow : OpenClaim := { program := "ytlhhcongoplfpaadoor", sum := "97ec90e3368f44a9d396bf89346df604e3001ae98259aff26b10616593346847", func := "dynamo/dynamolaw19.SagMore", spec := "sagMore", unfollowed := true, recurses := true, named := ["dynamo/api.ErrShort", "dynamo/api.ErrLong", "dynamo/api.ErrRange", "dynamo/api.ErrTable"], apart := false, laid := [("dynamo/api.ErrRange", laid_dynamo_api_ErrRange), ("dynamo/api.ErrLong", laid_dynamo_api_ErrLong), ("dynamo/api.ErrShort", laid_dynamo_api_ErrShort), ("dynamo/api.ErrTable", laid_dynamo_api_ErrTable)] }
def SagMoreSaid : Prop := sagMoreRow.holds Tryd.pinned (OpenSpec.ofChange sagMoreSpec)

/-- ITS FALSE NEIGHBOUR: 'it returns false'. Refute it at one input. -/
def sagMoreWrong : ChangeSpec := { name := "sagMore", fn := fun _ => fun
  | [d1, d2, d3, d4, d5, d6] => { results := [.lit (.bool false)], args := [d1, d2, d3, d4, d5, d6] }
  | _ => none }
def SagMoreWrongFalsely : Prop := sagMoreRow.holds Tryd.pinned (OpenSpec.ofChange sagMoreWrong)

/-- 'dynamolaw19.SagFresh': WHATEVER THE INPUT: true; the input reads as it did. -/
def sagFreshSpec : ChangeSpec := { name := "sagFresh", fn := fun _ => fun
  | [d1, d2, d3, d4] => { results := [.lit (.bool true)], args := [d1, d2, d3, d4] }
  | _ => none }
def sagFreshRow : OpenClaim := { program := "ytlhhcongoplfpaadoor", sum := "97ec90e3368f44a9d396bf89346df604e3001ae98259aff26b10616593346847", func := "dynamo/dynamolaw19.SagFresh", spec := "sagFresh", unfollowed := true, recurses := true, named := ["dynamo/api.ErrShort", "dynamo/api.ErrLong", "dynamo/api.ErrRange", "dynamo/api.ErrTable"], apart := false, laid := [("dynamo/api.ErrRange", laid_dynamo_api_ErrRange), ("dynamo/api.ErrLong", laid_dynamo_api_ErrLong), ("dynamo/api.ErrShort", laid_dynamo_api_ErrShort), ("dynamo/api.ErrTable", laid_dynamo_api_ErrTable)] }
def SagFreshSaid : Prop := sagFreshRow.holds Tryd.pinned (OpenSpec.ofChange sagFreshSpec)

/-- ITS FALSE NEIGHBOUR: 'it returns false'. Refute it at one input. -/
def sagFreshWrong : ChangeSpec := { name := "sagFresh", fn := fun _ => fun
  | [d1, d2, d3, d4] => { results := [.lit (.bool false)], args := [d1, d2, d3, d4] }
  | _ => none }
def SagFreshWrongFalsely : Prop := sagFreshRow.holds Tryd.pinned (OpenSpec.ofChange sagFreshWrong)

/-- 'dynamolaw22.ChooseBest': WHATEVER THE INPUT: true; the input reads as it did. -/
def chooseBestSpec : ChangeSpec := { name := "chooseBest", fn := fun _ => fun
  | [d1, d2] => { results := [.lit (.bool true)], args := [d1, d2] }
  | _ => none }
def chooseBestRow : OpenClaim := { program := "ytlhhcongoplfpaadoor", sum := "97ec90e3368f44a9d396bf89346df604e3001ae98259aff26b10616593346847", func := "dynamo/dynamolaw22.ChooseBest", spec := "chooseBest", named := ["math/bits.deBruijn32tab", "math/bits.deBruijn64tab"], apart := false, laid := [("math/bits.deBruijn32tab", laid_math_bits_deBruijn32tab), ("math/bits.deBruijn64tab", laid_math_bits_deBruijn64tab)] }
def ChooseBestSaid : Prop := chooseBestRow.holds Tryd.pinned (OpenSpec.ofChange chooseBestSpec)

/-- ITS FALSE NEIGHBOUR: 'it returns false'. Refute it at one input. -/
def chooseBestWrong : ChangeSpec := { name := "chooseBest", fn := fun _ => fun
  | [d1, d2] => { results := [.lit (.bool false)], args := [d1, d2] }
  | _ => none }
def ChooseBestWrongFalsely : Prop := chooseBestRow.holds Tryd.pinned (OpenSpec.ofChange chooseBestWrong)

/-- 'dynamolaw22.ChooseStays': WHATEVER THE INPUT: true; the input reads as it did. -/
def chooseStaysSpec : ChangeSpec := { name := "chooseStays", fn := fun _ => fun
  | [d] => { results := [.lit (.bool true)], args := [d] }
  | _ => none }
def chooseStaysRow : OpenClaim := { program := "ytlhhcongoplfpaadoor", sum := "97ec90e3368f44a9d396bf89346df604e3001ae98259aff26b10616593346847", func := "dynamo/dynamolaw22.ChooseStays", spec := "chooseStays", named := ["math/bits.deBruijn32tab", "math/bits.deBruijn64tab"], apart := false, laid := [("math/bits.deBruijn32tab", laid_math_bits_deBruijn32tab), ("math/bits.deBruijn64tab", laid_math_bits_deBruijn64tab)] }
def ChooseStaysSaid : Prop := chooseStaysRow.holds Tryd.pinned (OpenSpec.ofChange chooseStaysSpec)

/-- ITS FALSE NEIGHBOUR: 'it returns false'. Refute it at one input. -/
def chooseStaysWrong : ChangeSpec := { name := "chooseStays", fn := fun _ => fun
  | [d] => { results := [.lit (.bool false)], args := [d] }
  | _ => none }
def ChooseStaysWrongFalsely : Prop := chooseStaysRow.holds Tryd.pinned (OpenSpec.ofChange chooseStaysWrong)

/-- 'dynamolaw22.ChooseDark': WHATEVER THE INPUT: true; the input reads as it did. -/
def chooseDarkSpec : ChangeSpec := { name := "chooseDark", fn := fun _ => fun
  | [d] => { results := [.lit (.bool true)], args := [d] }
  | _ => none }
def chooseDarkRow : OpenClaim := { program := "ytlhhcongoplfpaadoor", sum := "97ec90e3368f44a9d396bf89346df604e3001ae98259aff26b10616593346847", func := "dynamo/dynamolaw22.ChooseDark", spec := "chooseDark", named := ["math/bits.deBruijn32tab", "math/bits.deBruijn64tab"], apart := false, laid := [("math/bits.deBruijn32tab", laid_math_bits_deBruijn32tab), ("math/bits.deBruijn64tab", laid_math_bits_deBruijn64tab)] }
def ChooseDarkSaid : Prop := chooseDarkRow.holds Tryd.pinned (OpenSpec.ofChange chooseDarkSpec)

/-- ITS FALSE NEIGHBOUR: 'it returns false'. Refute it at one input. -/
def chooseDarkWrong : ChangeSpec := { name := "chooseDark", fn := fun _ => fun
  | [d] => { results := [.lit (.bool false)], args := [d] }
  | _ => none }
def ChooseDarkWrongFalsely : Prop := chooseDarkRow.holds Tryd.pinned (OpenSpec.ofChange chooseDarkWrong)

/-- 'dynamolaw22.ChooseLess': WHATEVER THE INPUT: true; the input reads as it did. -/
def chooseLessSpec : ChangeSpec := { name := "chooseLess", fn := fun _ => fun
  | [d1, d2, d3, d4] => { results := [.lit (.bool true)], args := [d1, d2, d3, d4] }
  | _ => none }
def chooseLessRow : OpenClaim := { program := "ytlhhcongoplfpaadoor", sum := "97ec90e3368f44a9d396bf89346df604e3001ae98259aff26b10616593346847", func := "dynamo/dynamolaw22.ChooseLess", spec := "chooseLess", named := ["math/bits.deBruijn32tab", "math/bits.deBruijn64tab"], apart := false, laid := [("math/bits.deBruijn32tab", laid_math_bits_deBruijn32tab), ("math/bits.deBruijn64tab", laid_math_bits_deBruijn64tab)] }
def ChooseLessSaid : Prop := chooseLessRow.holds Tryd.pinned (OpenSpec.ofChange chooseLessSpec)

/-- ITS FALSE NEIGHBOUR: 'it returns false'. Refute it at one input. -/
def chooseLessWrong : ChangeSpec := { name := "chooseLess", fn := fun _ => fun
  | [d1, d2, d3, d4] => { results := [.lit (.bool false)], args := [d1, d2, d3, d4] }
  | _ => none }
def ChooseLessWrongFalsely : Prop := chooseLessRow.holds Tryd.pinned (OpenSpec.ofChange chooseLessWrong)

/-- 'dynamolaw20.ChargePlays': WHATEVER THE INPUT: true; the input reads as it did. -/
def chargePlaysSpec : ChangeSpec := { name := "chargePlays", fn := fun _ => fun
  | [d1, d2, d3, d4, d5, d6] => { results := [.lit (.bool true)], args := [d1, d2, d3, d4, d5, d6] }
  | _ => none }
def chargePlaysRow : OpenClaim := { program := "ytlhhcongoplfpaadoor", sum := "97ec90e3368f44a9d396bf89346df604e3001ae98259aff26b10616593346847", func := "dynamo/dynamolaw20.ChargePlays", spec := "chargePlays", unfollowed := true, recurses := true, named := ["dynamo/api.ErrShort", "dynamo/api.ErrLong", "dynamo/api.ErrRange", "dynamo/api.ErrTable"], apart := false, laid := [("dynamo/api.ErrRange", laid_dynamo_api_ErrRange), ("dynamo/api.ErrLong", laid_dynamo_api_ErrLong), ("dynamo/api.ErrShort", laid_dynamo_api_ErrShort), ("dynamo/api.ErrTable", laid_dynamo_api_ErrTable)] }
def ChargePlaysSaid : Prop := chargePlaysRow.holds Tryd.pinned (OpenSpec.ofChange chargePlaysSpec)

/-- ITS FALSE NEIGHBOUR: 'it returns false'. Refute it at one input. -/
def chargePlaysWrong : ChangeSpec := { name := "chargePlays", fn := fun _ => fun
  | [d1, d2, d3, d4, d5, d6] => { results := [.lit (.bool false)], args := [d1, d2, d3, d4, d5, d6] }
  | _ => none }
def ChargePlaysWrongFalsely : Prop := chargePlaysRow.holds Tryd.pinned (OpenSpec.ofChange chargePlaysWrong)

/-- 'dynamolaw20.ChargeHolds': WHATEVER THE INPUT: true; the input reads as it did. -/
def chargeHoldsSpec : ChangeSpec := { name := "chargeHolds", fn := fun _ => fun
  | [d1, d2, d3, d4, d5, d6, d7, d8] => { results := [.lit (.bool true)], args := [d1, d2, d3, d4, d5, d6, d7, d8] }
  | _ => none }
def chargeHoldsRow : OpenClaim := { program := "ytlhhcongoplfpaadoor", sum := "97ec90e3368f44a9d396bf89346df604e3001ae98259aff26b10616593346847", func := "dynamo/dynamolaw20.ChargeHolds", spec := "chargeHolds", unfollowed := true, recurses := true, named := ["dynamo/api.ErrShort", "dynamo/api.ErrLong", "dynamo/api.ErrRange", "dynamo/api.ErrTable"], apart := false, laid := [("dynamo/api.ErrRange", laid_dynamo_api_ErrRange), ("dynamo/api.ErrLong", laid_dynamo_api_ErrLong), ("dynamo/api.ErrShort", laid_dynamo_api_ErrShort), ("dynamo/api.ErrTable", laid_dynamo_api_ErrTable)] }
def ChargeHoldsSaid : Prop := chargeHoldsRow.holds Tryd.pinned (OpenSpec.ofChange chargeHoldsSpec)

/-- ITS FALSE NEIGHBOUR: 'it returns false'. Refute it at one input. -/
def chargeHoldsWrong : ChangeSpec := { name := "chargeHolds", fn := fun _ => fun
  | [d1, d2, d3, d4, d5, d6, d7, d8] => { results := [.lit (.bool false)], args := [d1, d2, d3, d4, d5, d6, d7, d8] }
  | _ => none }
def ChargeHoldsWrongFalsely : Prop := chargeHoldsRow.holds Tryd.pinned (OpenSpec.ofChange chargeHoldsWrong)

/-- 'dynamolaw20.ChargeKnown': WHATEVER THE INPUT: true; the input reads as it did. -/
def chargeKnownSpec : ChangeSpec := { name := "chargeKnown", fn := fun _ => fun
  | [d1, d2, d3] => { results := [.lit (.bool true)], args := [d1, d2, d3] }
  | _ => none }
def chargeKnownRow : OpenClaim := { program := "ytlhhcongoplfpaadoor", sum := "97ec90e3368f44a9d396bf89346df604e3001ae98259aff26b10616593346847", func := "dynamo/dynamolaw20.ChargeKnown", spec := "chargeKnown", unfollowed := true, recurses := true, named := ["dynamo/api.ErrShort", "dynamo/api.ErrLong", "dynamo/api.ErrRange", "dynamo/api.ErrTable"], apart := false, laid := [("dynamo/api.ErrRange", laid_dynamo_api_ErrRange), ("dynamo/api.ErrLong", laid_dynamo_api_ErrLong), ("dynamo/api.ErrShort", laid_dynamo_api_ErrShort), ("dynamo/api.ErrTable", laid_dynamo_api_ErrTable)] }
def ChargeKnownSaid : Prop := chargeKnownRow.holds Tryd.pinned (OpenSpec.ofChange chargeKnownSpec)

/-- ITS FALSE NEIGHBOUR: 'it returns false'. Refute it at one input. -/
def chargeKnownWrong : ChangeSpec := { name := "chargeKnown", fn := fun _ => fun
  | [d1, d2, d3] => { results := [.lit (.bool false)], args := [d1, d2, d3] }
  | _ => none }
def ChargeKnownWrongFalsely : Prop := chargeKnownRow.holds Tryd.pinned (OpenSpec.ofChange chargeKnownWrong)

/-- 'dynamolaw20.ChargeApart': WHATEVER THE INPUT: true; the input reads as it did. -/
def chargeApartSpec : ChangeSpec := { name := "chargeApart", fn := fun _ => fun
  | [d1, d2, d3, d4] => { results := [.lit (.bool true)], args := [d1, d2, d3, d4] }
  | _ => none }
def chargeApartRow : OpenClaim := { program := "ytlhhcongoplfpaadoor", sum := "97ec90e3368f44a9d396bf89346df604e3001ae98259aff26b10616593346847", func := "dynamo/dynamolaw20.ChargeApart", spec := "chargeApart", unfollowed := true, recurses := true, named := ["dynamo/api.ErrShort", "dynamo/api.ErrLong", "dynamo/api.ErrRange", "dynamo/api.ErrTable"], apart := false, laid := [("dynamo/api.ErrRange", laid_dynamo_api_ErrRange), ("dynamo/api.ErrLong", laid_dynamo_api_ErrLong), ("dynamo/api.ErrShort", laid_dynamo_api_ErrShort), ("dynamo/api.ErrTable", laid_dynamo_api_ErrTable)] }
def ChargeApartSaid : Prop := chargeApartRow.holds Tryd.pinned (OpenSpec.ofChange chargeApartSpec)

/-- ITS FALSE NEIGHBOUR: 'it returns false'. Refute it at one input. -/
def chargeApartWrong : ChangeSpec := { name := "chargeApart", fn := fun _ => fun
  | [d1, d2, d3, d4] => { results := [.lit (.bool false)], args := [d1, d2, d3, d4] }
  | _ => none }
def ChargeApartWrongFalsely : Prop := chargeApartRow.holds Tryd.pinned (OpenSpec.ofChange chargeApartWrong)

/-- 'dynamolaw25.ShedTrips': WHATEVER THE INPUT: true; the input reads as it did. -/
def shedTripsSpec : ChangeSpec := { name := "shedTrips", fn := fun _ => fun
  | [d1, d2, d3, d4, d5] => { results := [.lit (.bool true)], args := [d1, d2, d3, d4, d5] }
  | _ => none }
def shedTripsRow : OpenClaim := { program := "ytlhhcongoplfpaadoor", sum := "97ec90e3368f44a9d396bf89346df604e3001ae98259aff26b10616593346847", func := "dynamo/dynamolaw25.ShedTrips", spec := "shedTrips", unfollowed := true, recurses := true, named := ["math/bits.deBruijn32tab", "math/bits.deBruijn64tab"], apart := false, laid := [("math/bits.deBruijn32tab", laid_math_bits_deBruijn32tab), ("math/bits.deBruijn64tab", laid_math_bits_deBruijn64tab)] }
def ShedTripsSaid : Prop := shedTripsRow.holds Tryd.pinned (OpenSpec.ofChange shedTripsSpec)

/-- ITS FALSE NEIGHBOUR: 'it returns false'. Refute it at one input. -/
def shedTripsWrong : ChangeSpec := { name := "shedTrips", fn := fun _ => fun
  | [d1, d2, d3, d4, d5] => { results := [.lit (.bool false)], args := [d1, d2, d3, d4, d5] }
  | _ => none }
def ShedTripsWrongFalsely : Prop := shedTripsRow.holds Tryd.pinned (OpenSpec.ofChange shedTripsWrong)

/-- 'dynamolaw25.ShedKeeps': WHATEVER THE INPUT: true; the input reads as it did. -/
def shedKeepsSpec : ChangeSpec := { name := "shedKeeps", fn := fun _ => fun
  | [d1, d2, d3, d4] => { results := [.lit (.bool true)], args := [d1, d2, d3, d4] }
  | _ => none }
def shedKeepsRow : OpenClaim := { program := "ytlhhcongoplfpaadoor", sum := "97ec90e3368f44a9d396bf89346df604e3001ae98259aff26b10616593346847", func := "dynamo/dynamolaw25.ShedKeeps", spec := "shedKeeps", unfollowed := true, recurses := true, named := ["math/bits.deBruijn32tab", "math/bits.deBruijn64tab"], apart := false, laid := [("math/bits.deBruijn32tab", laid_math_bits_deBruijn32tab), ("math/bits.deBruijn64tab", laid_math_bits_deBruijn64tab)] }
def ShedKeepsSaid : Prop := shedKeepsRow.holds Tryd.pinned (OpenSpec.ofChange shedKeepsSpec)

/-- ITS FALSE NEIGHBOUR: 'it returns false'. Refute it at one input. -/
def shedKeepsWrong : ChangeSpec := { name := "shedKeeps", fn := fun _ => fun
  | [d1, d2, d3, d4] => { results := [.lit (.bool false)], args := [d1, d2, d3, d4] }
  | _ => none }
def ShedKeepsWrongFalsely : Prop := shedKeepsRow.holds Tryd.pinned (OpenSpec.ofChange shedKeepsWrong)

/-- 'dynamolaw25.ShedBacks': WHATEVER THE INPUT: true; the input reads as it did. -/
def shedBacksSpec : ChangeSpec := { name := "shedBacks", fn := fun _ => fun
  | [d1, d2, d3, d4, d5] => { results := [.lit (.bool true)], args := [d1, d2, d3, d4, d5] }
  | _ => none }
def shedBacksRow : OpenClaim := { program := "ytlhhcongoplfpaadoor", sum := "97ec90e3368f44a9d396bf89346df604e3001ae98259aff26b10616593346847", func := "dynamo/dynamolaw25.ShedBacks", spec := "shedBacks", unfollowed := true, recurses := true, named := ["math/bits.deBruijn32tab", "math/bits.deBruijn64tab"], apart := false, laid := [("math/bits.deBruijn32tab", laid_math_bits_deBruijn32tab), ("math/bits.deBruijn64tab", laid_math_bits_deBruijn64tab)] }
def ShedBacksSaid : Prop := shedBacksRow.holds Tryd.pinned (OpenSpec.ofChange shedBacksSpec)

/-- ITS FALSE NEIGHBOUR: 'it returns false'. Refute it at one input. -/
def shedBacksWrong : ChangeSpec := { name := "shedBacks", fn := fun _ => fun
  | [d1, d2, d3, d4, d5] => { results := [.lit (.bool false)], args := [d1, d2, d3, d4, d5] }
  | _ => none }
def ShedBacksWrongFalsely : Prop := shedBacksRow.holds Tryd.pinned (OpenSpec.ofChange shedBacksWrong)

/-- 'dynamolaw25.ShedRooms': WHATEVER THE INPUT: true; the input reads as it did. -/
def shedRoomsSpec : ChangeSpec := { name := "shedRooms", fn := fun _ => fun
  | [d1, d2, d3, d4, d5, d6] => { results := [.lit (.bool true)], args := [d1, d2, d3, d4, d5, d6] }
  | _ => none }
def shedRoomsRow : OpenClaim := { program := "ytlhhcongoplfpaadoor", sum := "97ec90e3368f44a9d396bf89346df604e3001ae98259aff26b10616593346847", func := "dynamo/dynamolaw25.ShedRooms", spec := "shedRooms", unfollowed := true, recurses := true, named := ["math/bits.deBruijn32tab", "math/bits.deBruijn64tab"], apart := false, laid := [("math/bits.deBruijn32tab", laid_math_bits_deBruijn32tab), ("math/bits.deBruijn64tab", laid_math_bits_deBruijn64tab)] }
def ShedRoomsSaid : Prop := shedRoomsRow.holds Tryd.pinned (OpenSpec.ofChange shedRoomsSpec)

/-- ITS FALSE NEIGHBOUR: 'it returns false'. Refute it at one input. -/
def shedRoomsWrong : ChangeSpec := { name := "shedRooms", fn := fun _ => fun
  | [d1, d2, d3, d4, d5, d6] => { results := [.lit (.bool false)], args := [d1, d2, d3, d4, d5, d6] }
  | _ => none }
def ShedRoomsWrongFalsely : Prop := shedRoomsRow.holds Tryd.pinned (OpenSpec.ofChange shedRoomsWrong)

/-- 'dynamolaw25.ShedLoads': WHATEVER THE INPUT: true; the input reads as it did. -/
def shedLoadsSpec : ChangeSpec := { name := "shedLoads", fn := fun _ => fun
  | [d1, d2, d3, d4, d5] => { results := [.lit (.bool true)], args := [d1, d2, d3, d4, d5] }
  | _ => none }
def shedLoadsRow : OpenClaim := { program := "ytlhhcongoplfpaadoor", sum := "97ec90e3368f44a9d396bf89346df604e3001ae98259aff26b10616593346847", func := "dynamo/dynamolaw25.ShedLoads", spec := "shedLoads", unfollowed := true, recurses := true, named := ["math/bits.deBruijn32tab", "math/bits.deBruijn64tab"], apart := false, laid := [("math/bits.deBruijn32tab", laid_math_bits_deBruijn32tab), ("math/bits.deBruijn64tab", laid_math_bits_deBruijn64tab)] }
def ShedLoadsSaid : Prop := shedLoadsRow.holds Tryd.pinned (OpenSpec.ofChange shedLoadsSpec)

/-- ITS FALSE NEIGHBOUR: 'it returns false'. Refute it at one input. -/
def shedLoadsWrong : ChangeSpec := { name := "shedLoads", fn := fun _ => fun
  | [d1, d2, d3, d4, d5] => { results := [.lit (.bool false)], args := [d1, d2, d3, d4, d5] }
  | _ => none }
def ShedLoadsWrongFalsely : Prop := shedLoadsRow.holds Tryd.pinned (OpenSpec.ofChange shedLoadsWrong)

/-- 'dynamolaw25.ShedCharges': WHATEVER THE INPUT: true; the input reads as it did. -/
def shedChargesSpec : ChangeSpec := { name := "shedCharges", fn := fun _ => fun
  | [d1, d2, d3, d4] => { results := [.lit (.bool true)], args := [d1, d2, d3, d4] }
  | _ => none }
def shedChargesRow : OpenClaim := { program := "ytlhhcongoplfpaadoor", sum := "97ec90e3368f44a9d396bf89346df604e3001ae98259aff26b10616593346847", func := "dynamo/dynamolaw25.ShedCharges", spec := "shedCharges", unfollowed := true, recurses := true, named := ["math/bits.deBruijn32tab", "math/bits.deBruijn64tab"], apart := false, laid := [("math/bits.deBruijn32tab", laid_math_bits_deBruijn32tab), ("math/bits.deBruijn64tab", laid_math_bits_deBruijn64tab)] }
def ShedChargesSaid : Prop := shedChargesRow.holds Tryd.pinned (OpenSpec.ofChange shedChargesSpec)

/-- ITS FALSE NEIGHBOUR: 'it returns false'. Refute it at one input. -/
def shedChargesWrong : ChangeSpec := { name := "shedCharges", fn := fun _ => fun
  | [d1, d2, d3, d4] => { results := [.lit (.bool false)], args := [d1, d2, d3, d4] }
  | _ => none }
def ShedChargesWrongFalsely : Prop := shedChargesRow.holds Tryd.pinned (OpenSpec.ofChange shedChargesWrong)

/-- 'dynamolaw25.ShedSays': WHATEVER THE INPUT: true; the input reads as it did. -/
def shedSaysSpec : ChangeSpec := { name := "shedSays", fn := fun _ => fun
  | [d1, d2, d3, d4, d5, d6, d7, d8, d9, d10, d11] => { results := [.lit (.bool true)], args := [d1, d2, d3, d4, d5, d6, d7, d8, d9, d10, d11] }
  | _ => none }
def shedSaysRow : OpenClaim := { program := "ytlhhcongoplfpaadoor", sum := "97ec90e3368f44a9d396bf89346df604e3001ae98259aff26b10616593346847", func := "dynamo/dynamolaw25.ShedSays", spec := "shedSays", unfollowed := true, recurses := true, named := ["math/bits.deBruijn32tab", "math/bits.deBruijn64tab"], apart := false, laid := [("math/bits.deBruijn32tab", laid_math_bits_deBruijn32tab), ("math/bits.deBruijn64tab", laid_math_bits_deBruijn64tab)] }
def ShedSaysSaid : Prop := shedSaysRow.holds Tryd.pinned (OpenSpec.ofChange shedSaysSpec)

/-- ITS FALSE NEIGHBOUR: 'it returns false'. Refute it at one input. -/
def shedSaysWrong : ChangeSpec := { name := "shedSays", fn := fun _ => fun
  | [d1, d2, d3, d4, d5, d6, d7, d8, d9, d10, d11] => { results := [.lit (.bool false)], args := [d1, d2, d3, d4, d5, d6, d7, d8, d9, d10, d11] }
  | _ => none }
def ShedSaysWrongFalsely : Prop := shedSaysRow.holds Tryd.pinned (OpenSpec.ofChange shedSaysWrong)

/- THE SECOND FORM. 'bulk': how many values and letters a reading holds, each counted each time it is reached (what is shared counts as often as it is met; a slice's spare places count too). A statement '..UptoSaid' is the law's where the arguments, and the package variables that the reading takes, are together of bulk at most 1048576: NARROWER than '..Said'. Prove '..Said' where nothing that the law and all that it calls make is longer than what came in: it says more and counts as full. Else prove '..UptoSaid'. A law counts once. -/
mutual
def uptoBulk {H : Type} : DataW H → Nat
  | .lit (.string bytes) => bytes.length + 1
  | .lit _ => 1
  | .nil => 1
  | .ptr d => uptoBulk d + 1
  | .slice elems spare => uptoBulkAll elems + uptoBulkAll spare + 1
  | .agg parts => uptoBulkAll parts + 1
  | .iface _ d => uptoBulk d + 1
  | .map entries => uptoBulkEntries entries + 1
  | .held _ => 1
def uptoBulkAll {H : Type} : List (DataW H) → Nat
  | [] => 0
  | d :: r => uptoBulk d + uptoBulkAll r
def uptoBulkEntries {H : Type} : List (Lit × DataW H) → Nat
  | [] => 0
  | x :: r => uptoBulkEntry x + uptoBulkEntries r
def uptoBulkEntry {H : Type} : Lit × DataW H → Nat
  | (.string bytes, d) => bytes.length + uptoBulk d + 1
  | (_, d) => uptoBulk d + 1
 end
def uptoSmall : (H : Type) → List (DataW H) → Bool := fun _ ds => decide (uptoBulkAll ds ≤ 1048576)
def OpenSpec.upto (s : _root_.Go.ChangeSpec) : _root_.Go.OpenSpec := { _root_.Go.OpenSpec.ofChange s with cond := some uptoSmall }

/-- 'dynamolaw3.TableWrong', WHERE WHAT IT READS IS OF BULK AT MOST 1048576: true; the input reads as it did. -/
def tableWrongUptoRow : OpenClaim := { program := "ytlhhcongoplfpaadoor", sum := "97ec90e3368f44a9d396bf89346df604e3001ae98259aff26b10616593346847", func := "dynamo/dynamolaw3.TableWrong", spec := "tableWrong", named := ["dynamo/api.ErrShort", "dynamo/api.ErrLong", "dynamo/api.ErrRange", "dynamo/api.ErrTable", "dynamo/api.ErrSum", "dynamo/api.ErrConfig", "dynamo/api.ErrNone"], apart := false, laid := [("dynamo/api.ErrRange", laid_dynamo_api_ErrRange), ("dynamo/api.ErrLong", laid_dynamo_api_ErrLong), ("dynamo/api.ErrShort", laid_dynamo_api_ErrShort), ("dynamo/api.ErrSum", laid_dynamo_api_ErrSum), ("dynamo/api.ErrTable", laid_dynamo_api_ErrTable), ("dynamo/api.ErrConfig", laid_dynamo_api_ErrConfig), ("dynamo/api.ErrNone", laid_dynamo_api_ErrNone)], narrowed := true }
def TableWrongUptoSaid : Prop := tableWrongUptoRow.holds Tryd.pinned (OpenSpec.upto tableWrongSpec)

/-- 'dynamolaw3.TableSteps', WHERE WHAT IT READS IS OF BULK AT MOST 1048576: true; the input reads as it did. -/
def tableStepsUptoRow : OpenClaim := { program := "ytlhhcongoplfpaadoor", sum := "97ec90e3368f44a9d396bf89346df604e3001ae98259aff26b10616593346847", func := "dynamo/dynamolaw3.TableSteps", spec := "tableSteps", unfollowed := true, recurses := true, named := ["dynamo/api.ErrShort", "dynamo/api.ErrLong", "dynamo/api.ErrRange", "dynamo/api.ErrTable"], apart := false, laid := [("dynamo/api.ErrRange", laid_dynamo_api_ErrRange), ("dynamo/api.ErrLong", laid_dynamo_api_ErrLong), ("dynamo/api.ErrShort", laid_dynamo_api_ErrShort), ("dynamo/api.ErrTable", laid_dynamo_api_ErrTable)], narrowed := true }
def TableStepsUptoSaid : Prop := tableStepsUptoRow.holds Tryd.pinned (OpenSpec.upto tableStepsSpec)

/-- 'dynamolaw3.TableSays', WHERE WHAT IT READS IS OF BULK AT MOST 1048576: true; the input reads as it did. -/
def tableSaysUptoRow : OpenClaim := { program := "ytlhhcongoplfpaadoor", sum := "97ec90e3368f44a9d396bf89346df604e3001ae98259aff26b10616593346847", func := "dynamo/dynamolaw3.TableSays", spec := "tableSays", unfollowed := true, recurses := true, named := ["dynamo/api.ErrShort", "dynamo/api.ErrLong", "dynamo/api.ErrRange", "dynamo/api.ErrTable", "dynamo/api.ErrSum", "dynamo/api.ErrConfig", "dynamo/api.ErrNone"], apart := false, laid := [("dynamo/api.ErrRange", laid_dynamo_api_ErrRange), ("dynamo/api.ErrLong", laid_dynamo_api_ErrLong), ("dynamo/api.ErrShort", laid_dynamo_api_ErrShort), ("dynamo/api.ErrSum", laid_dynamo_api_ErrSum), ("dynamo/api.ErrTable", laid_dynamo_api_ErrTable), ("dynamo/api.ErrConfig", laid_dynamo_api_ErrConfig), ("dynamo/api.ErrNone", laid_dynamo_api_ErrNone)], narrowed := true }
def TableSaysUptoSaid : Prop := tableSaysUptoRow.holds Tryd.pinned (OpenSpec.upto tableSaysSpec)

/-- 'dynamolaw3.TableRises', WHERE WHAT IT READS IS OF BULK AT MOST 1048576: true; the input reads as it did. -/
def tableRisesUptoRow : OpenClaim := { program := "ytlhhcongoplfpaadoor", sum := "97ec90e3368f44a9d396bf89346df604e3001ae98259aff26b10616593346847", func := "dynamo/dynamolaw3.TableRises", spec := "tableRises", unfollowed := true, recurses := true, named := ["dynamo/api.ErrShort", "dynamo/api.ErrLong", "dynamo/api.ErrRange", "dynamo/api.ErrTable"], apart := false, laid := [("dynamo/api.ErrRange", laid_dynamo_api_ErrRange), ("dynamo/api.ErrLong", laid_dynamo_api_ErrLong), ("dynamo/api.ErrShort", laid_dynamo_api_ErrShort), ("dynamo/api.ErrTable", laid_dynamo_api_ErrTable)], narrowed := true }
def TableRisesUptoSaid : Prop := tableRisesUptoRow.holds Tryd.pinned (OpenSpec.upto tableRisesSpec)

/-- 'dynamolaw3.TableLines', WHERE WHAT IT READS IS OF BULK AT MOST 1048576: true; the input reads as it did. -/
def tableLinesUptoRow : OpenClaim := { program := "ytlhhcongoplfpaadoor", sum := "97ec90e3368f44a9d396bf89346df604e3001ae98259aff26b10616593346847", func := "dynamo/dynamolaw3.TableLines", spec := "tableLines", unfollowed := true, recurses := true, named := ["dynamo/api.ErrShort", "dynamo/api.ErrLong", "dynamo/api.ErrRange", "dynamo/api.ErrTable"], apart := false, laid := [("dynamo/api.ErrRange", laid_dynamo_api_ErrRange), ("dynamo/api.ErrLong", laid_dynamo_api_ErrLong), ("dynamo/api.ErrShort", laid_dynamo_api_ErrShort), ("dynamo/api.ErrTable", laid_dynamo_api_ErrTable)], narrowed := true }
def TableLinesUptoSaid : Prop := tableLinesUptoRow.holds Tryd.pinned (OpenSpec.upto tableLinesSpec)

/-- 'dynamolaw19.SagSays', WHERE WHAT IT READS IS OF BULK AT MOST 1048576: true; the input reads as it did. -/
def sagSaysUptoRow : OpenClaim := { program := "ytlhhcongoplfpaadoor", sum := "97ec90e3368f44a9d396bf89346df604e3001ae98259aff26b10616593346847", func := "dynamo/dynamolaw19.SagSays", spec := "sagSays", unfollowed := true, recurses := true, named := ["dynamo/api.ErrShort", "dynamo/api.ErrLong", "dynamo/api.ErrRange", "dynamo/api.ErrTable"], apart := false, laid := [("dynamo/api.ErrRange", laid_dynamo_api_ErrRange), ("dynamo/api.ErrLong", laid_dynamo_api_ErrLong), ("dynamo/api.ErrShort", laid_dynamo_api_ErrShort), ("dynamo/api.ErrTable", laid_dynamo_api_ErrTable)], narrowed := true }
def SagSaysUptoSaid : Prop := sagSaysUptoRow.holds Tryd.pinned (OpenSpec.upto sagSaysSpec)

/-- 'dynamolaw19.SagHolds', WHERE WHAT IT READS IS OF BULK AT MOST 1048576: true; the input reads as it did. -/
def sagHoldsUptoRow : OpenClaim := { program := "ytlhhcongoplfpaadoor", sum := "97ec90e3368f44a9d396bf89346df604e3001ae98259aff26b10616593346847", func := "dynamo/dynamolaw19.SagHolds", spec := "sagHolds", unfollowed := true, recurses := true, named := ["dynamo/api.ErrShort", "dynamo/api.ErrLong", "dynamo/api.ErrRange", "dynamo/api.ErrTable"], apart := false, laid := [("dynamo/api.ErrRange", laid_dynamo_api_ErrRange), ("dynamo/api.ErrLong", laid_dynamo_api_ErrLong), ("dynamo/api.ErrShort", laid_dynamo_api_ErrShort), ("dynamo/api.ErrTable", laid_dynamo_api_ErrTable)], narrowed := true }
def SagHoldsUptoSaid : Prop := sagHoldsUptoRow.holds Tryd.pinned (OpenSpec.upto sagHoldsSpec)

/-- 'dynamolaw19.SagMore', WHERE WHAT IT READS IS OF BULK AT MOST 1048576: true; the input reads as it did. -/
def sagMoreUptoRow : OpenClaim := { program := "ytlhhcongoplfpaadoor", sum := "97ec90e3368f44a9d396bf89346df604e3001ae98259aff26b10616593346847", func := "dynamo/dynamolaw19.SagMore", spec := "sagMore", unfollowed := true, recurses := true, named := ["dynamo/api.ErrShort", "dynamo/api.ErrLong", "dynamo/api.ErrRange", "dynamo/api.ErrTable"], apart := false, laid := [("dynamo/api.ErrRange", laid_dynamo_api_ErrRange), ("dynamo/api.ErrLong", laid_dynamo_api_ErrLong), ("dynamo/api.ErrShort", laid_dynamo_api_ErrShort), ("dynamo/api.ErrTable", laid_dynamo_api_ErrTable)], narrowed := true }
def SagMoreUptoSaid : Prop := sagMoreUptoRow.holds Tryd.pinned (OpenSpec.upto sagMoreSpec)

/-- 'dynamolaw19.SagFresh', WHERE WHAT IT READS IS OF BULK AT MOST 1048576: true; the input reads as it did. -/
def sagFreshUptoRow : OpenClaim := { program := "ytlhhcongoplfpaadoor", sum := "97ec90e3368f44a9d396bf89346df604e3001ae98259aff26b10616593346847", func := "dynamo/dynamolaw19.SagFresh", spec := "sagFresh", unfollowed := true, recurses := true, named := ["dynamo/api.ErrShort", "dynamo/api.ErrLong", "dynamo/api.ErrRange", "dynamo/api.ErrTable"], apart := false, laid := [("dynamo/api.ErrRange", laid_dynamo_api_ErrRange), ("dynamo/api.ErrLong", laid_dynamo_api_ErrLong), ("dynamo/api.ErrShort", laid_dynamo_api_ErrShort), ("dynamo/api.ErrTable", laid_dynamo_api_ErrTable)], narrowed := true }
def SagFreshUptoSaid : Prop := sagFreshUptoRow.holds Tryd.pinned (OpenSpec.upto sagFreshSpec)

/-- 'dynamolaw22.ChooseBest', WHERE WHAT IT READS IS OF BULK AT MOST 1048576: true; the input reads as it did. -/
def chooseBestUptoRow : OpenClaim := { program := "ytlhhcongoplfpaadoor", sum := "97ec90e3368f44a9d396bf89346df604e3001ae98259aff26b10616593346847", func := "dynamo/dynamolaw22.ChooseBest", spec := "chooseBest", named := ["math/bits.deBruijn32tab", "math/bits.deBruijn64tab"], apart := false, laid := [("math/bits.deBruijn32tab", laid_math_bits_deBruijn32tab), ("math/bits.deBruijn64tab", laid_math_bits_deBruijn64tab)], narrowed := true }
def ChooseBestUptoSaid : Prop := chooseBestUptoRow.holds Tryd.pinned (OpenSpec.upto chooseBestSpec)

/-- 'dynamolaw22.ChooseStays', WHERE WHAT IT READS IS OF BULK AT MOST 1048576: true; the input reads as it did. -/
def chooseStaysUptoRow : OpenClaim := { program := "ytlhhcongoplfpaadoor", sum := "97ec90e3368f44a9d396bf89346df604e3001ae98259aff26b10616593346847", func := "dynamo/dynamolaw22.ChooseStays", spec := "chooseStays", named := ["math/bits.deBruijn32tab", "math/bits.deBruijn64tab"], apart := false, laid := [("math/bits.deBruijn32tab", laid_math_bits_deBruijn32tab), ("math/bits.deBruijn64tab", laid_math_bits_deBruijn64tab)], narrowed := true }
def ChooseStaysUptoSaid : Prop := chooseStaysUptoRow.holds Tryd.pinned (OpenSpec.upto chooseStaysSpec)

/-- 'dynamolaw22.ChooseDark', WHERE WHAT IT READS IS OF BULK AT MOST 1048576: true; the input reads as it did. -/
def chooseDarkUptoRow : OpenClaim := { program := "ytlhhcongoplfpaadoor", sum := "97ec90e3368f44a9d396bf89346df604e3001ae98259aff26b10616593346847", func := "dynamo/dynamolaw22.ChooseDark", spec := "chooseDark", named := ["math/bits.deBruijn32tab", "math/bits.deBruijn64tab"], apart := false, laid := [("math/bits.deBruijn32tab", laid_math_bits_deBruijn32tab), ("math/bits.deBruijn64tab", laid_math_bits_deBruijn64tab)], narrowed := true }
def ChooseDarkUptoSaid : Prop := chooseDarkUptoRow.holds Tryd.pinned (OpenSpec.upto chooseDarkSpec)

/-- 'dynamolaw22.ChooseLess', WHERE WHAT IT READS IS OF BULK AT MOST 1048576: true; the input reads as it did. -/
def chooseLessUptoRow : OpenClaim := { program := "ytlhhcongoplfpaadoor", sum := "97ec90e3368f44a9d396bf89346df604e3001ae98259aff26b10616593346847", func := "dynamo/dynamolaw22.ChooseLess", spec := "chooseLess", named := ["math/bits.deBruijn32tab", "math/bits.deBruijn64tab"], apart := false, laid := [("math/bits.deBruijn32tab", laid_math_bits_deBruijn32tab), ("math/bits.deBruijn64tab", laid_math_bits_deBruijn64tab)], narrowed := true }
def ChooseLessUptoSaid : Prop := chooseLessUptoRow.holds Tryd.pinned (OpenSpec.upto chooseLessSpec)

/-- 'dynamolaw20.ChargePlays', WHERE WHAT IT READS IS OF BULK AT MOST 1048576: true; the input reads as it did. -/
def chargePlaysUptoRow : OpenClaim := { program := "ytlhhcongoplfpaadoor", sum := "97ec90e3368f44a9d396bf89346df604e3001ae98259aff26b10616593346847", func := "dynamo/dynamolaw20.ChargePlays", spec := "chargePlays", unfollowed := true, recurses := true, named := ["dynamo/api.ErrShort", "dynamo/api.ErrLong", "dynamo/api.ErrRange", "dynamo/api.ErrTable"], apart := false, laid := [("dynamo/api.ErrRange", laid_dynamo_api_ErrRange), ("dynamo/api.ErrLong", laid_dynamo_api_ErrLong), ("dynamo/api.ErrShort", laid_dynamo_api_ErrShort), ("dynamo/api.ErrTable", laid_dynamo_api_ErrTable)], narrowed := true }
def ChargePlaysUptoSaid : Prop := chargePlaysUptoRow.holds Tryd.pinned (OpenSpec.upto chargePlaysSpec)

/-- 'dynamolaw20.ChargeHolds', WHERE WHAT IT READS IS OF BULK AT MOST 1048576: true; the input reads as it did. -/
def chargeHoldsUptoRow : OpenClaim := { program := "ytlhhcongoplfpaadoor", sum := "97ec90e3368f44a9d396bf89346df604e3001ae98259aff26b10616593346847", func := "dynamo/dynamolaw20.ChargeHolds", spec := "chargeHolds", unfollowed := true, recurses := true, named := ["dynamo/api.ErrShort", "dynamo/api.ErrLong", "dynamo/api.ErrRange", "dynamo/api.ErrTable"], apart := false, laid := [("dynamo/api.ErrRange", laid_dynamo_api_ErrRange), ("dynamo/api.ErrLong", laid_dynamo_api_ErrLong), ("dynamo/api.ErrShort", laid_dynamo_api_ErrShort), ("dynamo/api.ErrTable", laid_dynamo_api_ErrTable)], narrowed := true }
def ChargeHoldsUptoSaid : Prop := chargeHoldsUptoRow.holds Tryd.pinned (OpenSpec.upto chargeHoldsSpec)

/-- 'dynamolaw20.ChargeKnown', WHERE WHAT IT READS IS OF BULK AT MOST 1048576: true; the input reads as it did. -/
def chargeKnownUptoRow : OpenClaim := { program := "ytlhhcongoplfpaadoor", sum := "97ec90e3368f44a9d396bf89346df604e3001ae98259aff26b10616593346847", func := "dynamo/dynamolaw20.ChargeKnown", spec := "chargeKnown", unfollowed := true, recurses := true, named := ["dynamo/api.ErrShort", "dynamo/api.ErrLong", "dynamo/api.ErrRange", "dynamo/api.ErrTable"], apart := false, laid := [("dynamo/api.ErrRange", laid_dynamo_api_ErrRange), ("dynamo/api.ErrLong", laid_dynamo_api_ErrLong), ("dynamo/api.ErrShort", laid_dynamo_api_ErrShort), ("dynamo/api.ErrTable", laid_dynamo_api_ErrTable)], narrowed := true }
def ChargeKnownUptoSaid : Prop := chargeKnownUptoRow.holds Tryd.pinned (OpenSpec.upto chargeKnownSpec)

/-- 'dynamolaw20.ChargeApart', WHERE WHAT IT READS IS OF BULK AT MOST 1048576: true; the input reads as it did. -/
def chargeApartUptoRow : OpenClaim := { program := "ytlhhcongoplfpaadoor", sum := "97ec90e3368f44a9d396bf89346df604e3001ae98259aff26b10616593346847", func := "dynamo/dynamolaw20.ChargeApart", spec := "chargeApart", unfollowed := true, recurses := true, named := ["dynamo/api.ErrShort", "dynamo/api.ErrLong", "dynamo/api.ErrRange", "dynamo/api.ErrTable"], apart := false, laid := [("dynamo/api.ErrRange", laid_dynamo_api_ErrRange), ("dynamo/api.ErrLong", laid_dynamo_api_ErrLong), ("dynamo/api.ErrShort", laid_dynamo_api_ErrShort), ("dynamo/api.ErrTable", laid_dynamo_api_ErrTable)], narrowed := true }
def ChargeApartUptoSaid : Prop := chargeApartUptoRow.holds Tryd.pinned (OpenSpec.upto chargeApartSpec)

/-- 'dynamolaw25.ShedTrips', WHERE WHAT IT READS IS OF BULK AT MOST 1048576: true; the input reads as it did. -/
def shedTripsUptoRow : OpenClaim := { program := "ytlhhcongoplfpaadoor", sum := "97ec90e3368f44a9d396bf89346df604e3001ae98259aff26b10616593346847", func := "dynamo/dynamolaw25.ShedTrips", spec := "shedTrips", unfollowed := true, recurses := true, named := ["math/bits.deBruijn32tab", "math/bits.deBruijn64tab"], apart := false, laid := [("math/bits.deBruijn32tab", laid_math_bits_deBruijn32tab), ("math/bits.deBruijn64tab", laid_math_bits_deBruijn64tab)], narrowed := true }
def ShedTripsUptoSaid : Prop := shedTripsUptoRow.holds Tryd.pinned (OpenSpec.upto shedTripsSpec)

/-- 'dynamolaw25.ShedKeeps', WHERE WHAT IT READS IS OF BULK AT MOST 1048576: true; the input reads as it did. -/
def shedKeepsUptoRow : OpenClaim := { program := "ytlhhcongoplfpaadoor", sum := "97ec90e3368f44a9d396bf89346df604e3001ae98259aff26b10616593346847", func := "dynamo/dynamolaw25.ShedKeeps", spec := "shedKeeps", unfollowed := true, recurses := true, named := ["math/bits.deBruijn32tab", "math/bits.deBruijn64tab"], apart := false, laid := [("math/bits.deBruijn32tab", laid_math_bits_deBruijn32tab), ("math/bits.deBruijn64tab", laid_math_bits_deBruijn64tab)], narrowed := true }
def ShedKeepsUptoSaid : Prop := shedKeepsUptoRow.holds Tryd.pinned (OpenSpec.upto shedKeepsSpec)

/-- 'dynamolaw25.ShedBacks', WHERE WHAT IT READS IS OF BULK AT MOST 1048576: true; the input reads as it did. -/
def shedBacksUptoRow : OpenClaim := { program := "ytlhhcongoplfpaadoor", sum := "97ec90e3368f44a9d396bf89346df604e3001ae98259aff26b10616593346847", func := "dynamo/dynamolaw25.ShedBacks", spec := "shedBacks", unfollowed := true, recurses := true, named := ["math/bits.deBruijn32tab", "math/bits.deBruijn64tab"], apart := false, laid := [("math/bits.deBruijn32tab", laid_math_bits_deBruijn32tab), ("math/bits.deBruijn64tab", laid_math_bits_deBruijn64tab)], narrowed := true }
def ShedBacksUptoSaid : Prop := shedBacksUptoRow.holds Tryd.pinned (OpenSpec.upto shedBacksSpec)

/-- 'dynamolaw25.ShedRooms', WHERE WHAT IT READS IS OF BULK AT MOST 1048576: true; the input reads as it did. -/
def shedRoomsUptoRow : OpenClaim := { program := "ytlhhcongoplfpaadoor", sum := "97ec90e3368f44a9d396bf89346df604e3001ae98259aff26b10616593346847", func := "dynamo/dynamolaw25.ShedRooms", spec := "shedRooms", unfollowed := true, recurses := true, named := ["math/bits.deBruijn32tab", "math/bits.deBruijn64tab"], apart := false, laid := [("math/bits.deBruijn32tab", laid_math_bits_deBruijn32tab), ("math/bits.deBruijn64tab", laid_math_bits_deBruijn64tab)], narrowed := true }
def ShedRoomsUptoSaid : Prop := shedRoomsUptoRow.holds Tryd.pinned (OpenSpec.upto shedRoomsSpec)

/-- 'dynamolaw25.ShedLoads', WHERE WHAT IT READS IS OF BULK AT MOST 1048576: true; the input reads as it did. -/
def shedLoadsUptoRow : OpenClaim := { program := "ytlhhcongoplfpaadoor", sum := "97ec90e3368f44a9d396bf89346df604e3001ae98259aff26b10616593346847", func := "dynamo/dynamolaw25.ShedLoads", spec := "shedLoads", unfollowed := true, recurses := true, named := ["math/bits.deBruijn32tab", "math/bits.deBruijn64tab"], apart := false, laid := [("math/bits.deBruijn32tab", laid_math_bits_deBruijn32tab), ("math/bits.deBruijn64tab", laid_math_bits_deBruijn64tab)], narrowed := true }
def ShedLoadsUptoSaid : Prop := shedLoadsUptoRow.holds Tryd.pinned (OpenSpec.upto shedLoadsSpec)

/-- 'dynamolaw25.ShedCharges', WHERE WHAT IT READS IS OF BULK AT MOST 1048576: true; the input reads as it did. -/
def shedChargesUptoRow : OpenClaim := { program := "ytlhhcongoplfpaadoor", sum := "97ec90e3368f44a9d396bf89346df604e3001ae98259aff26b10616593346847", func := "dynamo/dynamolaw25.ShedCharges", spec := "shedCharges", unfollowed := true, recurses := true, named := ["math/bits.deBruijn32tab", "math/bits.deBruijn64tab"], apart := false, laid := [("math/bits.deBruijn32tab", laid_math_bits_deBruijn32tab), ("math/bits.deBruijn64tab", laid_math_bits_deBruijn64tab)], narrowed := true }
def ShedChargesUptoSaid : Prop := shedChargesUptoRow.holds Tryd.pinned (OpenSpec.upto shedChargesSpec)

/-- 'dynamolaw25.ShedSays', WHERE WHAT IT READS IS OF BULK AT MOST 1048576: true; the input reads as it did. -/
def shedSaysUptoRow : OpenClaim := { program := "ytlhhcongoplfpaadoor", sum := "97ec90e3368f44a9d396bf89346df604e3001ae98259aff26b10616593346847", func := "dynamo/dynamolaw25.ShedSays", spec := "shedSays", unfollowed := true, recurses := true, named := ["math/bits.deBruijn32tab", "math/bits.deBruijn64tab"], apart := false, laid := [("math/bits.deBruijn32tab", laid_math_bits_deBruijn32tab), ("math/bits.deBruijn64tab", laid_math_bits_deBruijn64tab)], narrowed := true }
def ShedSaysUptoSaid : Prop := shedSaysUptoRow.holds Tryd.pinned (OpenSpec.upto shedSaysSpec)

end Rows
end Go.Proofs.YtlhhcongoplfpaaDoor
