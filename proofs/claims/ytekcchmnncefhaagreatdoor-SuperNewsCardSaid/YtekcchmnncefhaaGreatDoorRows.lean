/-
  NARROWER THAN 'FOR EVERY INPUT', by the rows' own cells (each row's printed sentence says how): SuperNews: laid.
  DERIVED. THE GIVEN ROWS OF THIS SEAT. 1 by the template 'for every input the law returns true; each argument reads behind the call as it read before'; 0 by the template 'total and deterministic' (their statements: YtekcchmnncefhaaGreatDoorTotals.lean).
  GIVEN WITH THE SEED: the statements are not yours to turn. If you find one false, say at which input.
  Laid BY PROGRAM, IN A SANDBOX (cutbox-rows.mjs): the forced cells as the released guide's own fill.sh prints them over the translation dbd74a6ec9c890e1… (all of the seat's roots in one cut). By AI agents, Wed Nov 11 2026. No macro, syntax, notation, axiom, sorry.
-/
import Derived.Test.YtekcchmnncefhaaGreatDoorChecked
import GoSem.Claim
import GoSem.ClaimJoined
import GoSem.ClaimMapViews
import Derived.JoinedTies
import Derived.KernelRfl
namespace Go.Proofs.YtekcchmnncefhaaGreatDoor
/- THE CELL 'sum', in the pinned program and in every row, IS THE sha256 OF THE DUMP (.gsa) THAT YtekcchmnncefhaaGreatDoorProg.lean LOADS. Nothing in Lean hashes anything: it is a label: what it is worth is what the hold of that sum in a sandbox is worth. -/
noncomputable def Tryz.pinned : Pinned := { name := "ytekcchmnncefhaagreatdoor", sum := "dbd74a6ec9c890e1f79afec36d15df5184a84137638c813e138fdcc36ca7a727", checked := Tryz.checked }
namespace Rows
def none {H : Type} : Left H := { results := [], args := [] }

/- WHAT THE LISTED PACKAGE-LEVEL VARIABLES READ AS WHEN THE CALL BEGINS. Each datum BY PROGRAM (the guide's laid-datum.mjs) off the statement by which the dump's own 'gosem.cut.vars' lays the variable. In a bare row this is a premise. The card (YtekcchmnncefhaaGreatDoorCards.lean) ties it to the program's text. -/
def laid_dynamo_api_ErrRange {H : Type} : DataW H := .iface "*errors.errorString" (.ptr (.agg [.lit (.string [97, 32, 110, 117, 109, 98, 101, 114, 32, 111, 117, 116, 32, 111, 102, 32, 105, 116, 115, 32, 114, 97, 110, 103, 101])]))
def laid_dynamo_api_ErrLong {H : Type} : DataW H := .iface "*errors.errorString" (.ptr (.agg [.lit (.string [109, 111, 114, 101, 32, 116, 104, 97, 110, 32, 109, 97, 121, 32, 98, 101])]))
def laid_dynamo_api_ErrShort {H : Type} : DataW H := .iface "*errors.errorString" (.ptr (.agg [.lit (.string [108, 101, 115, 115, 32, 116, 104, 97, 110, 32, 104, 97, 115, 32, 116, 111, 32, 98, 101])]))
def laid_dynamo_api_ErrSum {H : Type} : DataW H := .iface "*errors.errorString" (.ptr (.agg [.lit (.string [97, 32, 115, 117, 109, 32, 116, 104, 97, 116, 32, 100, 111, 101, 115, 32, 110, 111, 116, 32, 102, 105, 116])]))
def laid_dynamo_api_ErrTable {H : Type} : DataW H := .iface "*errors.errorString" (.ptr (.agg [.lit (.string [97, 32, 116, 97, 98, 108, 101, 32, 116, 104, 97, 116, 32, 100, 111, 101, 115, 32, 110, 111, 116, 32, 114, 105, 115, 101])]))
def laid_dynamo_api_ErrConfig {H : Type} : DataW H := .iface "*errors.errorString" (.ptr (.agg [.lit (.string [97, 32, 99, 111, 110, 102, 105, 103, 117, 114, 97, 116, 105, 111, 110, 32, 116, 104, 97, 116, 32, 99, 97, 110, 39, 116, 32, 98, 101])]))
def laid_dynamo_api_ErrNone {H : Type} : DataW H := .iface "*errors.errorString" (.ptr (.agg [.lit (.string [110, 111, 32, 114, 101, 99, 111, 114, 100])]))

/-- 'dynamolaw28.SuperNews': WHATEVER THE INPUT: true; the input reads as it did. -/
def superNewsSpec : ChangeSpec := { name := "superNews", fn := fun _ => fun
  | [d1, d2, d3, d4, d5, d6] => { results := [.lit (.bool true)], args := [d1, d2, d3, d4, d5, d6] }
  | _ => none }
def superNewsRow : OpenClaim := { program := "ytekcchmnncefhaagreatdoor", sum := "dbd74a6ec9c890e1f79afec36d15df5184a84137638c813e138fdcc36ca7a727", func := "dynamo/dynamolaw28.SuperNews", spec := "superNews", inPlace := ["internal/reflectlite.TypeOf"], unfollowed := true, recurses := true, named := ["dynamo/api.ErrShort", "dynamo/api.ErrLong", "dynamo/api.ErrConfig", "dynamo/api.ErrRange", "dynamo/api.ErrTable", "dynamo/api.ErrNone", "dynamo/api.ErrSum"], apart := false, laid := [("dynamo/api.ErrRange", laid_dynamo_api_ErrRange), ("dynamo/api.ErrLong", laid_dynamo_api_ErrLong), ("dynamo/api.ErrShort", laid_dynamo_api_ErrShort), ("dynamo/api.ErrSum", laid_dynamo_api_ErrSum), ("dynamo/api.ErrTable", laid_dynamo_api_ErrTable), ("dynamo/api.ErrConfig", laid_dynamo_api_ErrConfig), ("dynamo/api.ErrNone", laid_dynamo_api_ErrNone)] }
def SuperNewsSaid : Prop := superNewsRow.holds Tryz.pinned (OpenSpec.ofChange superNewsSpec)

/-- ITS FALSE NEIGHBOUR: 'it returns false'. Refute it at one input. -/
def superNewsWrong : ChangeSpec := { name := "superNews", fn := fun _ => fun
  | [d1, d2, d3, d4, d5, d6] => { results := [.lit (.bool false)], args := [d1, d2, d3, d4, d5, d6] }
  | _ => none }
def SuperNewsWrongFalsely : Prop := superNewsRow.holds Tryz.pinned (OpenSpec.ofChange superNewsWrong)

/- THE SECOND FORM. 'bulk': how many values and letters a reading holds, each counted each time it is reached (what is shared counts as often as it is met; a slice's spare places count too). A statement '..UptoSaid' is the law's where the arguments, and the package variables that the reading takes, are together of bulk at most 1048576: NARROWER than '..Said'. Prove '..Said' where nothing that the law and all that it calls make is longer than what came in: it says more and counts as full. Else prove '..UptoSaid'. A law counts once. -/
mutual
def uptoBulk {H : Type} : DataW H → Nat
  | .lit (.string bytes) => bytes.length + 1
  | .lit _ => 1
  | .nil => 1
  | .ptr d => uptoBulk d + 1
  | .slice elems spare => uptoBulkAll elems + uptoBulkAll spare + 1
  | .agg parts => uptoBulkAll parts + 1
  | .iface _ d => uptoBulk d + 1
  | .map entries => uptoBulkEntries entries + 1
  | .held _ => 1
def uptoBulkAll {H : Type} : List (DataW H) → Nat
  | [] => 0
  | d :: r => uptoBulk d + uptoBulkAll r
def uptoBulkEntries {H : Type} : List (Lit × DataW H) → Nat
  | [] => 0
  | x :: r => uptoBulkEntry x + uptoBulkEntries r
def uptoBulkEntry {H : Type} : Lit × DataW H → Nat
  | (.string bytes, d) => bytes.length + uptoBulk d + 1
  | (_, d) => uptoBulk d + 1
 end
def uptoSmall : (H : Type) → List (DataW H) → Bool := fun _ ds => decide (uptoBulkAll ds ≤ 1048576)
def OpenSpec.upto (s : _root_.Go.ChangeSpec) : _root_.Go.OpenSpec := { _root_.Go.OpenSpec.ofChange s with cond := some uptoSmall }

/-- 'dynamolaw28.SuperNews', WHERE WHAT IT READS IS OF BULK AT MOST 1048576: true; the input reads as it did. -/
def superNewsUptoRow : OpenClaim := { program := "ytekcchmnncefhaagreatdoor", sum := "dbd74a6ec9c890e1f79afec36d15df5184a84137638c813e138fdcc36ca7a727", func := "dynamo/dynamolaw28.SuperNews", spec := "superNews", inPlace := ["internal/reflectlite.TypeOf"], unfollowed := true, recurses := true, named := ["dynamo/api.ErrShort", "dynamo/api.ErrLong", "dynamo/api.ErrConfig", "dynamo/api.ErrRange", "dynamo/api.ErrTable", "dynamo/api.ErrNone", "dynamo/api.ErrSum"], apart := false, laid := [("dynamo/api.ErrRange", laid_dynamo_api_ErrRange), ("dynamo/api.ErrLong", laid_dynamo_api_ErrLong), ("dynamo/api.ErrShort", laid_dynamo_api_ErrShort), ("dynamo/api.ErrSum", laid_dynamo_api_ErrSum), ("dynamo/api.ErrTable", laid_dynamo_api_ErrTable), ("dynamo/api.ErrConfig", laid_dynamo_api_ErrConfig), ("dynamo/api.ErrNone", laid_dynamo_api_ErrNone)], narrowed := true }
def SuperNewsUptoSaid : Prop := superNewsUptoRow.holds Tryz.pinned (OpenSpec.upto superNewsSpec)

end Rows
end Go.Proofs.YtekcchmnncefhaaGreatDoor
