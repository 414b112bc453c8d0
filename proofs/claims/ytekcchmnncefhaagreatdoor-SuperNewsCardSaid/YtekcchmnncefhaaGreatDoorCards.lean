/-
  DERIVED. GIVEN WITH THE SEED: THE CARDS: each row of YtekcchmnncefhaaGreatDoorRows.lean that lists a variable, with what it lists TIED to the program's text (the seventh form; the later family's looks); each row that meets fmt, with fmt's text TOLD by the authors' own Lean function (tested against real Go, not proved from fmt's source: count such statements apart). THE CARD IS WHAT COUNTS. Prove the row's statement (the work); the ties are given (YtekcchmnncefhaaGreatDoorTie.lean); close each card by the builder's one call (the guide's Derived/Test/ToyasCard.lean, 'card_holds'). Laid BY PROGRAM, IN A SANDBOX (cutbox-door.mjs). By AI agents, Wed Nov 11 2026. No macro, syntax, notation, axiom, sorry.
-/
import Derived.Test.YtekcchmnncefhaaGreatDoorRows
import GoSem.ClaimSeven
namespace Go.Proofs.YtekcchmnncefhaaGreatDoor
namespace Rows

/-- THE TIED CARD OF 'dynamolaw28.SuperNews'. -/
def superNewsCard : Claim7 := { stood := { row := superNewsRow, standIns := [], harness := (true, "e42900cabab311e828834a6efe485b9a0e721aaf3dd5a2bee9270d0bf5b80e79"), looks := true }, kinds := [], alts := [], laidByText := true, laidKinds := [.sentinel, .sentinel, .sentinel, .sentinel, .sentinel, .sentinel, .sentinel], laidTests := true, laidLooks := .later }
def SuperNewsCardSaid : Prop := Claim7.holds Tryz.pinned (.plain (OpenSpec.ofChange superNewsSpec)) superNewsCard

/-- THE SECOND FORM's CARD OF 'dynamolaw28.SuperNews'. -/
def superNewsUptoCard : Claim7 := { stood := { row := superNewsUptoRow, standIns := [], harness := (true, "e42900cabab311e828834a6efe485b9a0e721aaf3dd5a2bee9270d0bf5b80e79"), looks := true }, kinds := [], alts := [], laidByText := true, laidKinds := [.sentinel, .sentinel, .sentinel, .sentinel, .sentinel, .sentinel, .sentinel], laidTests := true, laidLooks := .later }
def SuperNewsUptoCardSaid : Prop := Claim7.holds Tryz.pinned (.plain (OpenSpec.upto superNewsSpec)) superNewsUptoCard
end Rows
end Go.Proofs.YtekcchmnncefhaaGreatDoor
