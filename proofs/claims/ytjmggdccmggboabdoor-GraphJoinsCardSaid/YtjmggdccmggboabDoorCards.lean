/-
  DERIVED. GIVEN WITH THE SEED: THE CARDS: each row of YtjmggdccmggboabDoorRows.lean that lists a variable, with what it lists TIED to the program's text (the seventh form; the later family's looks); each row that meets fmt, with fmt's text TOLD by the authors' own Lean function (tested against real Go, not proved from fmt's source: count such statements apart). THE CARD IS WHAT COUNTS. Prove the row's statement (the work); the ties are given (YtjmggdccmggboabDoorTie.lean); close each card by the builder's one call (the guide's Derived/Test/ToyasCard.lean, 'card_holds'). Laid BY PROGRAM, IN A SANDBOX (cutbox-door.mjs). By AI agents, Wed Nov 11 2026. No macro, syntax, notation, axiom, sorry.
-/
import Derived.Test.YtjmggdccmggboabDoorRows
import GoSem.ClaimSeven
namespace Go.Proofs.YtjmggdccmggboabDoor
namespace Rows

/-- THE TIED CARD OF 'dynamolaw21.GraphFeeds'. -/
def graphFeedsCard : Claim7 := { stood := { row := graphFeedsRow, standIns := [], harness := (true, "e3299c473a74fc1d944a30625f2c26a885291dfcdf923fa277053c31b6490675"), looks := true }, kinds := [], alts := [], laidByText := true, laidKinds := [.data, .data], laidTests := true, laidLooks := .later }
def GraphFeedsCardSaid : Prop := Claim7.holds Tryd.pinned (.plain (OpenSpec.ofChange graphFeedsSpec)) graphFeedsCard

/-- THE TIED CARD OF 'dynamolaw21.GraphSays'. -/
def graphSaysCard : Claim7 := { stood := { row := graphSaysRow, standIns := [], harness := (true, "e3299c473a74fc1d944a30625f2c26a885291dfcdf923fa277053c31b6490675"), looks := true }, kinds := [], alts := [], laidByText := true, laidKinds := [.data, .data], laidTests := true, laidLooks := .later }
def GraphSaysCardSaid : Prop := Claim7.holds Tryd.pinned (.plain (OpenSpec.ofChange graphSaysSpec)) graphSaysCard

/-- THE TIED CARD OF 'dynamolaw21.GraphJoins'. -/
def graphJoinsCard : Claim7 := { stood := { row := graphJoinsRow, standIns := [], harness := (true, "e3299c473a74fc1d944a30625f2c26a885291dfcdf923fa277053c31b6490675"), looks := true }, kinds := [], alts := [], laidByText := true, laidKinds := [.data, .data], laidTests := true, laidLooks := .later }
def GraphJoinsCardSaid : Prop := Claim7.holds Tryd.pinned (.plain (OpenSpec.ofChange graphJoinsSpec)) graphJoinsCard

/-- THE TIED CARD OF 'dynamolaw21.GraphEnds'. -/
def graphEndsCard : Claim7 := { stood := { row := graphEndsRow, standIns := [], harness := (true, "e3299c473a74fc1d944a30625f2c26a885291dfcdf923fa277053c31b6490675"), looks := true }, kinds := [], alts := [], laidByText := true, laidKinds := [.data, .data], laidTests := true, laidLooks := .later }
def GraphEndsCardSaid : Prop := Claim7.holds Tryd.pinned (.plain (OpenSpec.ofChange graphEndsSpec)) graphEndsCard

/-- THE TIED CARD OF 'dynamolaw3.TableWrong'. -/
def tableWrongCard : Claim7 := { stood := { row := tableWrongRow, standIns := [], harness := (true, "e3299c473a74fc1d944a30625f2c26a885291dfcdf923fa277053c31b6490675"), looks := true }, kinds := [], alts := [], laidByText := true, laidKinds := [.sentinel, .sentinel, .sentinel, .sentinel, .sentinel, .sentinel, .sentinel], laidTests := true, laidLooks := .later }
def TableWrongCardSaid : Prop := Claim7.holds Tryd.pinned (.plain (OpenSpec.ofChange tableWrongSpec)) tableWrongCard

/-- THE TIED CARD OF 'dynamolaw3.TableSteps'. -/
def tableStepsCard : Claim7 := { stood := { row := tableStepsRow, standIns := [], harness := (true, "e3299c473a74fc1d944a30625f2c26a885291dfcdf923fa277053c31b6490675"), looks := true }, kinds := [], alts := [], laidByText := true, laidKinds := [.sentinel, .sentinel, .sentinel, .sentinel], laidTests := true, laidLooks := .later }
def TableStepsCardSaid : Prop := Claim7.holds Tryd.pinned (.plain (OpenSpec.ofChange tableStepsSpec)) tableStepsCard

/-- THE TIED CARD OF 'dynamolaw3.TableSays'. -/
def tableSaysCard : Claim7 := { stood := { row := tableSaysRow, standIns := [], harness := (true, "e3299c473a74fc1d944a30625f2c26a885291dfcdf923fa277053c31b6490675"), looks := true }, kinds := [], alts := [], laidByText := true, laidKinds := [.sentinel, .sentinel, .sentinel, .sentinel, .sentinel, .sentinel, .sentinel], laidTests := true, laidLooks := .later }
def TableSaysCardSaid : Prop := Claim7.holds Tryd.pinned (.plain (OpenSpec.ofChange tableSaysSpec)) tableSaysCard

/-- THE TIED CARD OF 'dynamolaw3.TableRises'. -/
def tableRisesCard : Claim7 := { stood := { row := tableRisesRow, standIns := [], harness := (true, "e3299c473a74fc1d944a30625f2c26a885291dfcdf923fa277053c31b6490675"), looks := true }, kinds := [], alts := [], laidByText := true, laidKinds := [.sentinel, .sentinel, .sentinel, .sentinel], laidTests := true, laidLooks := .later }
def TableRisesCardSaid : Prop := Claim7.holds Tryd.pinned (.plain (OpenSpec.ofChange tableRisesSpec)) tableRisesCard

/-- THE TIED CARD OF 'dynamolaw3.TableLines'. -/
def tableLinesCard : Claim7 := { stood := { row := tableLinesRow, standIns := [], harness := (true, "e3299c473a74fc1d944a30625f2c26a885291dfcdf923fa277053c31b6490675"), looks := true }, kinds := [], alts := [], laidByText := true, laidKinds := [.sentinel, .sentinel, .sentinel, .sentinel], laidTests := true, laidLooks := .later }
def TableLinesCardSaid : Prop := Claim7.holds Tryd.pinned (.plain (OpenSpec.ofChange tableLinesSpec)) tableLinesCard

/-- THE SECOND FORM's CARD OF 'dynamolaw21.GraphFeeds'. -/
def graphFeedsUptoCard : Claim7 := { stood := { row := graphFeedsUptoRow, standIns := [], harness := (true, "e3299c473a74fc1d944a30625f2c26a885291dfcdf923fa277053c31b6490675"), looks := true }, kinds := [], alts := [], laidByText := true, laidKinds := [.data, .data], laidTests := true, laidLooks := .later }
def GraphFeedsUptoCardSaid : Prop := Claim7.holds Tryd.pinned (.plain (OpenSpec.upto graphFeedsSpec)) graphFeedsUptoCard

/-- THE SECOND FORM's CARD OF 'dynamolaw21.GraphSays'. -/
def graphSaysUptoCard : Claim7 := { stood := { row := graphSaysUptoRow, standIns := [], harness := (true, "e3299c473a74fc1d944a30625f2c26a885291dfcdf923fa277053c31b6490675"), looks := true }, kinds := [], alts := [], laidByText := true, laidKinds := [.data, .data], laidTests := true, laidLooks := .later }
def GraphSaysUptoCardSaid : Prop := Claim7.holds Tryd.pinned (.plain (OpenSpec.upto graphSaysSpec)) graphSaysUptoCard

/-- THE SECOND FORM's CARD OF 'dynamolaw21.GraphJoins'. -/
def graphJoinsUptoCard : Claim7 := { stood := { row := graphJoinsUptoRow, standIns := [], harness := (true, "e3299c473a74fc1d944a30625f2c26a885291dfcdf923fa277053c31b6490675"), looks := true }, kinds := [], alts := [], laidByText := true, laidKinds := [.data, .data], laidTests := true, laidLooks := .later }
def GraphJoinsUptoCardSaid : Prop := Claim7.holds Tryd.pinned (.plain (OpenSpec.upto graphJoinsSpec)) graphJoinsUptoCard

/-- THE SECOND FORM's CARD OF 'dynamolaw21.GraphEnds'. -/
def graphEndsUptoCard : Claim7 := { stood := { row := graphEndsUptoRow, standIns := [], harness := (true, "e3299c473a74fc1d944a30625f2c26a885291dfcdf923fa277053c31b6490675"), looks := true }, kinds := [], alts := [], laidByText := true, laidKinds := [.data, .data], laidTests := true, laidLooks := .later }
def GraphEndsUptoCardSaid : Prop := Claim7.holds Tryd.pinned (.plain (OpenSpec.upto graphEndsSpec)) graphEndsUptoCard

/-- THE SECOND FORM's CARD OF 'dynamolaw3.TableWrong'. -/
def tableWrongUptoCard : Claim7 := { stood := { row := tableWrongUptoRow, standIns := [], harness := (true, "e3299c473a74fc1d944a30625f2c26a885291dfcdf923fa277053c31b6490675"), looks := true }, kinds := [], alts := [], laidByText := true, laidKinds := [.sentinel, .sentinel, .sentinel, .sentinel, .sentinel, .sentinel, .sentinel], laidTests := true, laidLooks := .later }
def TableWrongUptoCardSaid : Prop := Claim7.holds Tryd.pinned (.plain (OpenSpec.upto tableWrongSpec)) tableWrongUptoCard

/-- THE SECOND FORM's CARD OF 'dynamolaw3.TableSteps'. -/
def tableStepsUptoCard : Claim7 := { stood := { row := tableStepsUptoRow, standIns := [], harness := (true, "e3299c473a74fc1d944a30625f2c26a885291dfcdf923fa277053c31b6490675"), looks := true }, kinds := [], alts := [], laidByText := true, laidKinds := [.sentinel, .sentinel, .sentinel, .sentinel], laidTests := true, laidLooks := .later }
def TableStepsUptoCardSaid : Prop := Claim7.holds Tryd.pinned (.plain (OpenSpec.upto tableStepsSpec)) tableStepsUptoCard

/-- THE SECOND FORM's CARD OF 'dynamolaw3.TableSays'. -/
def tableSaysUptoCard : Claim7 := { stood := { row := tableSaysUptoRow, standIns := [], harness := (true, "e3299c473a74fc1d944a30625f2c26a885291dfcdf923fa277053c31b6490675"), looks := true }, kinds := [], alts := [], laidByText := true, laidKinds := [.sentinel, .sentinel, .sentinel, .sentinel, .sentinel, .sentinel, .sentinel], laidTests := true, laidLooks := .later }
def TableSaysUptoCardSaid : Prop := Claim7.holds Tryd.pinned (.plain (OpenSpec.upto tableSaysSpec)) tableSaysUptoCard

/-- THE SECOND FORM's CARD OF 'dynamolaw3.TableRises'. -/
def tableRisesUptoCard : Claim7 := { stood := { row := tableRisesUptoRow, standIns := [], harness := (true, "e3299c473a74fc1d944a30625f2c26a885291dfcdf923fa277053c31b6490675"), looks := true }, kinds := [], alts := [], laidByText := true, laidKinds := [.sentinel, .sentinel, .sentinel, .sentinel], laidTests := true, laidLooks := .later }
def TableRisesUptoCardSaid : Prop := Claim7.holds Tryd.pinned (.plain (OpenSpec.upto tableRisesSpec)) tableRisesUptoCard

/-- THE SECOND FORM's CARD OF 'dynamolaw3.TableLines'. -/
def tableLinesUptoCard : Claim7 := { stood := { row := tableLinesUptoRow, standIns := [], harness := (true, "e3299c473a74fc1d944a30625f2c26a885291dfcdf923fa277053c31b6490675"), looks := true }, kinds := [], alts := [], laidByText := true, laidKinds := [.sentinel, .sentinel, .sentinel, .sentinel], laidTests := true, laidLooks := .later }
def TableLinesUptoCardSaid : Prop := Claim7.holds Tryd.pinned (.plain (OpenSpec.upto tableLinesSpec)) tableLinesUptoCard
end Rows
end Go.Proofs.YtjmggdccmggboabDoor
