/-
  DERIVED. GIVEN WITH THE SEED: THE CARDS: each row of YtlhhcongoplfpaaDoorRows.lean that lists a variable, with what it lists TIED to the program's text (the seventh form; the later family's looks); each row that meets fmt, with fmt's text TOLD by the authors' own Lean function (tested against real Go, not proved from fmt's source: count such statements apart). THE CARD IS WHAT COUNTS. Prove the row's statement (the work); the ties are given (YtlhhcongoplfpaaDoorTie.lean); close each card by the builder's one call (the guide's Derived/Test/ToyasCard.lean, 'card_holds'). Laid BY PROGRAM, IN A SANDBOX (cutbox-door.mjs). By AI agents, Wed Nov 11 2026. No macro, syntax, notation, axiom, sorry.
-/
import Derived.Test.YtlhhcongoplfpaaDoorRows
import GoSem.ClaimSeven
namespace Go.Proofs.YtlhhcongoplfpaaDoor
namespace Rows

/-- THE TIED CARD OF 'dynamolaw3.TableWrong'. -/
def tableWrongCard : Claim7 := { stood := { row := tableWrongRow, standIns := [], harness := (true, "58ae36c667b9080c0f832293a9759ee59addeaf486eeea5eaba839f7c2bc58d9"), looks := true }, kinds := [], alts := [], laidByText := true, laidKinds := [.sentinel, .sentinel, .sentinel, .sentinel, .sentinel, .sentinel, .sentinel], laidTests := true, laidLooks := .later }
def TableWrongCardSaid : Prop := Claim7.holds Tryd.pinned (.plain (OpenSpec.ofChange tableWrongSpec)) tableWrongCard

/-- THE TIED CARD OF 'dynamolaw3.TableSteps'. -/
def tableStepsCard : Claim7 := { stood := { row := tableStepsRow, standIns := [], harness := (true, "58ae36c667b9080c0f832293a9759ee59addeaf486eeea5eaba839f7c2bc58d9"), looks := true }, kinds := [], alts := [], laidByText := true, laidKinds := [.sentinel, .sentinel, .sentinel, .sentinel], laidTests := true, laidLooks := .later }
def TableStepsCardSaid : Prop := Claim7.holds Tryd.pinned (.plain (OpenSpec.ofChange tableStepsSpec)) tableStepsCard

/-- THE TIED CARD OF 'dynamolaw3.TableSays'. -/
def tableSaysCard : Claim7 := { stood := { row := tableSaysRow, standIns := [], harness := (true, "58ae36c667b9080c0f832293a9759ee59addeaf486eeea5eaba839f7c2bc58d9"), looks := true }, kinds := [], alts := [], laidByText := true, laidKinds := [.sentinel, .sentinel, .sentinel, .sentinel, .sentinel, .sentinel, .sentinel], laidTests := true, laidLooks := .later }
def TableSaysCardSaid : Prop := Claim7.holds Tryd.pinned (.plain (OpenSpec.ofChange tableSaysSpec)) tableSaysCard

/-- THE TIED CARD OF 'dynamolaw3.TableRises'. -/
def tableRisesCard : Claim7 := { stood := { row := tableRisesRow, standIns := [], harness := (true, "58ae36c667b9080c0f832293a9759ee59addeaf486eeea5eaba839f7c2bc58d9"), looks := true }, kinds := [], alts := [], laidByText := true, laidKinds := [.sentinel, .sentinel, .sentinel, .sentinel], laidTests := true, laidLooks := .later }
def TableRisesCardSaid : Prop := Claim7.holds Tryd.pinned (.plain (OpenSpec.ofChange tableRisesSpec)) tableRisesCard

/-- THE TIED CARD OF 'dynamolaw3.TableLines'. -/
def tableLinesCard : Claim7 := { stood := { row := tableLinesRow, standIns := [], harness := (true, "58ae36c667b9080c0f832293a9759ee59addeaf486eeea5eaba839f7c2bc58d9"), looks := true }, kinds := [], alts := [], laidByText := true, laidKinds := [.sentinel, .sentinel, .sentinel, .sentinel], laidTests := true, laidLooks := .later }
def TableLinesCardSaid : Prop := Claim7.holds Tryd.pinned (.plain (OpenSpec.ofChange tableLinesSpec)) tableLinesCard

/-- THE TIED CARD OF 'dynamolaw19.SagSays'. -/
def sagSaysCard : Claim7 := { stood := { row := sagSaysRow, standIns := [], harness := (true, "58ae36c667b9080c0f832293a9759ee59addeaf486eeea5eaba839f7c2bc58d9"), looks := true }, kinds := [], alts := [], laidByText := true, laidKinds := [.sentinel, .sentinel, .sentinel, .sentinel], laidTests := true, laidLooks := .later }
def SagSaysCardSaid : Prop := Claim7.holds Tryd.pinned (.plain (OpenSpec.ofChange sagSaysSpec)) sagSaysCard

/-- THE TIED CARD OF 'dynamolaw19.SagHolds'. -/
def sagHoldsCard : Claim7 := { stood := { row := sagHoldsRow, standIns := [], harness := (true, "58ae36c667b9080c0f832293a9759ee59addeaf486eeea5eaba839f7c2bc58d9"), looks := true }, kinds := [], alts := [], laidByText := true, laidKinds := [.sentinel, .sentinel, .sentinel, .sentinel], laidTests := true, laidLooks := .later }
def SagHoldsCardSaid : Prop := Claim7.holds Tryd.pinned (.plain (OpenSpec.ofChange sagHoldsSpec)) sagHoldsCard

/-- THE TIED CARD OF 'dynamolaw19.SagMore'. -/
def sagMoreCard : Claim7 := { stood := { row := sagMoreRow, standIns := [], harness := (true, "58ae36c667b9080c0f832293a9759ee59addeaf486eeea5eaba839f7c2bc58d9"), looks := true }, kinds := [], alts := [], laidByText := true, laidKinds := [.sentinel, .sentinel, .sentinel, .sentinel], laidTests := true, laidLooks := .later }
def SagMoreCardSaid : Prop := Claim7.holds Tryd.pinned (.plain (OpenSpec.ofChange sagMoreSpec)) sagMoreCard

/-- THE TIED CARD OF 'dynamolaw19.SagFresh'. -/
def sagFreshCard : Claim7 := { stood := { row := sagFreshRow, standIns := [], harness := (true, "58ae36c667b9080c0f832293a9759ee59addeaf486eeea5eaba839f7c2bc58d9"), looks := true }, kinds := [], alts := [], laidByText := true, laidKinds := [.sentinel, .sentinel, .sentinel, .sentinel], laidTests := true, laidLooks := .later }
def SagFreshCardSaid : Prop := Claim7.holds Tryd.pinned (.plain (OpenSpec.ofChange sagFreshSpec)) sagFreshCard

/-- THE TIED CARD OF 'dynamolaw22.ChooseBest'. -/
def chooseBestCard : Claim7 := { stood := { row := chooseBestRow, standIns := [], harness := (true, "58ae36c667b9080c0f832293a9759ee59addeaf486eeea5eaba839f7c2bc58d9"), looks := true }, kinds := [], alts := [], laidByText := true, laidKinds := [.data, .data], laidTests := true, laidLooks := .later }
def ChooseBestCardSaid : Prop := Claim7.holds Tryd.pinned (.plain (OpenSpec.ofChange chooseBestSpec)) chooseBestCard

/-- THE TIED CARD OF 'dynamolaw22.ChooseStays'. -/
def chooseStaysCard : Claim7 := { stood := { row := chooseStaysRow, standIns := [], harness := (true, "58ae36c667b9080c0f832293a9759ee59addeaf486eeea5eaba839f7c2bc58d9"), looks := true }, kinds := [], alts := [], laidByText := true, laidKinds := [.data, .data], laidTests := true, laidLooks := .later }
def ChooseStaysCardSaid : Prop := Claim7.holds Tryd.pinned (.plain (OpenSpec.ofChange chooseStaysSpec)) chooseStaysCard

/-- THE TIED CARD OF 'dynamolaw22.ChooseDark'. -/
def chooseDarkCard : Claim7 := { stood := { row := chooseDarkRow, standIns := [], harness := (true, "58ae36c667b9080c0f832293a9759ee59addeaf486eeea5eaba839f7c2bc58d9"), looks := true }, kinds := [], alts := [], laidByText := true, laidKinds := [.data, .data], laidTests := true, laidLooks := .later }
def ChooseDarkCardSaid : Prop := Claim7.holds Tryd.pinned (.plain (OpenSpec.ofChange chooseDarkSpec)) chooseDarkCard

/-- THE TIED CARD OF 'dynamolaw22.ChooseLess'. -/
def chooseLessCard : Claim7 := { stood := { row := chooseLessRow, standIns := [], harness := (true, "58ae36c667b9080c0f832293a9759ee59addeaf486eeea5eaba839f7c2bc58d9"), looks := true }, kinds := [], alts := [], laidByText := true, laidKinds := [.data, .data], laidTests := true, laidLooks := .later }
def ChooseLessCardSaid : Prop := Claim7.holds Tryd.pinned (.plain (OpenSpec.ofChange chooseLessSpec)) chooseLessCard

/-- THE TIED CARD OF 'dynamolaw20.ChargePlays'. -/
def chargePlaysCard : Claim7 := { stood := { row := chargePlaysRow, standIns := [], harness := (true, "58ae36c667b9080c0f832293a9759ee59addeaf486eeea5eaba839f7c2bc58d9"), looks := true }, kinds := [], alts := [], laidByText := true, laidKinds := [.sentinel, .sentinel, .sentinel, .sentinel], laidTests := true, laidLooks := .later }
def ChargePlaysCardSaid : Prop := Claim7.holds Tryd.pinned (.plain (OpenSpec.ofChange chargePlaysSpec)) chargePlaysCard

/-- THE TIED CARD OF 'dynamolaw20.ChargeHolds'. -/
def chargeHoldsCard : Claim7 := { stood := { row := chargeHoldsRow, standIns := [], harness := (true, "58ae36c667b9080c0f832293a9759ee59addeaf486eeea5eaba839f7c2bc58d9"), looks := true }, kinds := [], alts := [], laidByText := true, laidKinds := [.sentinel, .sentinel, .sentinel, .sentinel], laidTests := true, laidLooks := .later }
def ChargeHoldsCardSaid : Prop := Claim7.holds Tryd.pinned (.plain (OpenSpec.ofChange chargeHoldsSpec)) chargeHoldsCard

/-- THE TIED CARD OF 'dynamolaw20.ChargeKnown'. -/
def chargeKnownCard : Claim7 := { stood := { row := chargeKnownRow, standIns := [], harness := (true, "58ae36c667b9080c0f832293a9759ee59addeaf486eeea5eaba839f7c2bc58d9"), looks := true }, kinds := [], alts := [], laidByText := true, laidKinds := [.sentinel, .sentinel, .sentinel, .sentinel], laidTests := true, laidLooks := .later }
def ChargeKnownCardSaid : Prop := Claim7.holds Tryd.pinned (.plain (OpenSpec.ofChange chargeKnownSpec)) chargeKnownCard

/-- THE TIED CARD OF 'dynamolaw20.ChargeApart'. -/
def chargeApartCard : Claim7 := { stood := { row := chargeApartRow, standIns := [], harness := (true, "58ae36c667b9080c0f832293a9759ee59addeaf486eeea5eaba839f7c2bc58d9"), looks := true }, kinds := [], alts := [], laidByText := true, laidKinds := [.sentinel, .sentinel, .sentinel, .sentinel], laidTests := true, laidLooks := .later }
def ChargeApartCardSaid : Prop := Claim7.holds Tryd.pinned (.plain (OpenSpec.ofChange chargeApartSpec)) chargeApartCard

/-- THE TIED CARD OF 'dynamolaw25.ShedTrips'. -/
def shedTripsCard : Claim7 := { stood := { row := shedTripsRow, standIns := [], harness := (true, "58ae36c667b9080c0f832293a9759ee59addeaf486eeea5eaba839f7c2bc58d9"), looks := true }, kinds := [], alts := [], laidByText := true, laidKinds := [.data, .data], laidTests := true, laidLooks := .later }
def ShedTripsCardSaid : Prop := Claim7.holds Tryd.pinned (.plain (OpenSpec.ofChange shedTripsSpec)) shedTripsCard

/-- THE TIED CARD OF 'dynamolaw25.ShedKeeps'. -/
def shedKeepsCard : Claim7 := { stood := { row := shedKeepsRow, standIns := [], harness := (true, "58ae36c667b9080c0f832293a9759ee59addeaf486eeea5eaba839f7c2bc58d9"), looks := true }, kinds := [], alts := [], laidByText := true, laidKinds := [.data, .data], laidTests := true, laidLooks := .later }
def ShedKeepsCardSaid : Prop := Claim7.holds Tryd.pinned (.plain (OpenSpec.ofChange shedKeepsSpec)) shedKeepsCard

/-- THE TIED CARD OF 'dynamolaw25.ShedBacks'. -/
def shedBacksCard : Claim7 := { stood := { row := shedBacksRow, standIns := [], harness := (true, "58ae36c667b9080c0f832293a9759ee59addeaf486eeea5eaba839f7c2bc58d9"), looks := true }, kinds := [], alts := [], laidByText := true, laidKinds := [.data, .data], laidTests := true, laidLooks := .later }
def ShedBacksCardSaid : Prop := Claim7.holds Tryd.pinned (.plain (OpenSpec.ofChange shedBacksSpec)) shedBacksCard

/-- THE TIED CARD OF 'dynamolaw25.ShedRooms'. -/
def shedRoomsCard : Claim7 := { stood := { row := shedRoomsRow, standIns := [], harness := (true, "58ae36c667b9080c0f832293a9759ee59addeaf486eeea5eaba839f7c2bc58d9"), looks := true }, kinds := [], alts := [], laidByText := true, laidKinds := [.data, .data], laidTests := true, laidLooks := .later }
def ShedRoomsCardSaid : Prop := Claim7.holds Tryd.pinned (.plain (OpenSpec.ofChange shedRoomsSpec)) shedRoomsCard

/-- THE TIED CARD OF 'dynamolaw25.ShedLoads'. -/
def shedLoadsCard : Claim7 := { stood := { row := shedLoadsRow, standIns := [], harness := (true, "58ae36c667b9080c0f832293a9759ee59addeaf486eeea5eaba839f7c2bc58d9"), looks := true }, kinds := [], alts := [], laidByText := true, laidKinds := [.data, .data], laidTests := true, laidLooks := .later }
def ShedLoadsCardSaid : Prop := Claim7.holds Tryd.pinned (.plain (OpenSpec.ofChange shedLoadsSpec)) shedLoadsCard

/-- THE TIED CARD OF 'dynamolaw25.ShedCharges'. -/
def shedChargesCard : Claim7 := { stood := { row := shedChargesRow, standIns := [], harness := (true, "58ae36c667b9080c0f832293a9759ee59addeaf486eeea5eaba839f7c2bc58d9"), looks := true }, kinds := [], alts := [], laidByText := true, laidKinds := [.data, .data], laidTests := true, laidLooks := .later }
def ShedChargesCardSaid : Prop := Claim7.holds Tryd.pinned (.plain (OpenSpec.ofChange shedChargesSpec)) shedChargesCard

/-- THE TIED CARD OF 'dynamolaw25.ShedSays'. -/
def shedSaysCard : Claim7 := { stood := { row := shedSaysRow, standIns := [], harness := (true, "58ae36c667b9080c0f832293a9759ee59addeaf486eeea5eaba839f7c2bc58d9"), looks := true }, kinds := [], alts := [], laidByText := true, laidKinds := [.data, .data], laidTests := true, laidLooks := .later }
def ShedSaysCardSaid : Prop := Claim7.holds Tryd.pinned (.plain (OpenSpec.ofChange shedSaysSpec)) shedSaysCard

/-- THE SECOND FORM's CARD OF 'dynamolaw3.TableWrong'. -/
def tableWrongUptoCard : Claim7 := { stood := { row := tableWrongUptoRow, standIns := [], harness := (true, "58ae36c667b9080c0f832293a9759ee59addeaf486eeea5eaba839f7c2bc58d9"), looks := true }, kinds := [], alts := [], laidByText := true, laidKinds := [.sentinel, .sentinel, .sentinel, .sentinel, .sentinel, .sentinel, .sentinel], laidTests := true, laidLooks := .later }
def TableWrongUptoCardSaid : Prop := Claim7.holds Tryd.pinned (.plain (OpenSpec.upto tableWrongSpec)) tableWrongUptoCard

/-- THE SECOND FORM's CARD OF 'dynamolaw3.TableSteps'. -/
def tableStepsUptoCard : Claim7 := { stood := { row := tableStepsUptoRow, standIns := [], harness := (true, "58ae36c667b9080c0f832293a9759ee59addeaf486eeea5eaba839f7c2bc58d9"), looks := true }, kinds := [], alts := [], laidByText := true, laidKinds := [.sentinel, .sentinel, .sentinel, .sentinel], laidTests := true, laidLooks := .later }
def TableStepsUptoCardSaid : Prop := Claim7.holds Tryd.pinned (.plain (OpenSpec.upto tableStepsSpec)) tableStepsUptoCard

/-- THE SECOND FORM's CARD OF 'dynamolaw3.TableSays'. -/
def tableSaysUptoCard : Claim7 := { stood := { row := tableSaysUptoRow, standIns := [], harness := (true, "58ae36c667b9080c0f832293a9759ee59addeaf486eeea5eaba839f7c2bc58d9"), looks := true }, kinds := [], alts := [], laidByText := true, laidKinds := [.sentinel, .sentinel, .sentinel, .sentinel, .sentinel, .sentinel, .sentinel], laidTests := true, laidLooks := .later }
def TableSaysUptoCardSaid : Prop := Claim7.holds Tryd.pinned (.plain (OpenSpec.upto tableSaysSpec)) tableSaysUptoCard

/-- THE SECOND FORM's CARD OF 'dynamolaw3.TableRises'. -/
def tableRisesUptoCard : Claim7 := { stood := { row := tableRisesUptoRow, standIns := [], harness := (true, "58ae36c667b9080c0f832293a9759ee59addeaf486eeea5eaba839f7c2bc58d9"), looks := true }, kinds := [], alts := [], laidByText := true, laidKinds := [.sentinel, .sentinel, .sentinel, .sentinel], laidTests := true, laidLooks := .later }
def TableRisesUptoCardSaid : Prop := Claim7.holds Tryd.pinned (.plain (OpenSpec.upto tableRisesSpec)) tableRisesUptoCard

/-- THE SECOND FORM's CARD OF 'dynamolaw3.TableLines'. -/
def tableLinesUptoCard : Claim7 := { stood := { row := tableLinesUptoRow, standIns := [], harness := (true, "58ae36c667b9080c0f832293a9759ee59addeaf486eeea5eaba839f7c2bc58d9"), looks := true }, kinds := [], alts := [], laidByText := true, laidKinds := [.sentinel, .sentinel, .sentinel, .sentinel], laidTests := true, laidLooks := .later }
def TableLinesUptoCardSaid : Prop := Claim7.holds Tryd.pinned (.plain (OpenSpec.upto tableLinesSpec)) tableLinesUptoCard

/-- THE SECOND FORM's CARD OF 'dynamolaw19.SagSays'. -/
def sagSaysUptoCard : Claim7 := { stood := { row := sagSaysUptoRow, standIns := [], harness := (true, "58ae36c667b9080c0f832293a9759ee59addeaf486eeea5eaba839f7c2bc58d9"), looks := true }, kinds := [], alts := [], laidByText := true, laidKinds := [.sentinel, .sentinel, .sentinel, .sentinel], laidTests := true, laidLooks := .later }
def SagSaysUptoCardSaid : Prop := Claim7.holds Tryd.pinned (.plain (OpenSpec.upto sagSaysSpec)) sagSaysUptoCard

/-- THE SECOND FORM's CARD OF 'dynamolaw19.SagHolds'. -/
def sagHoldsUptoCard : Claim7 := { stood := { row := sagHoldsUptoRow, standIns := [], harness := (true, "58ae36c667b9080c0f832293a9759ee59addeaf486eeea5eaba839f7c2bc58d9"), looks := true }, kinds := [], alts := [], laidByText := true, laidKinds := [.sentinel, .sentinel, .sentinel, .sentinel], laidTests := true, laidLooks := .later }
def SagHoldsUptoCardSaid : Prop := Claim7.holds Tryd.pinned (.plain (OpenSpec.upto sagHoldsSpec)) sagHoldsUptoCard

/-- THE SECOND FORM's CARD OF 'dynamolaw19.SagMore'. -/
def sagMoreUptoCard : Claim7 := { stood := { row := sagMoreUptoRow, standIns := [], harness := (true, "58ae36c667b9080c0f832293a9759ee59addeaf486eeea5eaba839f7c2bc58d9"), looks := true }, kinds := [], alts := [], laidByText := true, laidKinds := [.sentinel, .sentinel, .sentinel, .sentinel], laidTests := true, laidLooks := .later }
def SagMoreUptoCardSaid : Prop := Claim7.holds Tryd.pinned (.plain (OpenSpec.upto sagMoreSpec)) sagMoreUptoCard

/-- THE SECOND FORM's CARD OF 'dynamolaw19.SagFresh'. -/
def sagFreshUptoCard : Claim7 := { stood := { row := sagFreshUptoRow, standIns := [], harness := (true, "58ae36c667b9080c0f832293a9759ee59addeaf486eeea5eaba839f7c2bc58d9"), looks := true }, kinds := [], alts := [], laidByText := true, laidKinds := [.sentinel, .sentinel, .sentinel, .sentinel], laidTests := true, laidLooks := .later }
def SagFreshUptoCardSaid : Prop := Claim7.holds Tryd.pinned (.plain (OpenSpec.upto sagFreshSpec)) sagFreshUptoCard

/-- THE SECOND FORM's CARD OF 'dynamolaw22.ChooseBest'. -/
def chooseBestUptoCard : Claim7 := { stood := { row := chooseBestUptoRow, standIns := [], harness := (true, "58ae36c667b9080c0f832293a9759ee59addeaf486eeea5eaba839f7c2bc58d9"), looks := true }, kinds := [], alts := [], laidByText := true, laidKinds := [.data, .data], laidTests := true, laidLooks := .later }
def ChooseBestUptoCardSaid : Prop := Claim7.holds Tryd.pinned (.plain (OpenSpec.upto chooseBestSpec)) chooseBestUptoCard

/-- THE SECOND FORM's CARD OF 'dynamolaw22.ChooseStays'. -/
def chooseStaysUptoCard : Claim7 := { stood := { row := chooseStaysUptoRow, standIns := [], harness := (true, "58ae36c667b9080c0f832293a9759ee59addeaf486eeea5eaba839f7c2bc58d9"), looks := true }, kinds := [], alts := [], laidByText := true, laidKinds := [.data, .data], laidTests := true, laidLooks := .later }
def ChooseStaysUptoCardSaid : Prop := Claim7.holds Tryd.pinned (.plain (OpenSpec.upto chooseStaysSpec)) chooseStaysUptoCard

/-- THE SECOND FORM's CARD OF 'dynamolaw22.ChooseDark'. -/
def chooseDarkUptoCard : Claim7 := { stood := { row := chooseDarkUptoRow, standIns := [], harness := (true, "58ae36c667b9080c0f832293a9759ee59addeaf486eeea5eaba839f7c2bc58d9"), looks := true }, kinds := [], alts := [], laidByText := true, laidKinds := [.data, .data], laidTests := true, laidLooks := .later }
def ChooseDarkUptoCardSaid : Prop := Claim7.holds Tryd.pinned (.plain (OpenSpec.upto chooseDarkSpec)) chooseDarkUptoCard

/-- THE SECOND FORM's CARD OF 'dynamolaw22.ChooseLess'. -/
def chooseLessUptoCard : Claim7 := { stood := { row := chooseLessUptoRow, standIns := [], harness := (true, "58ae36c667b9080c0f832293a9759ee59addeaf486eeea5eaba839f7c2bc58d9"), looks := true }, kinds := [], alts := [], laidByText := true, laidKinds := [.data, .data], laidTests := true, laidLooks := .later }
def ChooseLessUptoCardSaid : Prop := Claim7.holds Tryd.pinned (.plain (OpenSpec.upto chooseLessSpec)) chooseLessUptoCard

/-- THE SECOND FORM's CARD OF 'dynamolaw20.ChargePlays'. -/
def chargePlaysUptoCard : Claim7 := { stood := { row := chargePlaysUptoRow, standIns := [], harness := (true, "58ae36c667b9080c0f832293a9759ee59addeaf486eeea5eaba839f7c2bc58d9"), looks := true }, kinds := [], alts := [], laidByText := true, laidKinds := [.sentinel, .sentinel, .sentinel, .sentinel], laidTests := true, laidLooks := .later }
def ChargePlaysUptoCardSaid : Prop := Claim7.holds Tryd.pinned (.plain (OpenSpec.upto chargePlaysSpec)) chargePlaysUptoCard

/-- THE SECOND FORM's CARD OF 'dynamolaw20.ChargeHolds'. -/
def chargeHoldsUptoCard : Claim7 := { stood := { row := chargeHoldsUptoRow, standIns := [], harness := (true, "58ae36c667b9080c0f832293a9759ee59addeaf486eeea5eaba839f7c2bc58d9"), looks := true }, kinds := [], alts := [], laidByText := true, laidKinds := [.sentinel, .sentinel, .sentinel, .sentinel], laidTests := true, laidLooks := .later }
def ChargeHoldsUptoCardSaid : Prop := Claim7.holds Tryd.pinned (.plain (OpenSpec.upto chargeHoldsSpec)) chargeHoldsUptoCard

/-- THE SECOND FORM's CARD OF 'dynamolaw20.ChargeKnown'. -/
def chargeKnownUptoCard : Claim7 := { stood := { row := chargeKnownUptoRow, standIns := [], harness := (true, "58ae36c667b9080c0f832293a9759ee59addeaf486eeea5eaba839f7c2bc58d9"), looks := true }, kinds := [], alts := [], laidByText := true, laidKinds := [.sentinel, .sentinel, .sentinel, .sentinel], laidTests := true, laidLooks := .later }
def ChargeKnownUptoCardSaid : Prop := Claim7.holds Tryd.pinned (.plain (OpenSpec.upto chargeKnownSpec)) chargeKnownUptoCard

/-- THE SECOND FORM's CARD OF 'dynamolaw20.ChargeApart'. -/
def chargeApartUptoCard : Claim7 := { stood := { row := chargeApartUptoRow, standIns := [], harness := (true, "58ae36c667b9080c0f832293a9759ee59addeaf486eeea5eaba839f7c2bc58d9"), looks := true }, kinds := [], alts := [], laidByText := true, laidKinds := [.sentinel, .sentinel, .sentinel, .sentinel], laidTests := true, laidLooks := .later }
def ChargeApartUptoCardSaid : Prop := Claim7.holds Tryd.pinned (.plain (OpenSpec.upto chargeApartSpec)) chargeApartUptoCard

/-- THE SECOND FORM's CARD OF 'dynamolaw25.ShedTrips'. -/
def shedTripsUptoCard : Claim7 := { stood := { row := shedTripsUptoRow, standIns := [], harness := (true, "58ae36c667b9080c0f832293a9759ee59addeaf486eeea5eaba839f7c2bc58d9"), looks := true }, kinds := [], alts := [], laidByText := true, laidKinds := [.data, .data], laidTests := true, laidLooks := .later }
def ShedTripsUptoCardSaid : Prop := Claim7.holds Tryd.pinned (.plain (OpenSpec.upto shedTripsSpec)) shedTripsUptoCard

/-- THE SECOND FORM's CARD OF 'dynamolaw25.ShedKeeps'. -/
def shedKeepsUptoCard : Claim7 := { stood := { row := shedKeepsUptoRow, standIns := [], harness := (true, "58ae36c667b9080c0f832293a9759ee59addeaf486eeea5eaba839f7c2bc58d9"), looks := true }, kinds := [], alts := [], laidByText := true, laidKinds := [.data, .data], laidTests := true, laidLooks := .later }
def ShedKeepsUptoCardSaid : Prop := Claim7.holds Tryd.pinned (.plain (OpenSpec.upto shedKeepsSpec)) shedKeepsUptoCard

/-- THE SECOND FORM's CARD OF 'dynamolaw25.ShedBacks'. -/
def shedBacksUptoCard : Claim7 := { stood := { row := shedBacksUptoRow, standIns := [], harness := (true, "58ae36c667b9080c0f832293a9759ee59addeaf486eeea5eaba839f7c2bc58d9"), looks := true }, kinds := [], alts := [], laidByText := true, laidKinds := [.data, .data], laidTests := true, laidLooks := .later }
def ShedBacksUptoCardSaid : Prop := Claim7.holds Tryd.pinned (.plain (OpenSpec.upto shedBacksSpec)) shedBacksUptoCard

/-- THE SECOND FORM's CARD OF 'dynamolaw25.ShedRooms'. -/
def shedRoomsUptoCard : Claim7 := { stood := { row := shedRoomsUptoRow, standIns := [], harness := (true, "58ae36c667b9080c0f832293a9759ee59addeaf486eeea5eaba839f7c2bc58d9"), looks := true }, kinds := [], alts := [], laidByText := true, laidKinds := [.data, .data], laidTests := true, laidLooks := .later }
def ShedRoomsUptoCardSaid : Prop := Claim7.holds Tryd.pinned (.plain (OpenSpec.upto shedRoomsSpec)) shedRoomsUptoCard

/-- THE SECOND FORM's CARD OF 'dynamolaw25.ShedLoads'. -/
def shedLoadsUptoCard : Claim7 := { stood := { row := shedLoadsUptoRow, standIns := [], harness := (true, "58ae36c667b9080c0f832293a9759ee59addeaf486eeea5eaba839f7c2bc58d9"), looks := true }, kinds := [], alts := [], laidByText := true, laidKinds := [.data, .data], laidTests := true, laidLooks := .later }
def ShedLoadsUptoCardSaid : Prop := Claim7.holds Tryd.pinned (.plain (OpenSpec.upto shedLoadsSpec)) shedLoadsUptoCard

/-- THE SECOND FORM's CARD OF 'dynamolaw25.ShedCharges'. -/
def shedChargesUptoCard : Claim7 := { stood := { row := shedChargesUptoRow, standIns := [], harness := (true, "58ae36c667b9080c0f832293a9759ee59addeaf486eeea5eaba839f7c2bc58d9"), looks := true }, kinds := [], alts := [], laidByText := true, laidKinds := [.data, .data], laidTests := true, laidLooks := .later }
def ShedChargesUptoCardSaid : Prop := Claim7.holds Tryd.pinned (.plain (OpenSpec.upto shedChargesSpec)) shedChargesUptoCard

/-- THE SECOND FORM's CARD OF 'dynamolaw25.ShedSays'. -/
def shedSaysUptoCard : Claim7 := { stood := { row := shedSaysUptoRow, standIns := [], harness := (true, "58ae36c667b9080c0f832293a9759ee59addeaf486eeea5eaba839f7c2bc58d9"), looks := true }, kinds := [], alts := [], laidByText := true, laidKinds := [.data, .data], laidTests := true, laidLooks := .later }
def ShedSaysUptoCardSaid : Prop := Claim7.holds Tryd.pinned (.plain (OpenSpec.upto shedSaysSpec)) shedSaysUptoCard
end Rows
end Go.Proofs.YtlhhcongoplfpaaDoor
