/- The tied card ChargeApart: for every input the law returns true, and each argument reads behind the call as it read before, where the listed error variables read as they are laid. No condition beyond those of the given card.
   By an AI agent. -/
-- written by this work with wip/ab/gencard.py
import Derived.Test.YtlhhcongoplfpaaDoorRowChargeApart
import Derived.Test.YtlhhcongoplfpaaDoorDJ3
import Derived.Test.YtlhhcongoplfpaaDoorCards
import Derived.Test.YtlhhcongoplfpaaDoorTie
import Derived.SevenTiedAt
import Derived.WalkKit
namespace Go.Proofs.YtlhhcongoplfpaaDoor.chargeApart
open Go.ChangeShapes Go.WideShapes Go.ChangeAt Go.RowKit Go.Proofs.YtlhhcongoplfpaaDoorAB
theorem card_holds : Rows.ChargeApartCardSaid :=
  Claim7.holds_tied_plain_at .later [] [.sentinel, .sentinel, .sentinel, .sentinel] true (true, "58ae36c667b9080c0f832293a9759ee59addeaf486eeea5eaba839f7c2bc58d9") true
    over (fun _ h => by cases h) (by kernel_rfl) (fun _ h => by cases h) chargeApart_row_tie rfl ⟨rfl, rfl⟩ Words.mainIs rfl
    (fun f fn hf hfn => by
      obtain rfl : f = 19 := Option.some.inj ((show Tryd.prog.funcNamed "dynamo/dynamolaw20.ChargeApart" = some 19 by kernel_rfl).symm.trans hf) |>.symm
      obtain rfl : fn = Tryd.f19 := (Option.some.inj (Tryd.func19.symm.trans hfn)).symm
      exact ⟨by kernel_rfl, fun j t ht => by
        rw [Tryd.params19] at ht
        have hm := List.mem_of_getElem? (show (#[3, 2, 2, 4] : Array TypeId).toList[j]? = some t by simpa using ht)
        have key : (#[3, 2, 2, 4] : Array TypeId).toList.all (fun t => Tryd.prog.wantsStandIn t == false) = true := by kernel_rfl
        exact eq_of_beq (List.all_eq_true.1 key t hm)⟩)
    (by kernel_rfl)
end Go.Proofs.YtlhhcongoplfpaaDoor.chargeApart
namespace Go.Proofs.YtlhhcongoplfpaaDoor
/-- The tied card, under a short name, for the claim. -/
theorem chargeApart_card_holds : Rows.ChargeApartCardSaid := chargeApart.card_holds
#print axioms chargeApart_card_holds
end Go.Proofs.YtlhhcongoplfpaaDoor
