/- The tied card ShedRooms: for every input the law returns true, and each argument reads behind the call as it read before, where the listed error variables read as they are laid. No condition beyond those of the given card.
   By an AI agent. -/
import Derived.Test.YtlhhcongoplfpaaDoorRowShedRooms
import Derived.Test.YtlhhcongoplfpaaDoorDJ3
import Derived.Test.YtlhhcongoplfpaaDoorCards
import Derived.Test.YtlhhcongoplfpaaDoorTie
import Derived.SevenTiedAt
import Derived.WalkKit
-- written by this work with wip/ab/gencard.py
namespace Go.Proofs.YtlhhcongoplfpaaDoor.shedRooms
open Go.ChangeShapes Go.WideShapes Go.ChangeAt Go.RowKit Go.Proofs.YtlhhcongoplfpaaDoorAB
theorem card_holds : Rows.ShedRoomsCardSaid :=
  Claim7.holds_tied_plain_at .later [] [.data, .data] true (true, "58ae36c667b9080c0f832293a9759ee59addeaf486eeea5eaba839f7c2bc58d9") true
    over (fun _ h => by cases h) (by kernel_rfl) (fun _ h => by cases h) shedRooms_row_tie rfl ⟨rfl, rfl⟩ Words.mainIs rfl
    (fun f fn hf hfn => by
      obtain rfl : f = 23 := Option.some.inj ((show Tryd.prog.funcNamed "dynamo/dynamolaw25.ShedRooms" = some 23 by kernel_rfl).symm.trans hf) |>.symm
      obtain rfl : fn = Tryd.f23 := (Option.some.inj (Tryd.func23.symm.trans hfn)).symm
      exact ⟨by kernel_rfl, fun j t ht => by
        rw [Tryd.params23] at ht
        have hm := List.mem_of_getElem? (show (#[3, 3, 3, 3, 3, 4] : Array TypeId).toList[j]? = some t by simpa using ht)
        have key : (#[3, 3, 3, 3, 3, 4] : Array TypeId).toList.all (fun t => Tryd.prog.wantsStandIn t == false) = true := by kernel_rfl
        exact eq_of_beq (List.all_eq_true.1 key t hm)⟩)
    (by kernel_rfl)
end Go.Proofs.YtlhhcongoplfpaaDoor.shedRooms
namespace Go.Proofs.YtlhhcongoplfpaaDoor
/-- The tied card, under a short name, for the claim. -/
theorem shedRooms_card_holds : Rows.ShedRoomsCardSaid := shedRooms.card_holds
#print axioms shedRooms_card_holds
end Go.Proofs.YtlhhcongoplfpaaDoor
