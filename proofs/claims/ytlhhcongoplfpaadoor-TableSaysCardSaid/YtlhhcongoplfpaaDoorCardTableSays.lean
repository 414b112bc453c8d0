/- The tied card TableSays: for every input the law returns true, and each argument reads behind the call as it read before, where the listed error variables read as they are laid. No condition beyond those of the given card.
   By an AI agent. -/
import Derived.Test.YtlhhcongoplfpaaDoorRowTableSays
import Derived.Test.YtlhhcongoplfpaaDoorDJ3
import Derived.Test.YtlhhcongoplfpaaDoorCards
import Derived.Test.YtlhhcongoplfpaaDoorTie
import Derived.SevenTiedAt
import Derived.WalkKit
-- written by this work with wip/ab/gencard.py
namespace Go.Proofs.YtlhhcongoplfpaaDoor.tableSays
open Go.ChangeShapes Go.WideShapes Go.ChangeAt Go.RowKit Go.Proofs.YtlhhcongoplfpaaDoorAB
theorem card_holds : Rows.TableSaysCardSaid :=
  Claim7.holds_tied_plain_at .later [] [.sentinel, .sentinel, .sentinel, .sentinel, .sentinel, .sentinel, .sentinel] true (true, "58ae36c667b9080c0f832293a9759ee59addeaf486eeea5eaba839f7c2bc58d9") true
    over (fun _ h => by cases h) (by kernel_rfl) (fun _ h => by cases h) tableSays_row_tie rfl ⟨rfl, rfl⟩ Words.mainIs rfl
    (fun f fn hf hfn => by
      obtain rfl : f = 5 := Option.some.inj ((show Tryd.prog.funcNamed "dynamo/dynamolaw3.TableSays" = some 5 by kernel_rfl).symm.trans hf) |>.symm
      obtain rfl : fn = Tryd.f5 := (Option.some.inj (Tryd.func5.symm.trans hfn)).symm
      exact ⟨by kernel_rfl, fun j t ht => by
        rw [Tryd.params5] at ht
        have hm := List.mem_of_getElem? (show (#[24, 22, 2, 2, 2] : Array TypeId).toList[j]? = some t by simpa using ht)
        have key : (#[24, 22, 2, 2, 2] : Array TypeId).toList.all (fun t => Tryd.prog.wantsStandIn t == false) = true := by kernel_rfl
        exact eq_of_beq (List.all_eq_true.1 key t hm)⟩)
    (by kernel_rfl)
end Go.Proofs.YtlhhcongoplfpaaDoor.tableSays
namespace Go.Proofs.YtlhhcongoplfpaaDoor
/-- The tied card, under a short name, for the claim. -/
theorem tableSays_card_holds : Rows.TableSaysCardSaid := tableSays.card_holds
#print axioms tableSays_card_holds
end Go.Proofs.YtlhhcongoplfpaaDoor
