/- The tied card TableWrong: for every input the law returns true, and each argument reads behind the call as it read before, where the listed error variables read as they are laid. No condition beyond those of the given card.
   By an AI agent. -/
import Derived.Test.YtlhhcongoplfpaaDoorRowTableWrong
import Derived.Test.YtlhhcongoplfpaaDoorDJ3
import Derived.Test.YtlhhcongoplfpaaDoorCards
import Derived.Test.YtlhhcongoplfpaaDoorTie
import Derived.SevenTiedAt
import Derived.WalkKit
-- written by this work with wip/ab/gencard.py
namespace Go.Proofs.YtlhhcongoplfpaaDoor.tableWrong
open Go.ChangeShapes Go.WideShapes Go.ChangeAt Go.RowKit Go.Proofs.YtlhhcongoplfpaaDoorAB
theorem card_holds : Rows.TableWrongCardSaid :=
  Claim7.holds_tied_plain_at .later [] [.sentinel, .sentinel, .sentinel, .sentinel, .sentinel, .sentinel, .sentinel] true (true, "58ae36c667b9080c0f832293a9759ee59addeaf486eeea5eaba839f7c2bc58d9") true
    over (fun _ h => by cases h) (by kernel_rfl) (fun _ h => by cases h) tableWrong_row_tie rfl ⟨rfl, rfl⟩ Words.mainIs rfl
    (fun f fn hf hfn => by
      obtain rfl : f = 3 := Option.some.inj ((show Tryd.prog.funcNamed "dynamo/dynamolaw3.TableWrong" = some 3 by kernel_rfl).symm.trans hf) |>.symm
      obtain rfl : fn = Tryd.f3 := (Option.some.inj (Tryd.func3.symm.trans hfn)).symm
      exact ⟨by kernel_rfl, fun j t ht => by
        rw [Tryd.params3] at ht
        have hm := List.mem_of_getElem? (show (#[22, 2, 3, 3] : Array TypeId).toList[j]? = some t by simpa using ht)
        have key : (#[22, 2, 3, 3] : Array TypeId).toList.all (fun t => Tryd.prog.wantsStandIn t == false) = true := by kernel_rfl
        exact eq_of_beq (List.all_eq_true.1 key t hm)⟩)
    (by kernel_rfl)
end Go.Proofs.YtlhhcongoplfpaaDoor.tableWrong
namespace Go.Proofs.YtlhhcongoplfpaaDoor
/-- The tied card, under a short name, for the claim. -/
theorem tableWrong_card_holds : Rows.TableWrongCardSaid := tableWrong.card_holds
#print axioms tableWrong_card_holds
end Go.Proofs.YtlhhcongoplfpaaDoor
