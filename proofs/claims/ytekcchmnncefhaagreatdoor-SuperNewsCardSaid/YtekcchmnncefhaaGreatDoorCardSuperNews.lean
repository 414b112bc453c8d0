/- The tied card SuperNews: for every input the law returns true, and each argument reads behind the call as it read before, where the listed error variables read as they are laid. No condition beyond those of the given card.
   By an AI agent. -/
import Derived.Test.YtekcchmnncefhaaGreatDoorRowSuperNews
import Derived.Test.YtekcchmnncefhaaGreatDoorCards
import Derived.Test.YtekcchmnncefhaaGreatDoorTie
import Derived.SevenTiedAt
import Derived.WalkKit
-- written by this work with wip/ab/law_super.py
namespace Go.Proofs.YtekcchmnncefhaaGreatDoor.superNews
open Go.ChangeShapes Go.WideShapes Go.ChangeAt Go.RowKit Go.Proofs.YtekcchmnncefhaaGreatDoorAB
theorem mainIs : Tryz.prog.mainIs = some (true, "e42900cabab311e828834a6efe485b9a0e721aaf3dd5a2bee9270d0bf5b80e79".toList) := by kernel_rfl
theorem card_holds : Rows.SuperNewsCardSaid :=
  Claim7.holds_tied_plain_at .later [] [.sentinel, .sentinel, .sentinel, .sentinel, .sentinel, .sentinel, .sentinel] true (true, "e42900cabab311e828834a6efe485b9a0e721aaf3dd5a2bee9270d0bf5b80e79") true
    over (fun _ h => by cases h) (by kernel_rfl) (fun _ h => by cases h) superNews_row_tie rfl ⟨rfl, rfl⟩ mainIs rfl
    (fun f fn hf hfn => by
      obtain rfl : f = 3 := Option.some.inj ((show Tryz.prog.funcNamed "dynamo/dynamolaw28.SuperNews" = some 3 by kernel_rfl).symm.trans hf) |>.symm
      obtain rfl : fn = Tryz.f3 := (Option.some.inj (Tryz.func3.symm.trans hfn)).symm
      exact ⟨by kernel_rfl, fun j t ht => by
        rw [Tryz.params3] at ht
        have hm := List.mem_of_getElem? (show (#[25, 3, 3, 3, 26, 31] : Array TypeId).toList[j]? = some t by simpa using ht)
        have key : (#[25, 3, 3, 3, 26, 31] : Array TypeId).toList.all (fun t => Tryz.prog.wantsStandIn t == false) = true := by kernel_rfl
        exact eq_of_beq (List.all_eq_true.1 key t hm)⟩)
    (by kernel_rfl)
end Go.Proofs.YtekcchmnncefhaaGreatDoor.superNews
namespace Go.Proofs.YtekcchmnncefhaaGreatDoor
/-- The tied card, under a short name, for the claim. -/
theorem superNews_card_holds : Rows.SuperNewsCardSaid := superNews.card_holds
#print axioms superNews_card_holds
end Go.Proofs.YtekcchmnncefhaaGreatDoor
