/- What functions of this program do, each as a contract that its callers use, and what follows of it in plain numbers.
   By an AI agent. -/
import Derived.Test.YtlhhcongoplfpaaDoorRows
import Derived.Test.YtlhhcongoplfpaaDoorCards
import Derived.WalkKit
import Derived.ProofKit
import Derived.JoinedOf
import Derived.SevenTiedAt
import Derived.Test.YtlhhcongoplfpaaDoorDJ1
/-! The program's head words: each fact that reads them, by the first three of them alone. -/
namespace Go.Proofs.YtlhhcongoplfpaaDoor.Words
open Go
set_option maxRecDepth 20000
theorem make : Tryd.prog.make = some .cut := by
  unfold Program.make
  rw [behind]
  generalize wordsSigns tailW = r
  kernel_rfl
theorem rows : Tryd.prog.doorRows = [(nameBytes Tryd.f170.name).reverse, (nameBytes Tryd.f171.name).reverse, (nameBytes Tryd.f172.name).reverse, (nameBytes Tryd.f173.name).reverse, (nameBytes Tryd.f174.name).reverse, (nameBytes Tryd.f175.name).reverse, (nameBytes Tryd.f176.name).reverse, (nameBytes Tryd.f177.name).reverse, (nameBytes Tryd.f178.name).reverse, (nameBytes Tryd.f179.name).reverse, (nameBytes Tryd.f180.name).reverse] := by kernel_rfl
theorem no0 : (["(look 8)", "(look 8, test files too)", "(list 7)", "(look 7)"].any (endsIn · ((nameBytes Tryd.f170.name).reverse))) = false := by kernel_rfl
theorem no1 : (["(look 8)", "(look 8, test files too)", "(list 7)", "(look 7)"].any (endsIn · ((nameBytes Tryd.f171.name).reverse))) = false := by kernel_rfl
theorem no2 : (["(look 8)", "(look 8, test files too)", "(list 7)", "(look 7)"].any (endsIn · ((nameBytes Tryd.f172.name).reverse))) = false := by kernel_rfl
theorem no3 : (["(look 8)", "(look 8, test files too)", "(list 7)", "(look 7)"].any (endsIn · ((nameBytes Tryd.f173.name).reverse))) = false := by kernel_rfl
theorem no4 : (["(look 8)", "(look 8, test files too)", "(list 7)", "(look 7)"].any (endsIn · ((nameBytes Tryd.f174.name).reverse))) = false := by kernel_rfl
theorem no5 : (["(look 8)", "(look 8, test files too)", "(list 7)", "(look 7)"].any (endsIn · ((nameBytes Tryd.f175.name).reverse))) = false := by kernel_rfl
theorem no6 : (["(look 8)", "(look 8, test files too)", "(list 7)", "(look 7)"].any (endsIn · ((nameBytes Tryd.f176.name).reverse))) = false := by kernel_rfl
theorem no7 : (["(look 8)", "(look 8, test files too)", "(list 7)", "(look 7)"].any (endsIn · ((nameBytes Tryd.f177.name).reverse))) = false := by kernel_rfl
theorem no8 : (["(look 8)", "(look 8, test files too)", "(list 7)", "(look 7)"].any (endsIn · ((nameBytes Tryd.f178.name).reverse))) = false := by kernel_rfl
theorem no9 : (["(look 8)", "(look 8, test files too)", "(list 7)", "(look 7)"].any (endsIn · ((nameBytes Tryd.f179.name).reverse))) = false := by kernel_rfl
theorem no10 : (["(look 8)", "(look 8, test files too)", "(list 7)", "(look 7)"].any (endsIn · ((nameBytes Tryd.f180.name).reverse))) = false := by kernel_rfl
theorem fits_of {P : Program} (h : (P.doorRows.any fun n => ["(look 8)", "(look 8, test files too)", "(list 7)", "(look 7)"].any (endsIn · n)) = false) (he : P.doorRows.isEmpty = false) : P.doorFits [] = true := by
  unfold Program.doorFits
  simp only [h, he]
  rfl
theorem any2 {α : Type} {f : α → Bool} {a : α} {l : List α} (h : f a = false) (k : l.any f = false) : (a :: l).any f = false := by rw [List.any_cons, h, k]; rfl
theorem fits : Tryd.prog.doorFits [] = true := fits_of (by rw [rows]; exact (any2 no0 (any2 no1 (any2 no2 (any2 no3 (any2 no4 (any2 no5 (any2 no6 (any2 no7 (any2 no8 (any2 no9 (any2 no10 rfl)))))))))))) (by rw [rows]; rfl)
theorem noReflect : Tryd.prog.bearsReflect = false := by kernel_rfl
theorem noLater : Tryd.prog.laysLater = false := by kernel_rfl
theorem strip (r : List (List Char)) : stripLifts liftWords ("cut".toList :: r) = ([], "cut".toList :: r) := by kernel_rfl
theorem enter_of {P : Program} {r : List (List Char)} (h : behindMainWord (wordsSigns P.initOrder.toList) = "cut".toList :: r) (h1 : P.laysLater = false) (h2 : P.bearsReflect = false) (h3 : P.doorFits [] = true) : P.mayEnter = true := by
  unfold Program.mayEnter
  rw [h]
  simp only [strip, h1, h2, h3]
  simp
theorem mayEnter : Tryd.prog.mayEnter = true := enter_of behind noLater noReflect fits
theorem liftsFinal : Tryd.prog.liftsFinal = false := by
  unfold Program.liftsFinal Program.headLifts
  rw [behind]
  generalize wordsSigns tailW = r
  kernel_rfl
end Go.Proofs.YtlhhcongoplfpaaDoor.Words
