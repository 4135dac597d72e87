/- Part of the proof. No condition. -/
import Derived.Test.YthbffkdafjboiaaGreatDoorRowPlainNumbers
import Derived.ChangeMaps5
import Derived.Test.YthbffkdafjboiaaGreatDoorTie
import Derived.Test.YthbffkdafjboiaaGreatDoorCards
import Derived.SevenTiedAt
set_option linter.unusedVariables false
set_option linter.unusedSimpArgs false
set_option maxRecDepth 100000
namespace Go.Proofs.YthbffkdafjboiaaGreatDoor
open Go Go.Sx Go.Sx.Ob
theorem plainNumbers_main : Tryz.prog.mainIs = some (true, ("9cbff0020a4efb0fad1d1630e1cbe349369293419971d84bfc309fa82710c061" : String).toList) := by kernel_rfl
theorem plainNumbers_looks : false = Tryz.prog.looks [] := by kernel_rfl
theorem plainNumbers_goes : false = Rows.plainNumbersRow.goesBy Tryz.prog := by kernel_rfl
theorem plainNumbers_named : Tryz.prog.funcNamed "spandrel/spandrellaw21.PlainNumbers" = some 3 := by kernel_rfl
theorem plainNumbers_card : Rows.PlainNumbersCardSaid :=
  Claim7.holds_tied_plain_at .later [] [.data, .data, .data, .widerDeep] true (true, "9cbff0020a4efb0fad1d1630e1cbe349369293419971d84bfc309fa82710c061") false
    plainNumbers_holds (fun _ h => by cases h) (by kernel_rfl) (fun _ h => by cases h) plainNumbers_row_tie rfl ⟨rfl, rfl⟩ plainNumbers_main rfl
    (fun f fn hf hfn => by
      obtain rfl : f = 3 := Option.some.inj (plainNumbers_named.symm.trans hf) |>.symm
      obtain rfl : fn = Tryz.f3 := (Option.some.inj (Tryz.func3.symm.trans hfn)).symm
      exact ⟨plainNumbers_looks, fun j t ht => by
        rw [show Tryz.f3.params = #[] by kernel_rfl] at ht
        have hm : t ∈ ([] : List TypeId) := by simpa using Array.mem_of_getElem? ht
        have hall : (([] : List TypeId).all fun u => !Tryz.prog.wantsStandIn u) = true := by kernel_rfl
        exact (show Tryz.prog.wantsStandIn t = false by simpa using List.all_eq_true.1 hall t hm)⟩)
    plainNumbers_goes
end Go.Proofs.YthbffkdafjboiaaGreatDoor
