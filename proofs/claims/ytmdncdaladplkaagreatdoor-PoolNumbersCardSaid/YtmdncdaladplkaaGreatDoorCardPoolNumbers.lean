/- Part of the proof. No condition. -/
import Derived.Test.YtmdncdaladplkaaGreatDoorRowPoolNumbers
import Derived.ChangeMaps5
import Derived.Test.YtmdncdaladplkaaGreatDoorTie
import Derived.Test.YtmdncdaladplkaaGreatDoorCards
import Derived.SevenTiedAt
set_option linter.unusedVariables false
set_option linter.unusedSimpArgs false
set_option maxRecDepth 100000
namespace Go.Proofs.YtmdncdaladplkaaGreatDoor
open Go Go.Sx Go.Sx.Ob
theorem poolNumbers_main : Tryz.prog.mainIs = some (true, ("fdebb4bce3927f145eeb220c5d487bf7b7ef8749252c2ca4764b6765cf842db8" : String).toList) := by kernel_rfl
theorem poolNumbers_looks : false = Tryz.prog.looks [] := by kernel_rfl
theorem poolNumbers_goes : false = Rows.poolNumbersRow.goesBy Tryz.prog := by kernel_rfl
theorem poolNumbers_named : Tryz.prog.funcNamed "spandrel/spandrellaw13.PoolNumbers" = some 3 := by kernel_rfl
theorem poolNumbers_card : Rows.PoolNumbersCardSaid :=
  Claim7.holds_tied_plain_at .later [] [.data, .data, .data, .widerDeep] true (true, "fdebb4bce3927f145eeb220c5d487bf7b7ef8749252c2ca4764b6765cf842db8") false
    poolNumbers_holds (fun _ h => by cases h) (by kernel_rfl) (fun _ h => by cases h) poolNumbers_row_tie rfl ⟨rfl, rfl⟩ poolNumbers_main rfl
    (fun f fn hf hfn => by
      obtain rfl : f = 3 := Option.some.inj (poolNumbers_named.symm.trans hf) |>.symm
      obtain rfl : fn = Tryz.f3 := (Option.some.inj (Tryz.func3.symm.trans hfn)).symm
      exact ⟨poolNumbers_looks, fun j t ht => by
        rw [show Tryz.f3.params = #[] by kernel_rfl] at ht
        have hm : t ∈ ([] : List TypeId) := by simpa using Array.mem_of_getElem? ht
        have hall : (([] : List TypeId).all fun u => !Tryz.prog.wantsStandIn u) = true := by kernel_rfl
        exact (show Tryz.prog.wantsStandIn t = false by simpa using List.all_eq_true.1 hall t hm)⟩)
    poolNumbers_goes
end Go.Proofs.YtmdncdaladplkaaGreatDoor
