/- Part of the proof. No condition. -/
import Derived.Test.YtnjohginlglonaaDoorP7
import Derived.ChangeMaps5
import Derived.Test.YtnjohginlglonaaDoorTie
import Derived.Test.YtnjohginlglonaaDoorCards
import Derived.SevenTiedAt
set_option linter.unusedVariables false
set_option linter.unusedSimpArgs false
set_option maxRecDepth 100000
namespace Go.Proofs.YtnjohginlglonaaDoor
open Go Go.Sx Go.Sx.Ob
theorem objectCuts_main : Tryd.prog.mainIs = some (true, ("b85b73f51b9b3487b4d2ce077a6ab66d047c2c110ec7685050edce9a7ba4165f" : String).toList) := by kernel_rfl
theorem objectCuts_looks : true = Tryd.prog.looks [] := by kernel_rfl
theorem objectCuts_goes : false = Rows.objectCutsUptoRow.goesBy Tryd.prog := by kernel_rfl
theorem objectCuts_named : Tryd.prog.funcNamed "spandrel/spandrellaw10.ObjectCuts" = some 5 := by kernel_rfl
theorem objectCuts_card : Rows.ObjectCutsUptoCardSaid :=
  Claim7.holds_tied_plain_at .later [] [.data, .data, .data, .widerDeep] true (true, "b85b73f51b9b3487b4d2ce077a6ab66d047c2c110ec7685050edce9a7ba4165f") true
    objectCuts_holds (fun _ h => by cases h) (by kernel_rfl) (fun _ h => by cases h) objectCutsUpto_row_tie rfl ⟨rfl, rfl⟩ objectCuts_main rfl
    (fun f fn hf hfn => by
      obtain rfl : f = 5 := Option.some.inj (objectCuts_named.symm.trans hf) |>.symm
      obtain rfl : fn = Tryd.f5 := (Option.some.inj (Tryd.func5.symm.trans hfn)).symm
      exact ⟨objectCuts_looks, fun j t ht => by
        rw [show Tryd.f5.params = #[30, 30, 3, 22] by kernel_rfl] at ht
        have hm : t ∈ ([30, 30, 3, 22] : List TypeId) := by simpa using Array.mem_of_getElem? ht
        have hall : (([30, 30, 3, 22] : List TypeId).all fun u => !Tryd.prog.wantsStandIn u) = true := by kernel_rfl
        exact (show Tryd.prog.wantsStandIn t = false by simpa using List.all_eq_true.1 hall t hm)⟩)
    objectCuts_goes
end Go.Proofs.YtnjohginlglonaaDoor
