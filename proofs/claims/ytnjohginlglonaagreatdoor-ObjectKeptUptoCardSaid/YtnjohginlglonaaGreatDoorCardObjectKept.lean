/- Part of the proof. No condition. -/
import Derived.Test.YtnjohginlglonaaGreatDoorP8
import Derived.ChangeMaps5
import Derived.Test.YtnjohginlglonaaGreatDoorTie
import Derived.Test.YtnjohginlglonaaGreatDoorCards
import Derived.SevenTiedAt
set_option linter.unusedVariables false
set_option linter.unusedSimpArgs false
set_option maxRecDepth 100000
namespace Go.Proofs.YtnjohginlglonaaGreatDoor
open Go Go.Sx Go.Sx.Ob
theorem objectKept_main : Tryz.prog.mainIs = some (true, ("5e070ed63d590901711719e497195320cb4c0d530201f416a229c45360423fb1" : String).toList) := by kernel_rfl
theorem objectKept_looks : true = Tryz.prog.looks [] := by kernel_rfl
theorem objectKept_goes : false = Rows.objectKeptUptoRow.goesBy Tryz.prog := by kernel_rfl
theorem objectKept_named : Tryz.prog.funcNamed "spandrel/spandrellaw10.ObjectKept" = some 4 := by kernel_rfl
theorem objectKept_card : Rows.ObjectKeptUptoCardSaid :=
  Claim7.holds_tied_plain_at .later [] [.data, .data, .data, .widerDeep] true (true, "5e070ed63d590901711719e497195320cb4c0d530201f416a229c45360423fb1") true
    objectKept_holds (fun _ h => by cases h) (by kernel_rfl) (fun _ h => by cases h) objectKeptUpto_row_tie rfl ⟨rfl, rfl⟩ objectKept_main rfl
    (fun f fn hf hfn => by
      obtain rfl : f = 4 := Option.some.inj (objectKept_named.symm.trans hf) |>.symm
      obtain rfl : fn = Tryz.f4 := (Option.some.inj (Tryz.func4.symm.trans hfn)).symm
      exact ⟨objectKept_looks, fun j t ht => by
        rw [show Tryz.f4.params = #[28] by kernel_rfl] at ht
        have hm : t ∈ ([28] : List TypeId) := by simpa using Array.mem_of_getElem? ht
        have hall : (([28] : List TypeId).all fun u => !Tryz.prog.wantsStandIn u) = true := by kernel_rfl
        exact (show Tryz.prog.wantsStandIn t = false by simpa using List.all_eq_true.1 hall t hm)⟩)
    objectKept_goes
end Go.Proofs.YtnjohginlglonaaGreatDoor
