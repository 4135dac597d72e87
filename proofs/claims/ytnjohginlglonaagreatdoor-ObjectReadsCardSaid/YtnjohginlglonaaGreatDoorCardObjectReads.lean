/- Part of the proof. No condition. -/
import Derived.Test.YtnjohginlglonaaGreatDoorP7
import Derived.ChangeMaps5
import Derived.Test.YtnjohginlglonaaGreatDoorTie
import Derived.Test.YtnjohginlglonaaGreatDoorCards
import Derived.SevenTiedAt
set_option linter.unusedVariables false
set_option linter.unusedSimpArgs false
set_option maxRecDepth 100000
namespace Go.Proofs.YtnjohginlglonaaGreatDoor
open Go Go.Sx Go.Sx.Ob
theorem objectReads_main : Tryz.prog.mainIs = some (true, ("5e070ed63d590901711719e497195320cb4c0d530201f416a229c45360423fb1" : String).toList) := by kernel_rfl
theorem objectReads_looks : true = Tryz.prog.looks [] := by kernel_rfl
theorem objectReads_goes : false = Rows.objectReadsRow.goesBy Tryz.prog := by kernel_rfl
theorem objectReads_named : Tryz.prog.funcNamed "spandrel/spandrellaw10.ObjectReads" = some 3 := by kernel_rfl
theorem objectReads_card : Rows.ObjectReadsCardSaid :=
  Claim7.holds_tied_plain_at .later [] [.data, .data, .data, .widerDeep] true (true, "5e070ed63d590901711719e497195320cb4c0d530201f416a229c45360423fb1") true
    objectReads_holds (fun _ h => by cases h) (by kernel_rfl) (fun _ h => by cases h) objectReads_row_tie rfl ⟨rfl, rfl⟩ objectReads_main rfl
    (fun f fn hf hfn => by
      obtain rfl : f = 3 := Option.some.inj (objectReads_named.symm.trans hf) |>.symm
      obtain rfl : fn = Tryz.f3 := (Option.some.inj (Tryz.func3.symm.trans hfn)).symm
      exact ⟨objectReads_looks, fun j t ht => by
        rw [show Tryz.f3.params = #[22] by kernel_rfl] at ht
        have hm : t ∈ ([22] : List TypeId) := by simpa using Array.mem_of_getElem? ht
        have hall : (([22] : List TypeId).all fun u => !Tryz.prog.wantsStandIn u) = true := by kernel_rfl
        exact (show Tryz.prog.wantsStandIn t = false by simpa using List.all_eq_true.1 hall t hm)⟩)
    objectReads_goes
end Go.Proofs.YtnjohginlglonaaGreatDoor
