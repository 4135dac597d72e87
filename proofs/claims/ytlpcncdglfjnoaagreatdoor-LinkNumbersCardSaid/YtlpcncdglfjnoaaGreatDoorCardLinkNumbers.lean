/- Part of the proof. No condition. -/
import Derived.Test.YtlpcncdglfjnoaaGreatDoorP1
set_option linter.unusedVariables false
set_option linter.unusedSimpArgs false
set_option maxRecDepth 100000
namespace Go.Proofs.YtlpcncdglfjnoaaGreatDoor
open Go Go.Sx Go.Sx.Ob
theorem linkNumbers_main : Tryz.prog.mainIs = some (true, ("ee5cd2bcb8bab2fe889ad488d653c6699e1fdabeb776c7919584d3193b170dc4" : String).toList) := by kernel_rfl
theorem linkNumbers_looks:false=Tryz.prog.looks []:=by kernel_rfl
theorem linkNumbers_goes:false=Rows.linkNumbersRow.goesBy Tryz.prog:=by kernel_rfl
theorem linkNumbers_named : Tryz.prog.funcNamed "spandrel/spandrellaw12.LinkNumbers" = some 6 := by kernel_rfl
theorem linkNumbers_card:Rows.LinkNumbersCardSaid :=
 Claim7.holds_tied_plain_at .later [] [.data, .data, .data, .widerDeep] true (true, "ee5cd2bcb8bab2fe889ad488d653c6699e1fdabeb776c7919584d3193b170dc4") false
  linkNumbers_holds (fun _ h=>by cases h) (by kernel_rfl) (fun _ h=>by cases h) linkNumbers_row_tie rfl ⟨rfl,rfl⟩ linkNumbers_main rfl
  (fun f fn hf hfn=>by
   obtain rfl:f=6:=Option.some.inj (linkNumbers_named.symm.trans hf) |>.symm
   obtain rfl:fn=Tryz.f6:=(Option.some.inj (Tryz.func6.symm.trans hfn)).symm
   exact ⟨linkNumbers_looks,fun j t ht=>by
    rw [show Tryz.f6.params=#[] by kernel_rfl] at ht
    have hm:t∈([]:List TypeId):=by simpa using Array.mem_of_getElem? ht
    have hall:(([]:List TypeId).all fun u=>!Tryz.prog.wantsStandIn u)=true:=by kernel_rfl
    exact (show Tryz.prog.wantsStandIn t=false by simpa using List.all_eq_true.1 hall t hm)⟩)
  linkNumbers_goes
end Go.Proofs.YtlpcncdglfjnoaaGreatDoor
