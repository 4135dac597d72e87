/- Part of the proof. No condition. -/
import Derived.Test.YtgnhjkofpmchpaaGreatDoorP9
set_option linter.unusedVariables false
set_option linter.unusedSimpArgs false
set_option maxRecDepth 100000
namespace Go.Proofs.YtgnhjkofpmchpaaGreatDoor
open Go Go.Sx Go.Sx.Ob
theorem itemFine_main : Tryz.prog.mainIs = some (true, ("a7191d8b51b2bd2e21c4ae1a03a1bd479d2f92bbcf4c60da93f538e3bb4055fa" : String).toList) := by kernel_rfl
theorem itemFine_looks:true=Tryz.prog.looks []:=by kernel_rfl
theorem itemFine_goes:false=Rows.itemFineRow.goesBy Tryz.prog:=by kernel_rfl
theorem itemFine_named : Tryz.prog.funcNamed "spandrel/spandrellaw8.ItemFine" = some 7 := by kernel_rfl
theorem itemFine_card:Rows.ItemFineCardSaid :=
 Claim7.holds_tied_plain_at .later [] [.data, .data, .data, .widerDeep, .sentinel, .sentinel] true (true, "a7191d8b51b2bd2e21c4ae1a03a1bd479d2f92bbcf4c60da93f538e3bb4055fa") true
  itemFine_holds (fun _ h=>by cases h) (by kernel_rfl) (fun _ h=>by cases h) itemFine_row_tie rfl ⟨rfl,rfl⟩ itemFine_main rfl
  (fun f fn hf hfn=>by
   obtain rfl:f=7:=Option.some.inj (itemFine_named.symm.trans hf) |>.symm
   obtain rfl:fn=Tryz.f7:=(Option.some.inj (Tryz.func7.symm.trans hfn)).symm
   exact ⟨itemFine_looks,fun j t ht=>by
    rw [show Tryz.f7.params=#[9,3] by kernel_rfl] at ht
    have hm:t∈([9,3]:List TypeId):=by simpa using Array.mem_of_getElem? ht
    have hall:(([9,3]:List TypeId).all fun u=>!Tryz.prog.wantsStandIn u)=true:=by kernel_rfl
    exact (show Tryz.prog.wantsStandIn t=false by simpa using List.all_eq_true.1 hall t hm)⟩)
  itemFine_goes
end Go.Proofs.YtgnhjkofpmchpaaGreatDoor
