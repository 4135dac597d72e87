/- Part of the proof. No condition. -/
import Derived.Test.YtgnhjkofpmchpaaGreatDoorP10
set_option linter.unusedVariables false
set_option linter.unusedSimpArgs false
set_option maxRecDepth 100000
namespace Go.Proofs.YtgnhjkofpmchpaaGreatDoor
open Go Go.Sx Go.Sx.Ob
theorem itemRight_main : Tryz.prog.mainIs = some (true, ("a7191d8b51b2bd2e21c4ae1a03a1bd479d2f92bbcf4c60da93f538e3bb4055fa" : String).toList) := by kernel_rfl
theorem itemRight_looks:true=Tryz.prog.looks []:=by kernel_rfl
theorem itemRight_goes:false=Rows.itemRightRow.goesBy Tryz.prog:=by kernel_rfl
theorem itemRight_named : Tryz.prog.funcNamed "spandrel/spandrellaw8.ItemRight" = some 6 := by kernel_rfl
theorem itemRight_card:Rows.ItemRightCardSaid :=
 Claim7.holds_tied_plain_at .later [] [.data, .data, .data, .widerDeep, .sentinel, .sentinel] true (true, "a7191d8b51b2bd2e21c4ae1a03a1bd479d2f92bbcf4c60da93f538e3bb4055fa") true
  itemRight_holds (fun _ h=>by cases h) (by kernel_rfl) (fun _ h=>by cases h) itemRight_row_tie rfl ⟨rfl,rfl⟩ itemRight_main rfl
  (fun f fn hf hfn=>by
   obtain rfl:f=6:=Option.some.inj (itemRight_named.symm.trans hf) |>.symm
   obtain rfl:fn=Tryz.f6:=(Option.some.inj (Tryz.func6.symm.trans hfn)).symm
   exact ⟨itemRight_looks,fun j t ht=>by
    rw [show Tryz.f6.params=#[54,3] by kernel_rfl] at ht
    have hm:t∈([54,3]:List TypeId):=by simpa using Array.mem_of_getElem? ht
    have hall:(([54,3]:List TypeId).all fun u=>!Tryz.prog.wantsStandIn u)=true:=by kernel_rfl
    exact (show Tryz.prog.wantsStandIn t=false by simpa using List.all_eq_true.1 hall t hm)⟩)
  itemRight_goes
end Go.Proofs.YtgnhjkofpmchpaaGreatDoor
