/- Part of the proof. No condition. -/
import Derived.Test.YtgnhjkofpmchpaaGreatDoorP9
set_option linter.unusedVariables false
set_option linter.unusedSimpArgs false
set_option maxRecDepth 100000
namespace Go.Proofs.YtgnhjkofpmchpaaGreatDoor
open Go Go.Sx Go.Sx.Ob
theorem itemNumbers_main : Tryz.prog.mainIs = some (true, ("a7191d8b51b2bd2e21c4ae1a03a1bd479d2f92bbcf4c60da93f538e3bb4055fa" : String).toList) := by kernel_rfl
theorem itemNumbers_looks:true=Tryz.prog.looks []:=by kernel_rfl
theorem itemNumbers_goes:false=Rows.itemNumbersRow.goesBy Tryz.prog:=by kernel_rfl
theorem itemNumbers_named : Tryz.prog.funcNamed "spandrel/spandrellaw8.ItemNumbers" = some 5 := by kernel_rfl
theorem itemNumbers_card:Rows.ItemNumbersCardSaid :=
 Claim7.holds_tied_plain_at .later [] [.data, .data, .data, .widerDeep, .sentinel, .sentinel] true (true, "a7191d8b51b2bd2e21c4ae1a03a1bd479d2f92bbcf4c60da93f538e3bb4055fa") true
  itemNumbers_holds (fun _ h=>by cases h) (by kernel_rfl) (fun _ h=>by cases h) itemNumbers_row_tie rfl ⟨rfl,rfl⟩ itemNumbers_main rfl
  (fun f fn hf hfn=>by
   obtain rfl:f=5:=Option.some.inj (itemNumbers_named.symm.trans hf) |>.symm
   obtain rfl:fn=Tryz.f5:=(Option.some.inj (Tryz.func5.symm.trans hfn)).symm
   exact ⟨itemNumbers_looks,fun j t ht=>by
    rw [show Tryz.f5.params=#[] by kernel_rfl] at ht
    have hm:t∈([]:List TypeId):=by simpa using Array.mem_of_getElem? ht
    have hall:(([]:List TypeId).all fun u=>!Tryz.prog.wantsStandIn u)=true:=by kernel_rfl
    exact (show Tryz.prog.wantsStandIn t=false by simpa using List.all_eq_true.1 hall t hm)⟩)
  itemNumbers_goes
end Go.Proofs.YtgnhjkofpmchpaaGreatDoor
