/- Part of the proof. No condition. -/
import Derived.Test.YtgnhjkofpmchpaaGreatDoorVP10
set_option linter.unusedVariables false
set_option linter.unusedSimpArgs false
set_option maxRecDepth 100000
namespace Go.Proofs.YtgnhjkofpmchpaaGreatDoor
open Go Go.Sx Go.Sx.Ob
theorem itemKept_main : Tryz.prog.mainIs = some (true, ("a7191d8b51b2bd2e21c4ae1a03a1bd479d2f92bbcf4c60da93f538e3bb4055fa" : String).toList) := by kernel_rfl
theorem itemKept_looks:true=Tryz.prog.looks []:=by kernel_rfl
theorem itemKept_goes:false=Rows.itemKeptRow.goesBy Tryz.prog:=by kernel_rfl
theorem itemKept_named : Tryz.prog.funcNamed "spandrel/spandrellaw8.ItemKept" = some 4 := by kernel_rfl
theorem itemKept_card:Rows.ItemKeptCardSaid :=
 Claim7.holds_tied_plain_at .later [] [.data, .data, .data, .widerDeep, .sentinel, .sentinel] true (true, "a7191d8b51b2bd2e21c4ae1a03a1bd479d2f92bbcf4c60da93f538e3bb4055fa") true
  itemKept_holds (fun _ h=>by cases h) (by kernel_rfl) (fun _ h=>by cases h) itemKept_row_tie rfl ⟨rfl,rfl⟩ itemKept_main rfl
  (fun f fn hf hfn=>by
   obtain rfl:f=4:=Option.some.inj (itemKept_named.symm.trans hf) |>.symm
   obtain rfl:fn=Tryz.f4:=(Option.some.inj (Tryz.func4.symm.trans hfn)).symm
   exact ⟨itemKept_looks,fun j t ht=>by
    rw [show Tryz.f4.params=#[9] by kernel_rfl] at ht
    have hm:t∈([9]:List TypeId):=by simpa using Array.mem_of_getElem? ht
    have hall:(([9]:List TypeId).all fun u=>!Tryz.prog.wantsStandIn u)=true:=by kernel_rfl
    exact (show Tryz.prog.wantsStandIn t=false by simpa using List.all_eq_true.1 hall t hm)⟩)
  itemKept_goes
end Go.Proofs.YtgnhjkofpmchpaaGreatDoor
