/- Part of the proof. No condition. -/
import Derived.Test.YtfkjiiapldkoeaaGreatDoorP8
set_option linter.unusedVariables false
set_option linter.unusedSimpArgs false
set_option maxRecDepth 100000
namespace Go.Proofs.YtfkjiiapldkoeaaGreatDoor
open Go Go.Sx Go.Sx.Ob
theorem unitNumbers_main : Tryz.prog.mainIs = some (true, ("5498b6cedf65f0ebcd3cbb3dce743c893e21b86ea12e3c306920fe59c4f74dd6" : String).toList) := by kernel_rfl
theorem unitNumbers_looks:true=Tryz.prog.looks []:=by kernel_rfl
theorem unitNumbers_goes:false=Rows.unitNumbersRow.goesBy Tryz.prog:=by kernel_rfl
theorem unitNumbers_named : Tryz.prog.funcNamed "spandrel/spandrellaw9.UnitNumbers" = some 4 := by kernel_rfl
theorem unitNumbers_card:Rows.UnitNumbersCardSaid :=
 Claim7.holds_tied_plain_at .later [] [.data, .data, .data, .widerDeep, .sentinel, .sentinel] true (true, "5498b6cedf65f0ebcd3cbb3dce743c893e21b86ea12e3c306920fe59c4f74dd6") true
  unitNumbers_holds (fun _ h=>by cases h) (by kernel_rfl) (fun _ h=>by cases h) unitNumbers_row_tie rfl ⟨rfl,rfl⟩ unitNumbers_main rfl
  (fun f fn hf hfn=>by
   obtain rfl:f=4:=Option.some.inj (unitNumbers_named.symm.trans hf) |>.symm
   obtain rfl:fn=Tryz.f4:=(Option.some.inj (Tryz.func4.symm.trans hfn)).symm
   exact ⟨unitNumbers_looks,fun j t ht=>by
    rw [show Tryz.f4.params=#[] by kernel_rfl] at ht
    have hm:t∈([]:List TypeId):=by simpa using Array.mem_of_getElem? ht
    have hall:(([]:List TypeId).all fun u=>!Tryz.prog.wantsStandIn u)=true:=by kernel_rfl
    exact (show Tryz.prog.wantsStandIn t=false by simpa using List.all_eq_true.1 hall t hm)⟩)
  unitNumbers_goes
end Go.Proofs.YtfkjiiapldkoeaaGreatDoor
