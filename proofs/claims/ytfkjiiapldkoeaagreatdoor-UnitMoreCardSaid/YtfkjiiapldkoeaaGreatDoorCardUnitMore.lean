/- Part of the proof. No condition. -/
import Derived.Test.YtfkjiiapldkoeaaGreatDoorP7
set_option linter.unusedVariables false
set_option linter.unusedSimpArgs false
set_option maxRecDepth 100000
namespace Go.Proofs.YtfkjiiapldkoeaaGreatDoor
open Go Go.Sx Go.Sx.Ob
theorem wu : Tryz.prog.mainIs = some (true, ("5498b6cedf65f0ebcd3cbb3dce743c893e21b86ea12e3c306920fe59c4f74dd6" : String).toList) := by kernel_rfl
theorem um:true=Tryz.prog.looks []:=by kernel_rfl
theorem wh:false=Rows.unitMoreRow.goesBy Tryz.prog:=by kernel_rfl
theorem vR : Tryz.prog.funcNamed "spandrel/spandrellaw9.UnitMore" = some 8 := by kernel_rfl
theorem unitMore_card:Rows.UnitMoreCardSaid :=
 Claim7.holds_tied_plain_at .later [] [.data, .data, .data, .widerDeep, .handle, .sentinel, .sentinel] true (true, "5498b6cedf65f0ebcd3cbb3dce743c893e21b86ea12e3c306920fe59c4f74dd6") true
  tK (fun _ h=>by cases h) (by kernel_rfl) (fun _ h=>by cases h) unitMore_row_tie rfl ⟨rfl,rfl⟩ wu rfl
  (fun f fn hf hfn=>by
   obtain rfl:f=8:=Option.some.inj (vR.symm.trans hf) |>.symm
   obtain rfl:fn=Tryz.f8:=(Option.some.inj (Tryz.func8.symm.trans hfn)).symm;exact ⟨um,fun j t ht=>by
    rw [show Tryz.f8.params=#[9,9] by kernel_rfl] at ht;have hm:t∈([9,9]:List TypeId):=by simpa using Array.mem_of_getElem? ht
    have hall:(([9,9]:List TypeId).all fun u=>!Tryz.prog.wantsStandIn u)=true:=by kernel_rfl
    exact (show Tryz.prog.wantsStandIn t=false by simpa using List.all_eq_true.1 hall t hm)⟩)
  wh
end Go.Proofs.YtfkjiiapldkoeaaGreatDoor
