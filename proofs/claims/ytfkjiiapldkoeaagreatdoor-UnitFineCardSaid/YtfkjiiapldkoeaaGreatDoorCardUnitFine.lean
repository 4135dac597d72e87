/- Part of the proof. No condition. -/
import Derived.Test.YtfkjiiapldkoeaaGreatDoorP7
set_option linter.unusedVariables false
set_option linter.unusedSimpArgs false
set_option maxRecDepth 100000
namespace Go.Proofs.YtfkjiiapldkoeaaGreatDoor
open Go Go.Sx Go.Sx.Ob
theorem xf : Tryz.prog.mainIs = some (true, ("5498b6cedf65f0ebcd3cbb3dce743c893e21b86ea12e3c306920fe59c4f74dd6" : String).toList) := by kernel_rfl
theorem vK:true=Tryz.prog.looks []:=by kernel_rfl
theorem xk:false=Rows.unitFineRow.goesBy Tryz.prog:=by kernel_rfl
theorem wu : Tryz.prog.funcNamed "spandrel/spandrellaw9.UnitFine" = some 7 := by kernel_rfl
theorem unitFine_card:Rows.UnitFineCardSaid :=
 Claim7.holds_tied_plain_at .later [] [.data, .data, .data, .widerDeep, .handle, .sentinel, .sentinel] true (true, "5498b6cedf65f0ebcd3cbb3dce743c893e21b86ea12e3c306920fe59c4f74dd6") true
  vu (fun _ h=>by cases h) (by kernel_rfl) (fun _ h=>by cases h) unitFine_row_tie rfl ⟨rfl,rfl⟩ xf rfl
  (fun f fn hf hfn=>by
   obtain rfl:f=7:=Option.some.inj (wu.symm.trans hf) |>.symm
   obtain rfl:fn=Tryz.f7:=(Option.some.inj (Tryz.func7.symm.trans hfn)).symm;exact ⟨vK,fun j t ht=>by
    rw [show Tryz.f7.params=#[9,9] by kernel_rfl] at ht;have hm:t∈([9,9]:List TypeId):=by simpa using Array.mem_of_getElem? ht
    have hall:(([9,9]:List TypeId).all fun u=>!Tryz.prog.wantsStandIn u)=true:=by kernel_rfl
    exact (show Tryz.prog.wantsStandIn t=false by simpa using List.all_eq_true.1 hall t hm)⟩)
  xk
end Go.Proofs.YtfkjiiapldkoeaaGreatDoor
