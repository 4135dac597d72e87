/- Part of the proof. No condition. -/
import Derived.Test.YtfkjiiapldkoeaaGreatDoorP9
set_option linter.unusedVariables false
set_option linter.unusedSimpArgs false
set_option maxRecDepth 100000
namespace Go.Proofs.YtfkjiiapldkoeaaGreatDoor
open Go Go.Sx Go.Sx.Ob
theorem wQ : Tryz.prog.mainIs = some (true, ("5498b6cedf65f0ebcd3cbb3dce743c893e21b86ea12e3c306920fe59c4f74dd6" : String).toList) := by kernel_rfl
theorem uj:true=Tryz.prog.looks []:=by kernel_rfl
theorem wm:false=Rows.unitRightUptoRow.goesBy Tryz.prog:=by kernel_rfl
theorem uI : Tryz.prog.funcNamed "spandrel/spandrellaw9.UnitRight" = some 5 := by kernel_rfl
theorem unitRight_card:Rows.UnitRightUptoCardSaid :=
 Claim7.holds_tied_plain_at .later [] [.data, .data, .data, .widerDeep, .sentinel, .sentinel] true (true, "5498b6cedf65f0ebcd3cbb3dce743c893e21b86ea12e3c306920fe59c4f74dd6") true
  uC (fun _ h=>by cases h) (by kernel_rfl) (fun _ h=>by cases h) unitRightUpto_row_tie rfl ⟨rfl,rfl⟩ wQ rfl
  (fun f fn hf hfn=>by
   obtain rfl:f=5:=Option.some.inj (uI.symm.trans hf) |>.symm
   obtain rfl:fn=Tryz.f5:=(Option.some.inj (Tryz.func5.symm.trans hfn)).symm;exact ⟨uj,fun j t ht=>by
    rw [show Tryz.f5.params=#[27] by kernel_rfl] at ht;have hm:t∈([27]:List TypeId):=by simpa using Array.mem_of_getElem? ht
    have hall:(([27]:List TypeId).all fun u=>!Tryz.prog.wantsStandIn u)=true:=by kernel_rfl
    exact (show Tryz.prog.wantsStandIn t=false by simpa using List.all_eq_true.1 hall t hm)⟩)
  wm
end Go.Proofs.YtfkjiiapldkoeaaGreatDoor
