/- Part of the proof. No condition. -/
import Derived.Test.YtlpcncdglfjnoaaGreatDoorP6
set_option linter.all false
set_option maxRecDepth 100000
set_option maxHeartbeats 4000000
namespace Go.Proofs.YtlpcncdglfjnoaaGreatDoor
open Go Go.Sx Go.Sx.Ob
theorem Ax : Tryz.prog.mainIs = some (true, ("ee5cd2bcb8bab2fe889ad488d653c6699e1fdabeb776c7919584d3193b170dc4" : String).toList) :=ax
theorem yN:false=Tryz.prog.looks []:=ax
theorem AD:false=Rows.linkMoreUptoRow.goesBy Tryz.prog:=ax
theorem zR : Tryz.prog.funcNamed "spandrel/spandrellaw12.LinkMore" = some 4 :=ax
theorem linkMore_card:Rows.LinkMoreUptoCardSaid :=
 Claim7.holds_tied_plain_at .later [] [.data, .data, .data, .widerDeep] true (true, "ee5cd2bcb8bab2fe889ad488d653c6699e1fdabeb776c7919584d3193b170dc4") false
  y6 (fun _ h=>by cases h) ax (fun _ h=>by cases h) linkMoreUpto_row_tie rfl ⟨rfl,rfl⟩ Ax rfl
  (fun f fn hf hfn=>by
   obtain rfl:f=4:=Xc (zR.symm.trans hf) |>.symm
   obtain rfl:fn=Tryz.f4:=(Xc (Tryz.func4.symm.trans hfn)).symm;exact ⟨yN,fun j t ht=>by
    rw [show Tryz.f4.params=#[22] from ax] at ht;have hm:t∈([22]:List TypeId):=by simpa using Array.mem_of_getElem? ht
    have hall:(([22]:List TypeId).all fun u=>!Tryz.prog.wantsStandIn u)=true:=ax
    exact (show Tryz.prog.wantsStandIn t=false by simpa using Xn.1 hall t hm)⟩)
  AD
end Go.Proofs.YtlpcncdglfjnoaaGreatDoor
