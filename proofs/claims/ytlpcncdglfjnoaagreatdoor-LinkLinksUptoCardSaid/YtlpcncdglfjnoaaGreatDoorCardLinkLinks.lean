/- Part of the proof. No condition. -/
import Derived.Test.YtlpcncdglfjnoaaGreatDoorP6
set_option linter.all false
set_option maxRecDepth 100000
set_option maxHeartbeats 4000000
namespace Go.Proofs.YtlpcncdglfjnoaaGreatDoor
open Go Go.Sx Go.Sx.Ob
theorem zj : Tryz.prog.mainIs = some (true, ("ee5cd2bcb8bab2fe889ad488d653c6699e1fdabeb776c7919584d3193b170dc4" : String).toList) :=az
theorem xP:false=Tryz.prog.looks []:=az
theorem zp:false=Rows.linkLinksUptoRow.goesBy Tryz.prog:=az
theorem ye : Tryz.prog.funcNamed "spandrel/spandrellaw12.LinkLinks" = some 7 :=az
theorem linkLinks_card:Rows.LinkLinksUptoCardSaid :=
 Claim7.holds_tied_plain_at .later [] [.data, .data, .data, .widerDeep] true (true, "ee5cd2bcb8bab2fe889ad488d653c6699e1fdabeb776c7919584d3193b170dc4") false
  ya (fun _ h=>by cases h) az (fun _ h=>by cases h) linkLinksUpto_row_tie rfl ⟨rfl,rfl⟩ zj rfl
  (fun f fn hf hfn=>by
   obtain rfl:f=7:=WQ (ye.symm.trans hf) |>.symm
   obtain rfl:fn=Tryz.f7:=(WQ (Tryz.func7.symm.trans hfn)).symm;exact ⟨xP,fun j t ht=>by
    rw [show Tryz.f7.params=#[22,28] from az] at ht;have hm:t∈([22,28]:List TypeId):=by simpa using Array.mem_of_getElem? ht
    have hall:(([22,28]:List TypeId).all fun u=>!Tryz.prog.wantsStandIn u)=true:=az
    exact (show Tryz.prog.wantsStandIn t=false by simpa using W1.1 hall t hm)⟩)
  zp
end Go.Proofs.YtlpcncdglfjnoaaGreatDoor
