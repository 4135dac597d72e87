/- Part of the proof. No condition. -/
import Derived.Test.YtlpcncdglfjnoaaGreatDoorP6
set_option linter.all false
set_option maxRecDepth 100000
set_option maxHeartbeats 4000000
namespace Go.Proofs.YtlpcncdglfjnoaaGreatDoor
open Go Go.Sx Go.Sx.Ob
def Cc : Tryz.prog.mainIs = some (true, ("ee5cd2bcb8bab2fe889ad488d653c6699e1fdabeb776c7919584d3193b170dc4" : String).toList) :=aw
def BR:false=Tryz.prog.looks []:=aw
def Cq:false=Rows.linkKeptUptoRow.goesBy Xaz:=aw
def Bv : Tryz.prog.funcNamed "spandrel/spandrellaw12.LinkKept" = some 5 :=aw
def linkKept_card:Rows.LinkKeptUptoCardSaid :=
 Claim7.holds_tied_plain_at .later [] [.data, .data, .data, .widerDeep] true (true, "ee5cd2bcb8bab2fe889ad488d653c6699e1fdabeb776c7919584d3193b170dc4") false
  Ay (fun _ h=>by cases h) aw (fun _ h=>by cases h) linkKeptUpto_row_tie rfl ⟨rfl,rfl⟩ Cc rfl
  (fun f fn d b=>by
   obtain rfl:f=5:=Zl (Bv.symm.trans d) |>.symm
   obtain rfl:fn=Tryz.f5:=(Zl (Tryz.func5.symm.trans b)).symm;exact ⟨BR,fun j t c=>by
    rw [show Tryz.f5.params=#[22] from aw] at c;have e:t∈([22]:List TypeId):=by simpa using Array.mem_of_getElem? c
    have a:(([22]:List TypeId).all fun u=>!Tryz.prog.wantsStandIn u)=true:=aw
    exact (show Tryz.prog.wantsStandIn t=false by simpa using Zx.1 a t e)⟩)
  Cq
end Go.Proofs.YtlpcncdglfjnoaaGreatDoor
