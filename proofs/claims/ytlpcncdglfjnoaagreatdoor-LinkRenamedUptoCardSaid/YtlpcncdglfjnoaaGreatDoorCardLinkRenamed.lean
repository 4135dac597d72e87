/- Part of the proof. No condition. -/
import Derived.Test.YtlpcncdglfjnoaaGreatDoorP5
set_option linter.all false
set_option maxRecDepth 100000
set_option maxHeartbeats 4000000
namespace Go.Proofs.YtlpcncdglfjnoaaGreatDoor
open Go Go.Sx Go.Sx.Ob
def xf : Tryz.prog.mainIs = some (true, ("ee5cd2bcb8bab2fe889ad488d653c6699e1fdabeb776c7919584d3193b170dc4" : String).toList) :=aw
def ur:false=Tryz.prog.looks []:=aw
def wI:false=Rows.linkRenamedUptoRow.goesBy YC:=aw
def uK : Tryz.prog.funcNamed "spandrel/spandrellaw12.LinkRenamed" = some 3 :=aw
def linkRenamed_card:Rows.LinkRenamedUptoCardSaid :=
 Claim7.holds_tied_plain_at .later [] [.data, .data, .data, .widerDeep] true (true, "ee5cd2bcb8bab2fe889ad488d653c6699e1fdabeb776c7919584d3193b170dc4") false
  vp (fun _ h=>by cases h) aw (fun _ h=>by cases h) linkRenamedUpto_row_tie rfl ⟨rfl,rfl⟩ xf rfl
  (fun f fn d b=>by
   obtain rfl:f=3:=VP (uK.symm.trans d) |>.symm
   obtain rfl:fn=Tryz.f3:=(VP (Tryz.func3.symm.trans b)).symm;exact ⟨ur,fun j t c=>by
    rw [show Tryz.f3.params=#[22] from aw] at c;have e:t∈([22]:List TypeId):=by simpa using Array.mem_of_getElem? c
    have a:(([22]:List TypeId).all fun u=>!Tryz.prog.wantsStandIn u)=true:=aw
    exact (show Tryz.prog.wantsStandIn t=false by simpa using VT.1 a t e)⟩)
  wI
end Go.Proofs.YtlpcncdglfjnoaaGreatDoor
