/- Part of the proof. No condition. -/
import Derived.Test.YtfkjiiapldkoeaaGreatDoorP8
set_option linter.all false
set_option maxRecDepth 100000
set_option maxHeartbeats 4000000
namespace Go.Proofs.YtfkjiiapldkoeaaGreatDoor
open Go Go.Sx Go.Sx.Ob
def sI : Tryz.prog.mainIs = some (true, ("5498b6cedf65f0ebcd3cbb3dce743c893e21b86ea12e3c306920fe59c4f74dd6" : String).toList) :=aB
def rN:true=Tryz.prog.looks []:=aB
def ti:false=Rows.unitAssemblesRow.goesBy Tryz.prog:=aB
def rM : Tryz.prog.funcNamed "spandrel/spandrellaw9.UnitAssembles" = some 3 :=aB
def unitAssembles_card:Rows.UnitAssemblesCardSaid :=
 Claim7.holds_tied_plain_at .later [] [.data, .data, .data, .widerDeep, .sentinel, .sentinel] true (true, "5498b6cedf65f0ebcd3cbb3dce743c893e21b86ea12e3c306920fe59c4f74dd6") true
  rB (fun _ h=>by cases h) aB (fun _ h=>by cases h) unitAssembles_row_tie rfl ⟨rfl,rfl⟩ sI rfl
  (fun f fn hf hfn=>by
   obtain rfl:f=3:=O1 (rM.symm.trans hf) |>.symm
   obtain rfl:fn=Tryz.f3:=(O1 (Tryz.func3.symm.trans hfn)).symm;exact ⟨rN,fun j t ht=>by
    rw [show Tryz.f3.params=#[9] from aB] at ht;have hm:t∈([9]:List TypeId):=by simpa using Array.mem_of_getElem? ht
    have hall:(([9]:List TypeId).all fun u=>!Tryz.prog.wantsStandIn u)=true:=aB
    exact (show Tryz.prog.wantsStandIn t=false by simpa using O9.1 hall t hm)⟩)
  ti
end Go.Proofs.YtfkjiiapldkoeaaGreatDoor
