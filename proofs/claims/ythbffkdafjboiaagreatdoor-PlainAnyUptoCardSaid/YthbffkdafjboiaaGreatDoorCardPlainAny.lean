/- Part of the proof. No condition. -/
import Derived.Test.YthbffkdafjboiaaGreatDoorP6
set_option linter.all false
set_option maxRecDepth 100000
set_option maxHeartbeats 4000000
namespace Go.Proofs.YthbffkdafjboiaaGreatDoor
open Go Go.Sx Go.Sx.Ob
def Bz : Tryz.prog.mainIs = some (true, ("9cbff0020a4efb0fad1d1630e1cbe349369293419971d84bfc309fa82710c061" : String).toList) :=az
def zZ:false=Tryz.prog.looks []:=az
def Bi:false=Rows.plainAnyUptoRow.goesBy Tryz.prog:=az
def Ao : Tryz.prog.funcNamed "spandrel/spandrellaw21.PlainAny" = some 4 :=az
def plainAny_card:Rows.PlainAnyUptoCardSaid :=
 Claim7.holds_tied_plain_at .later [] [.data, .data, .data, .widerDeep] true (true, "9cbff0020a4efb0fad1d1630e1cbe349369293419971d84bfc309fa82710c061") false
  Ar (fun _ h=>by cases h) az (fun _ h=>by cases h) plainAnyUpto_row_tie rfl ⟨rfl,rfl⟩ Bz rfl
  (fun f fn J F=>by
   obtain rfl:f=4:=YR (Ao.symm.trans J) |>.symm
   obtain rfl:fn=Tryz.f4:=(YR (Tryz.func4.symm.trans F)).symm;exact ⟨zZ,fun j t G=>by
    rw [show Tryz.f4.params=#[30,31] from az] at G;have hm:t∈([30,31]:List TypeId):=by simpa using Array.mem_of_getElem? G
    have d:(([30,31]:List TypeId).all fun u=>!Tryz.prog.wantsStandIn u)=true:=az
    exact (show Tryz.prog.wantsStandIn t=false by simpa using Y1.1 d t hm)⟩)
  Bi
end Go.Proofs.YthbffkdafjboiaaGreatDoor
