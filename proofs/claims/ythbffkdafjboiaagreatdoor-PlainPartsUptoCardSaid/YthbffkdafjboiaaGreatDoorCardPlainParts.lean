/- Part of the proof. No condition. -/
import Derived.Test.YthbffkdafjboiaaGreatDoorP6
set_option linter.all false
set_option maxRecDepth 100000
set_option maxHeartbeats 4000000
namespace Go.Proofs.YthbffkdafjboiaaGreatDoor
open Go Go.Sx Go.Sx.Ob
def yf : Tryz.prog.mainIs = some (true, ("9cbff0020a4efb0fad1d1630e1cbe349369293419971d84bfc309fa82710c061" : String).toList) :=az
def wq:false=Tryz.prog.looks []:=az
def x7:false=Rows.plainPartsUptoRow.goesBy Tryz.prog:=az
def vJ : Tryz.prog.funcNamed "spandrel/spandrellaw21.PlainParts" = some 5 :=az
def plainParts_card:Rows.PlainPartsUptoCardSaid :=
 Claim7.holds_tied_plain_at .later [] [.data, .data, .data, .widerDeep] true (true, "9cbff0020a4efb0fad1d1630e1cbe349369293419971d84bfc309fa82710c061") false
  wN (fun _ h=>by cases h) az (fun _ h=>by cases h) plainPartsUpto_row_tie rfl ⟨rfl,rfl⟩ yf rfl
  (fun f fn hf hfn=>by
   obtain rfl:f=5:=Xo (vJ.symm.trans hf) |>.symm
   obtain rfl:fn=Tryz.f5:=(Xo (Tryz.func5.symm.trans hfn)).symm;exact ⟨wq,fun j t ht=>by
    rw [show Tryz.f5.params=#[30,31,31] from az] at ht;have hm:t∈([30,31,31]:List TypeId):=by simpa using Array.mem_of_getElem? ht
    have hall:(([30,31,31]:List TypeId).all fun u=>!Tryz.prog.wantsStandIn u)=true:=az
    exact (show Tryz.prog.wantsStandIn t=false by simpa using XA.1 hall t hm)⟩)
  x7
end Go.Proofs.YthbffkdafjboiaaGreatDoor
