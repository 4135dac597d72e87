/- Part of the proof. No condition. -/
import Derived.Test.YthbffkdafjboiaaGreatDoorP6
set_option linter.all false
set_option maxRecDepth 100000
set_option maxHeartbeats 4000000
namespace Go.Proofs.YthbffkdafjboiaaGreatDoor
open Go Go.Sx Go.Sx.Ob
def Ap : Tryz.prog.mainIs = some (true, ("9cbff0020a4efb0fad1d1630e1cbe349369293419971d84bfc309fa82710c061" : String).toList) :=ax
def yJ:false=Tryz.prog.looks []:=ax
def AQ:false=Rows.plainMoreUptoRow.goesBy Tryz.prog:=ax
def yH : Tryz.prog.funcNamed "spandrel/spandrellaw21.PlainMore" = some 6 :=ax
def plainMore_card:Rows.PlainMoreUptoCardSaid :=
 Claim7.holds_tied_plain_at .later [] [.data, .data, .data, .widerDeep] true (true, "9cbff0020a4efb0fad1d1630e1cbe349369293419971d84bfc309fa82710c061") false
  yB (fun _ h=>by cases h) ax (fun _ h=>by cases h) plainMoreUpto_row_tie rfl ⟨rfl,rfl⟩ Ap rfl
  (fun f fn U J=>by
   obtain rfl:f=6:=Zn (yH.symm.trans U) |>.symm
   obtain rfl:fn=Tryz.f6:=(Zn (Tryz.func6.symm.trans J)).symm;exact ⟨yJ,fun j t O=>by
    rw [show Tryz.f6.params=#[30] from ax] at O;have hm:t∈([30]:List TypeId):=by simpa using Array.mem_of_getElem? O
    have G:(([30]:List TypeId).all fun u=>!Tryz.prog.wantsStandIn u)=true:=ax
    exact (show Tryz.prog.wantsStandIn t=false by simpa using Zx.1 G t hm)⟩)
  AQ
end Go.Proofs.YthbffkdafjboiaaGreatDoor
