/- Part of the proof. No condition. -/
import Derived.Test.YtmdncdaladplkaaGreatDoorP7
set_option linter.all false
set_option maxRecDepth 100000
set_option maxHeartbeats 4000000
namespace Go.Proofs.YtmdncdaladplkaaGreatDoor
open Go Go.Sx Go.Sx.Ob
def BJ : Tryz.prog.mainIs = some (true, ("fdebb4bce3927f145eeb220c5d487bf7b7ef8749252c2ca4764b6765cf842db8" : String).toList) :=av
def zR:false=Tryz.prog.looks []:=av
def Bb:false=Rows.poolPoolsUptoRow.goesBy Xaz:=av
def zH : Tryz.prog.funcNamed "spandrel/spandrellaw13.PoolPools" = some 4 :=av
def poolPools_card:Rows.PoolPoolsUptoCardSaid :=
 Claim7.holds_tied_plain_at .later [] [.data, .data, .data, .widerDeep] true (true, "fdebb4bce3927f145eeb220c5d487bf7b7ef8749252c2ca4764b6765cf842db8") false
  zK (fun _ h=>by cases h) av (fun _ h=>by cases h) poolPoolsUpto_row_tie rfl ⟨rfl,rfl⟩ BJ rfl
  (fun f fn c b=>by
   obtain rfl:f=4:=ay9 (zH.symm.trans c) |>.symm
   obtain rfl:fn=Tryz.f4:=(ay9 (Tryz.func4.symm.trans b)).symm;exact ⟨zR,fun j t ht=>by
    rw [show Tryz.f4.params=#[32,3,3] from av] at ht;have d:t∈([32,3,3]:List TypeId):=by simpa using Array.mem_of_getElem? ht
    have a:(([32,3,3]:List TypeId).all fun u=>!Tryz.prog.wantsStandIn u)=true:=av
    exact (show Tryz.prog.wantsStandIn t=false by simpa using bm9.1 a t d)⟩)
  Bb
end Go.Proofs.YtmdncdaladplkaaGreatDoor
