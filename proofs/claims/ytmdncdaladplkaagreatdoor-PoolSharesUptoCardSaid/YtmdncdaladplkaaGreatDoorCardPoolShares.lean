/- Part of the proof. No condition. -/
import Derived.Test.YtmdncdaladplkaaGreatDoorP7
set_option linter.all false
set_option maxRecDepth 100000
set_option maxHeartbeats 4000000
namespace Go.Proofs.YtmdncdaladplkaaGreatDoor
open Go Go.Sx Go.Sx.Ob
def zV : Tryz.prog.mainIs = some (true, ("fdebb4bce3927f145eeb220c5d487bf7b7ef8749252c2ca4764b6765cf842db8" : String).toList) :=ax
def xQ:false=Tryz.prog.looks []:=ax
def Ab:false=Rows.poolSharesUptoRow.goesBy Xaz:=ax
def yi : Tryz.prog.funcNamed "spandrel/spandrellaw13.PoolShares" = some 5 :=ax
def poolShares_card:Rows.PoolSharesUptoCardSaid :=
 Claim7.holds_tied_plain_at .later [] [.data, .data, .data, .widerDeep] true (true, "fdebb4bce3927f145eeb220c5d487bf7b7ef8749252c2ca4764b6765cf842db8") false
  yC (fun _ h=>by cases h) ax (fun _ h=>by cases h) poolSharesUpto_row_tie rfl ⟨rfl,rfl⟩ zV rfl
  (fun f fn c b=>by
   obtain rfl:f=5:=bb9 (yi.symm.trans c) |>.symm
   obtain rfl:fn=Tryz.f5:=(bb9 (Tryz.func5.symm.trans b)).symm;exact ⟨xQ,fun j t ht=>by
    rw [show Tryz.f5.params=#[32] from ax] at ht;have d:t∈([32]:List TypeId):=by simpa using Array.mem_of_getElem? ht
    have a:(([32]:List TypeId).all fun u=>!Tryz.prog.wantsStandIn u)=true:=ax
    exact (show Tryz.prog.wantsStandIn t=false by simpa using bn9.1 a t d)⟩)
  Ab
end Go.Proofs.YtmdncdaladplkaaGreatDoor
