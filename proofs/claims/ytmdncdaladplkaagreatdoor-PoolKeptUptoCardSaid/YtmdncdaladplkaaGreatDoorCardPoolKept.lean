/- Part of the proof. No condition. -/
import Derived.Test.YtmdncdaladplkaaGreatDoorP7
set_option linter.all false
set_option maxRecDepth 100000
set_option maxHeartbeats 4000000
namespace Go.Proofs.YtmdncdaladplkaaGreatDoor
open Go Go.Sx Go.Sx.Ob
def C' : Tryz.prog.mainIs = some (true, ("fdebb4bce3927f145eeb220c5d487bf7b7ef8749252c2ca4764b6765cf842db8" : String).toList) :=av
def A4:false=Tryz.prog.looks []:=av
def Da:false=Rows.poolKeptUptoRow.goesBy Xaz:=av
def B9 : Tryz.prog.funcNamed "spandrel/spandrellaw13.PoolKept" = some 6 :=av
def poolKept_card:Rows.PoolKeptUptoCardSaid :=
 Claim7.holds_tied_plain_at .later [] [.data, .data, .data, .widerDeep] true (true, "fdebb4bce3927f145eeb220c5d487bf7b7ef8749252c2ca4764b6765cf842db8") false
  AT (λ_ h=>by cases h) av (λ_ h=>by cases h) poolKeptUpto_row_tie rfl ⟨rfl,rfl⟩ C' rfl
  (λf fn c b=>by
   obtain rfl:f=6:=bb9 (B9.symm.trans c) |>.symm
   obtain rfl:fn=Tryz.f6:=(bb9 (Tryz.func6.symm.trans b)).symm;exact ⟨A4,λj t ht=>by
    rw [show Tryz.f6.params=#[32] from av] at ht;have d:t∈([32]:List TypeId):=by simpa using Array.mem_of_getElem? ht
    have a:(([32]:List TypeId).all λu=>!Tryz.prog.wantsStandIn u)=true:=av
    exact (show Tryz.prog.wantsStandIn t=false by simpa using bn9.1 a t d)⟩)
  Da
end Go.Proofs.YtmdncdaladplkaaGreatDoor
