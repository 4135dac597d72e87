/- A framework of our own, part S: shapes of values. No condition. -/
import Derived.Test.YtlpcncdglfjnoaaGreatDoorSxA
set_option linter.all false
set_option maxHeartbeats 4000000
namespace Go.Sx
variable {R:Type}
def Sv:TypeDesc->Type
 | .bool=>Bool
 | .int _=>Int
 | .string=>ZA
 | .pointer _=>Option ZC
 | .slice _=>Option ZC × Nat × Nat
 | .map _ _=>Option Nat
 | _=>ZB
def SU (d:TypeDesc) (x:Sv d):ZB:=by
 cases d with
 | bool=>exact .bool x
 | int k=>exact .int k x
 | string=>exact .string x
 | pointer e=>exact .pointer x
 | slice e=>exact .slice x.1 x.2.1 x.2.2
 | map a b=>exact .map x
 | _=>exact x
def RZ (d:TypeDesc) (R:Type):Type :=
 match d with
 | .bool=>Bool->R
 | .int _=>Int->R
 | .string=>ZA->R
 | .pointer _=>Option ZC->R
 | .slice _=>Option ZC->Nat->Nat->R
 | .map _ _=>Option Nat->R
 | _=>ZB->R
def U9 (d:TypeDesc) (f:Sv d->R):RZ d R:=by
 cases d with
 | slice e=>exact fun p l c=>f (p,l,c)
 | _=>exact f
def SD (d:TypeDesc) (f:RZ d R) (x:Sv d):R:=by
 cases d with
 | slice e=>exact f x.1 x.2.1 x.2.2
 | _=>exact f x
theorem JI (d:TypeDesc) (f:Sv d->R) (x:Sv d):SD d (U9 d f) x=f x:=by
 all_goals (cases d <;> rfl)
def qd:List TypeDesc->Type
 | []=>Unit
 | d::ds=>Sv d × qd ds
def dU:(ds:List TypeDesc)->qd ds->List ZB
 | [],_=>[]
 | d::ds,x=>SU d x.1::dU ds x.2
def Fm:List TypeDesc->Type->Type
 | [],R=>R
 | d::ds,R=>RZ d (Fm ds R)
def jd:(ds:List TypeDesc)->{R:Type}->(List ZB->R)->Fm ds R
 | [],_,f=>f []
 | d::ds,_,f=>U9 d fun x=>jd ds fun l=>f (SU d x::l)
def DB:(ds:List TypeDesc)->{R:Type}->Fm ds R->qd ds->R
 | [],_,f,_=>f
 | d::ds,_,f,x=>DB ds (SD d f x.1) x.2
theorem du:∀ (ds:List TypeDesc) {R:Type} (f:List ZB->R) (x:qd ds),DB ds (jd ds f) x=f (dU ds x)
 | [],_,_,_=>rfl
 | d::ds,_,f,x=>by
  simp only [jd,DB,dU,JI];exact du ds _ x.2
theorem tM:∀ (ds:List TypeDesc) (x:qd ds),(dU ds x).length=ds.length
 | [],_=>rfl
 | d::ds,x=>by simp [dU,tM ds x.2]
abbrev fq:=Bool × List TypeDesc
def flat:List fq->List TypeDesc
 | []=>[]
 | c::cs=>c.2++flat cs
def parts:List fq->List ZB->List ZB
 | [],_=>[]
 | (true,ds)::cs,l=>.agg (l.take ds.length).toArray::parts cs (l.drop ds.length)
 | (false,_)::cs,l=>l.headD undef::parts cs l.tail
def rv (tup:Bool) (cs:List fq) (l:List ZB):ZB :=
 match tup with
 | true=>.tuple (parts cs l).toArray
 | false=>(parts cs l).headD undef
end Go.Sx
