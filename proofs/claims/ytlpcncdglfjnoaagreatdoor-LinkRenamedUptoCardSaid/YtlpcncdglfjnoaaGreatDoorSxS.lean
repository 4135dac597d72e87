/- Part of the framework. No condition. -/
import Derived.Test.YtlpcncdglfjnoaaGreatDoorSxA
set_option linter.all false
set_option maxHeartbeats 4000000
namespace Go.Sx
variable {R:Type}
def Sv:TypeDesc->Type
 | .bool=>Bool
 | .int _=>Int
 | .string=>XA
 | .pointer _=>XC
 | .slice _=>XC × Nat × Nat
 | .map _ _=>Option Nat
 | _=>XB
def Qv (d:TypeDesc) (x:Sv d):XB:=by
 cases d with
 | bool=>exact .bool x
 | int k=>exact .int k x
 | string=>exact .string x
 | pointer e=>exact .pointer x
 | slice e=>exact .slice x.1 x.2.1 x.2.2
 | map a b=>exact .map x
 | _=>exact x
def Rh (d:TypeDesc) (R:Type):Type :=
 match d with
 | .bool=>Bool->R
 | .int _=>Int->R
 | .string=>XA->R
 | .pointer _=>XC->R
 | .slice _=>XC->Nat->Nat->R
 | .map _ _=>Option Nat->R
 | _=>XB->R
def Ta (d:TypeDesc) (f:Sv d->R):Rh d R:=by
 cases d with
 | slice e=>exact fun p l c=>f (p,l,c)
 | _=>exact f
def Rn (d:TypeDesc) (f:Rh d R) (x:Sv d):R:=by
 cases d with
 | slice e=>exact f x.1 x.2.1 x.2.2
 | _=>exact f x
def JA (d:TypeDesc) (f:Sv d->R) (x:Sv d):Rn d (Ta d f) x=f x:=by
 all_goals (cases d <;> rfl)
def qK:List TypeDesc->Type
 | []=>Unit
 | d::a=>Sv d × qK a
def dS:(a:List TypeDesc)->qK a->List XB
 | [],_=>[]
 | d::a,x=>Qv d x.1::dS a x.2
def C4:List TypeDesc->Type->Type
 | [],R=>R
 | d::a,R=>Rh d (C4 a R)
def iV:(a:List TypeDesc)->{R:Type}->(List XB->R)->C4 a R
 | [],_,f=>f []
 | d::a,_,f=>Ta d fun x=>iV a fun l=>f (Qv d x::l)
def C5:(a:List TypeDesc)->{R:Type}->C4 a R->qK a->R
 | [],_,f,_=>f
 | d::a,_,f,x=>C5 a (Rn d f x.1) x.2
theorem dC:∀ (a:List TypeDesc) {R:Type} (f:List XB->R) (x:qK a),C5 a (iV a f) x=f (dS a x)
 | [],_,_,_=>rfl
 | d::a,_,f,x=>by
  simp only [iV,C5,dS,JA];exact dC a _ x.2
theorem tA:∀ (a:List TypeDesc) (x:qK a),(dS a x).length=a.length
 | [],_=>rfl
 | d::a,x=>by simp [dS,tA a x.2]
abbrev ef:=Bool × List TypeDesc
def flat:List ef->List TypeDesc
 | []=>[]
 | c::cs=>c.2++flat cs
def parts:List ef->List XB->List XB
 | [],_=>[]
 | (true,a)::cs,l=>.agg (l.take a.length).toArray::parts cs (l.drop a.length)
 | (false,_)::cs,l=>l.headD undef::parts cs l.tail
def rv (a:Bool) (cs:List ef) (l:List XB):XB :=
 match a with
 | true=>.tuple (parts cs l).toArray
 | false=>(parts cs l).headD undef
end Go.Sx
