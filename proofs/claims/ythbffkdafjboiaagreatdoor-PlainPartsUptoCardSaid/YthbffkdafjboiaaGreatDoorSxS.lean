/- Part of the framework. No condition. -/
import Derived.Test.YthbffkdafjboiaaGreatDoorSxA
set_option linter.all false
set_option maxHeartbeats 4000000
namespace Go.Sx
variable {R:Type}
def Sv:TypeDesc->Type
 | .bool=>Bool
 | .int _=>Int
 | .string=>ZA
 | .pointer _=>ZC
 | .slice _=>ZC × Nat × Nat
 | .map _ _=>Option Nat
 | _=>ZB
def RS (d:TypeDesc) (x:Sv d):ZB:=by
 cases d with
 | bool=>exact .bool x
 | int k=>exact .int k x
 | string=>exact .string x
 | pointer e=>exact .pointer x
 | slice e=>exact .slice x.1 x.2.1 x.2.2
 | map a b=>exact .map x
 | _=>exact x
def SK (d:TypeDesc) (R:Type):Type :=
 match d with
 | .bool=>Bool->R
 | .int _=>Int->R
 | .string=>ZA->R
 | .pointer _=>ZC->R
 | .slice _=>ZC->Nat->Nat->R
 | .map _ _=>Option Nat->R
 | _=>ZB->R
def Uy (d:TypeDesc) (f:Sv d->R):SK d R:=by
 cases d with
 | slice e=>exact fun p l c=>f (p,l,c)
 | _=>exact f
def SU (d:TypeDesc) (f:SK d R) (x:Sv d):R:=by
 cases d with
 | slice e=>exact f x.1 x.2.1 x.2.2
 | _=>exact f x
def J5 (d:TypeDesc) (f:Sv d->R) (x:Sv d):SU d (Uy d f) x=f x:=by
 all_goals (cases d <;> rfl)
def qb:List TypeDesc->Type
 | []=>Unit
 | d::ds=>Sv d × qb ds
def dZ:(ds:List TypeDesc)->qb ds->List ZB
 | [],_=>[]
 | d::ds,x=>RS d x.1::dZ ds x.2
def DA:List TypeDesc->Type->Type
 | [],R=>R
 | d::ds,R=>SK d (DA ds R)
def jj:(ds:List TypeDesc)->{R:Type}->(List ZB->R)->DA ds R
 | [],_,f=>f []
 | d::ds,_,f=>Uy d fun x=>jj ds fun l=>f (RS d x::l)
def DZ:(ds:List TypeDesc)->{R:Type}->DA ds R->qb ds->R
 | [],_,f,_=>f
 | d::ds,_,f,x=>DZ ds (SU d f x.1) x.2
theorem dE:∀ (ds:List TypeDesc) {R:Type} (f:List ZB->R) (x:qb ds),DZ ds (jj ds f) x=f (dZ ds x)
 | [],_,_,_=>rfl
 | d::ds,_,f,x=>by
  simp only [jj,DZ,dZ,J5];exact dE ds _ x.2
theorem tG:∀ (ds:List TypeDesc) (x:qb ds),(dZ ds x).length=ds.length
 | [],_=>rfl
 | d::ds,x=>by simp [dZ,tG ds x.2]
abbrev fE:=Bool × List TypeDesc
def flat:List fE->List TypeDesc
 | []=>[]
 | c::cs=>c.2++flat cs
def parts:List fE->List ZB->List ZB
 | [],_=>[]
 | (true,ds)::cs,l=>.agg (l.take ds.length).toArray::parts cs (l.drop ds.length)
 | (false,_)::cs,l=>l.headD undef::parts cs l.tail
def rv (tup:Bool) (cs:List fE) (l:List ZB):ZB :=
 match tup with
 | true=>.tuple (parts cs l).toArray
 | false=>(parts cs l).headD undef
end Go.Sx
