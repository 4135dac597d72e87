/- Part of the framework. No condition. -/
import Derived.Test.YthbffkdafjboiaaGreatDoorSxA
set_option linter.all false
set_option maxHeartbeats 4000000
namespace Go.Sx
variable {R:Type}
def Sv:TypeDesc->Type
 | .bool=>Bool
 | .int _=>Int
 | .string=>Xaa
 | .pointer _=>Xac
 | .slice _=>Xac × Nat × Nat
 | .map _ _=>Option Nat
 | _=>Xab
def Td (d:TypeDesc) (x:Sv d):Xab:=by
 cases d with
 | bool=>exact .bool x
 | int k=>exact .int k x
 | string=>exact .string x
 | pointer e=>exact .pointer x
 | slice e=>exact .slice x.1 x.2.1 x.2.2
 | map a b=>exact .map x
 | _=>exact x
def T1 (d:TypeDesc) (R:Type):Type :=
 match d with
 | .bool=>Bool->R
 | .int _=>Int->R
 | .string=>Xaa->R
 | .pointer _=>Xac->R
 | .slice _=>Xac->Nat->Nat->R
 | .map _ _=>Option Nat->R
 | _=>Xab->R
def VY (d:TypeDesc) (f:Sv d->R):T1 d R:=by
 cases d with
 | slice e=>exact fun p l c=>f (p,l,c)
 | _=>exact f
def T8 (d:TypeDesc) (f:T1 d R) (x:Sv d):R:=by
 cases d with
 | slice e=>exact f x.1 x.2.1 x.2.2
 | _=>exact f x
def KL (d:TypeDesc) (f:Sv d->R) (x:Sv d):T8 d (VY d f) x=f x:=by
 all_goals (cases d <;> rfl)
def qt:List TypeDesc->Type
 | []=>Unit
 | d::ds=>Sv d × qt ds
def ef:(ds:List TypeDesc)->qt ds->List Xab
 | [],_=>[]
 | d::ds,x=>Td d x.1::ef ds x.2
def Ea:List TypeDesc->Type->Type
 | [],R=>R
 | d::ds,R=>T1 d (Ea ds R)
def ju:(ds:List TypeDesc)->{R:Type}->(List Xab->R)->Ea ds R
 | [],_,f=>f []
 | d::ds,_,f=>VY d fun x=>ju ds fun l=>f (Td d x::l)
def EA:(ds:List TypeDesc)->{R:Type}->Ea ds R->qt ds->R
 | [],_,f,_=>f
 | d::ds,_,f,x=>EA ds (T8 d f x.1) x.2
theorem dG:∀ (ds:List TypeDesc) {R:Type} (f:List Xab->R) (x:qt ds),EA ds (ju ds f) x=f (ef ds x)
 | [],_,_,_=>rfl
 | d::ds,_,f,x=>by
  simp only [ju,EA,ef,KL];exact dG ds _ x.2
theorem uc:∀ (ds:List TypeDesc) (x:qt ds),(ef ds x).length=ds.length
 | [],_=>rfl
 | d::ds,x=>by simp [ef,uc ds x.2]
abbrev fJ:=Bool × List TypeDesc
def flat:List fJ->List TypeDesc
 | []=>[]
 | c::cs=>c.2++flat cs
def parts:List fJ->List Xab->List Xab
 | [],_=>[]
 | (true,ds)::cs,l=>.agg (l.take ds.length).toArray::parts cs (l.drop ds.length)
 | (false,_)::cs,l=>l.headD undef::parts cs l.tail
def rv (j:Bool) (cs:List fJ) (l:List Xab):Xab :=
 match j with
 | true=>.tuple (parts cs l).toArray
 | false=>(parts cs l).headD undef
end Go.Sx
