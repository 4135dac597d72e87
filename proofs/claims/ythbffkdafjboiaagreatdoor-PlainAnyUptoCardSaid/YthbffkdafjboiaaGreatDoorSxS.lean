/- Part of the framework. No condition. -/
import Derived.Test.YthbffkdafjboiaaGreatDoorSxA
set_option linter.all false
set_option maxHeartbeats 4000000
namespace Go.Sx
variable {R:Type}
def Sv:TypeDesc->Type
 | .bool=>Bool
 | .int _=>Int
 | .string=>Xaa
 | .pointer _=>Xac
 | .slice _=>Xac × Nat × Nat
 | .map _ _=>Option Nat
 | _=>Xab
def TB (d:TypeDesc) (x:Sv d):Xab:=by
 cases d with
 | bool=>exact .bool x
 | int k=>exact .int k x
 | string=>exact .string x
 | pointer e=>exact .pointer x
 | slice e=>exact .slice x.1 x.2.1 x.2.2
 | map a b=>exact .map x
 | _=>exact x
def Up (d:TypeDesc) (R:Type):Type :=
 match d with
 | .bool=>Bool->R
 | .int _=>Int->R
 | .string=>Xaa->R
 | .pointer _=>Xac->R
 | .slice _=>Xac->Nat->Nat->R
 | .map _ _=>Option Nat->R
 | _=>Xab->R
def V1 (d:TypeDesc) (f:Sv d->R):Up d R:=by
 cases d with
 | slice e=>exact fun p l c=>f (p,l,c)
 | _=>exact f
def Uv (d:TypeDesc) (f:Up d R) (x:Sv d):R:=by
 cases d with
 | slice e=>exact f x.1 x.2.1 x.2.2
 | _=>exact f x
def K6 (d:TypeDesc) (f:Sv d->R) (x:Sv d):Uv d (V1 d f) x=f x:=by
 all_goals (cases d <;> rfl)
def qK:List TypeDesc->Type
 | []=>Unit
 | d::ds=>Sv d × qK ds
def ec:(ds:List TypeDesc)->qK ds->List Xab
 | [],_=>[]
 | d::ds,x=>TB d x.1::ec ds x.2
def Eo:List TypeDesc->Type->Type
 | [],R=>R
 | d::ds,R=>Up d (Eo ds R)
def jv:(ds:List TypeDesc)->{R:Type}->(List Xab->R)->Eo ds R
 | [],_,f=>f []
 | d::ds,_,f=>V1 d fun x=>jv ds fun l=>f (TB d x::l)
def EQ:(ds:List TypeDesc)->{R:Type}->Eo ds R->qK ds->R
 | [],_,f,_=>f
 | d::ds,_,f,x=>EQ ds (Uv d f x.1) x.2
theorem dI:∀ (ds:List TypeDesc) {R:Type} (f:List Xab->R) (x:qK ds),EQ ds (jv ds f) x=f (ec ds x)
 | [],_,_,_=>rfl
 | d::ds,_,f,x=>by
  simp only [jv,EQ,ec,K6];exact dI ds _ x.2
theorem uv:∀ (ds:List TypeDesc) (x:qK ds),(ec ds x).length=ds.length
 | [],_=>rfl
 | d::ds,x=>by simp [ec,uv ds x.2]
abbrev fI:=Bool × List TypeDesc
def flat:List fI->List TypeDesc
 | []=>[]
 | c::cs=>c.2++flat cs
def parts:List fI->List Xab->List Xab
 | [],_=>[]
 | (true,ds)::cs,l=>.agg (l.take ds.length).toArray::parts cs (l.drop ds.length)
 | (false,_)::cs,l=>l.headD undef::parts cs l.tail
def rv (d:Bool) (cs:List fI) (l:List Xab):Xab :=
 match d with
 | true=>.tuple (parts cs l).toArray
 | false=>(parts cs l).headD undef
end Go.Sx
