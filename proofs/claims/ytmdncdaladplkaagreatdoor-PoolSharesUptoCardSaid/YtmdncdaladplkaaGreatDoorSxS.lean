/- Part of the framework. No condition. -/
import Derived.Test.YtmdncdaladplkaaGreatDoorSxA
set_option linter.all false
set_option maxHeartbeats 4000000
namespace Go.Sx
def Sv:TypeDesc->Type
 | .bool=>Bool
 | .int _=>Int
 | .string=>Xaa
 | .pointer _=>Xac
 | .slice _=>Xac × Nat × Nat
 | .map _ _=>Option Nat
 | _=>Xab
def VO (d:TypeDesc) (x:Sv d):Xab:=by
 cases d with
 | bool=>exact .bool x
 | int k=>exact .int k x
 | string=>exact .string x
 | pointer e=>exact .pointer x
 | slice e=>exact .slice x.1 x.2.1 x.2.2
 | map a b=>exact .map x
 | _=>exact x
def WK (d:TypeDesc) (R:Type):Type :=
 match d with
 | .bool=>Bool->R
 | .int _=>Int->R
 | .string=>Xaa->R
 | .pointer _=>Xac->R
 | .slice _=>Xac->Nat->Nat->R
 | .map _ _=>Option Nat->R
 | _=>Xab->R
def Yy (d:TypeDesc) {R:Type} (f:Sv d->R):WK d R:=by
 cases d with
 | slice e=>exact fun p l c=>f (p,l,c)
 | _=>exact f
def WS (d:TypeDesc) {R:Type} (f:WK d R) (x:Sv d):R:=by
 cases d with
 | slice e=>exact f x.1 x.2.1 x.2.2
 | _=>exact f x
def Na (d:TypeDesc) {R:Type} (f:Sv d->R) (x:Sv d):WS d (Yy d f) x=f x:=by
 all_goals (cases d <;> rfl)
def qF:List TypeDesc->Type
 | []=>Unit
 | d::a=>Sv d × qF a
def et:(a:List TypeDesc)->qF a->List Xab
 | [],_=>[]
 | d::a,x=>VO d x.1::et a x.2
def FI:List TypeDesc->Type->Type
 | [],R=>R
 | d::a,R=>WK d (FI a R)
def jO:(a:List TypeDesc)->{R:Type}->(List Xab->R)->FI a R
 | [],_,f=>f []
 | d::a,_,f=>Yy d fun x=>jO a fun l=>f (VO d x::l)
def EC:(a:List TypeDesc)->{R:Type}->FI a R->qF a->R
 | [],_,f,_=>f
 | d::a,_,f,x=>EC a (WS d f x.1) x.2
theorem dU:∀ (a:List TypeDesc) {R:Type} (f:List Xab->R) (x:qF a),EC a (jO a f) x=f (et a x)
 | [],_,_,_=>rfl
 | d::a,_,f,x=>by
  simp only [jO,EC,et,Na];exact dU a _ x.2
theorem vq:∀ (a:List TypeDesc) (x:qF a),(et a x).length=a.length
 | [],_=>rfl
 | d::a,x=>by simp [et,vq a x.2]
abbrev ep:=Bool × List TypeDesc
def flat:List ep->List TypeDesc
 | []=>[]
 | c::cs=>c.2++flat cs
def parts:List ep->List Xab->List Xab
 | [],_=>[]
 | (true,a)::cs,l=>.agg (l.take a.length).toArray::parts cs (l.drop a.length)
 | (false,_)::cs,l=>l.headD undef::parts cs l.tail
def rv (a:Bool) (cs:List ep) (l:List Xab):Xab :=
 match a with
 | true=>.tuple (parts cs l).toArray
 | false=>(parts cs l).headD undef
end Go.Sx
