/- Part of the framework. No condition. -/
import Derived.Test.YtlpcncdglfjnoaaGreatDoorSxA
set_option linter.all false
set_option maxHeartbeats 4000000
namespace Go.Sx
variable {R:Type}
def Sv:TypeDesc->Type
 | .bool=>Bool
 | .int _=>Int
 | .string=>Xaa
 | .pointer _=>Xac
 | .slice _=>Xac × Nat × Nat
 | .map _ _=>Option Nat
 | _=>Xab
def Ue (d:TypeDesc) (x:Sv d):Xab:=by
 cases d with
 | bool=>exact .bool x
 | int k=>exact .int k x
 | string=>exact .string x
 | pointer e=>exact .pointer x
 | slice e=>exact .slice x.1 x.2.1 x.2.2
 | map a b=>exact .map x
 | _=>exact x
def UY (d:TypeDesc) (R:Type):Type :=
 match d with
 | .bool=>Bool->R
 | .int _=>Int->R
 | .string=>Xaa->R
 | .pointer _=>Xac->R
 | .slice _=>Xac->Nat->Nat->R
 | .map _ _=>Option Nat->R
 | _=>Xab->R
def Wz (d:TypeDesc) (f:Sv d->R):UY d R:=by
 cases d with
 | slice e=>exact fun p l c=>f (p,l,c)
 | _=>exact f
def U3 (d:TypeDesc) (f:UY d R) (x:Sv d):R:=by
 cases d with
 | slice e=>exact f x.1 x.2.1 x.2.2
 | _=>exact f x
def Mj (d:TypeDesc) (f:Sv d->R) (x:Sv d):U3 d (Wz d f) x=f x:=by
 all_goals (cases d <;> rfl)
def qX:List TypeDesc->Type
 | []=>Unit
 | d::a=>Sv d × qX a
def eA:(a:List TypeDesc)->qX a->List Xab
 | [],_=>[]
 | d::a,x=>Ue d x.1::eA a x.2
def Fc:List TypeDesc->Type->Type
 | [],R=>R
 | d::a,R=>UY d (Fc a R)
def jW:(a:List TypeDesc)->{R:Type}->(List Xab->R)->Fc a R
 | [],_,f=>f []
 | d::a,_,f=>Wz d fun x=>jW a fun l=>f (Ue d x::l)
def Fe:(a:List TypeDesc)->{R:Type}->Fc a R->qX a->R
 | [],_,f,_=>f
 | d::a,_,f,x=>Fe a (U3 d f x.1) x.2
theorem dX:∀ (a:List TypeDesc) {R:Type} (f:List Xab->R) (x:qX a),Fe a (jW a f) x=f (eA a x)
 | [],_,_,_=>rfl
 | d::a,_,f,x=>by
  simp only [jW,Fe,eA,Mj];exact dX a _ x.2
theorem vT:∀ (a:List TypeDesc) (x:qX a),(eA a x).length=a.length
 | [],_=>rfl
 | d::a,x=>by simp [eA,vT a x.2]
abbrev ey:=Bool × List TypeDesc
def flat:List ey->List TypeDesc
 | []=>[]
 | c::cs=>c.2++flat cs
def parts:List ey->List Xab->List Xab
 | [],_=>[]
 | (true,a)::cs,l=>.agg (l.take a.length).toArray::parts cs (l.drop a.length)
 | (false,_)::cs,l=>l.headD undef::parts cs l.tail
def rv (a:Bool) (cs:List ey) (l:List Xab):Xab :=
 match a with
 | true=>.tuple (parts cs l).toArray
 | false=>(parts cs l).headD undef
end Go.Sx
