/- Part of the framework. No condition. -/
import Derived.Test.YtmdncdaladplkaaGreatDoorSxA
set_option linter.all false
set_option maxHeartbeats 4000000
namespace Go.Sx
def Sv:TypeDesc->Type
 | .bool=>Bool
 | .int _=>Int
 | .string=>Xaa
 | .pointer _=>Xac
 | .slice _=>Xac × Nat × Nat
 | .map _ _=>Option Nat
 | _=>Xab
def WD (d:TypeDesc) (x:Sv d):Xab:=by
 cases d with
 | bool=>exact .bool x
 | int k=>exact .int k x
 | string=>exact .string x
 | pointer e=>exact .pointer x
 | slice e=>exact .slice x.1 x.2.1 x.2.2
 | map a b=>exact .map x
 | _=>exact x
def Xy (d:TypeDesc) (R:Type):Type :=
 match d with
 | .bool=>Bool->R
 | .int _=>Int->R
 | .string=>Xaa->R
 | .pointer _=>Xac->R
 | .slice _=>Xac->Nat->Nat->R
 | .map _ _=>Option Nat->R
 | _=>Xab->R
def Zl (d:TypeDesc) {R:Type} (f:Sv d->R):Xy d R:=by
 cases d with
 | slice e=>exact λp l c=>f (p,l,c)
 | _=>exact f
def XF (d:TypeDesc) {R:Type} (f:Xy d R) (x:Sv d):R:=by
 cases d with
 | slice e=>exact f x.1 x.2.1 x.2.2
 | _=>exact f x
def NW (d:TypeDesc) {R:Type} (f:Sv d->R) (x:Sv d):XF d (Zl d f) x=f x:=by
 all_goals (cases d <;> rfl)
def qu:List TypeDesc->Type
 | []=>Unit
 | d::a=>Sv d × qu a
def et:(a:List TypeDesc)->qu a->List Xab
 | [],_=>[]
 | d::a,x=>WD d x.1::et a x.2
def Av:List TypeDesc->Type->Type
 | [],R=>R
 | d::a,R=>Xy d (Av a R)
def j7:(a:List TypeDesc)->{R:Type}->(List Xab->R)->Av a R
 | [],_,f=>f []
 | d::a,_,f=>Zl d λx=>j7 a λl=>f (WD d x::l)
def E4:(a:List TypeDesc)->{R:Type}->Av a R->qu a->R
 | [],_,f,_=>f
 | d::a,_,f,x=>E4 a (XF d f x.1) x.2
theorem dX:∀ (a:List TypeDesc) {R:Type} (f:List Xab->R) (x:qu a),E4 a (j7 a f) x=f (et a x)
 | [],_,_,_=>rfl
 | d::a,_,f,x=>by
  simp only [j7,E4,et,NW];exact dX a _ x.2
theorem wc:∀ (a:List TypeDesc) (x:qu a),(et a x).length=a.length
 | [],_=>rfl
 | d::a,x=>by simp [et,wc a x.2]
abbrev ez:=Bool × List TypeDesc
def flat:List ez->List TypeDesc
 | []=>[]
 | c::cs=>c.2++flat cs
def parts:List ez->List Xab->List Xab
 | [],_=>[]
 | (true,a)::cs,l=>.agg (l.take a.length).toArray::parts cs (l.drop a.length)
 | (false,_)::cs,l=>l.headD undef::parts cs l.tail
def rv (a:Bool) (cs:List ez) (l:List Xab):Xab :=
 match a with
 | true=>.tuple (parts cs l).toArray
 | false=>(parts cs l).headD undef
end Go.Sx
