/- Part of the framework. No condition. -/
import Derived.Test.YtmdncdaladplkaaGreatDoorSxA
set_option linter.all false
set_option maxHeartbeats 4000000
namespace Go.Sx
def Sv:TypeDesc->Type
 | .bool=>Bool
 | .int _=>Int
 | .string=>Xaa
 | .pointer _=>Xac
 | .slice _=>Xac × Nat × Nat
 | .map _ _=>Option Nat
 | _=>Xab
def VA (d:TypeDesc) (x:Sv d):Xab:=by
 cases d with
 | bool=>exact .bool x
 | int k=>exact .int k x
 | string=>exact .string x
 | pointer e=>exact .pointer x
 | slice e=>exact .slice x.1 x.2.1 x.2.2
 | map a b=>exact .map x
 | _=>exact x
def Wu (d:TypeDesc) (R:Type):Type :=
 match d with
 | .bool=>Bool->R
 | .int _=>Int->R
 | .string=>Xaa->R
 | .pointer _=>Xac->R
 | .slice _=>Xac->Nat->Nat->R
 | .map _ _=>Option Nat->R
 | _=>Xab->R
def Yj (d:TypeDesc) {R:Type} (f:Sv d->R):Wu d R:=by
 cases d with
 | slice e=>exact fun p l c=>f (p,l,c)
 | _=>exact f
def WB (d:TypeDesc) {R:Type} (f:Wu d R) (x:Sv d):R:=by
 cases d with
 | slice e=>exact f x.1 x.2.1 x.2.2
 | _=>exact f x
def M2 (d:TypeDesc) {R:Type} (f:Sv d->R) (x:Sv d):WB d (Yj d f) x=f x:=by
 all_goals (cases d <;> rfl)
def qH:List TypeDesc->Type
 | []=>Unit
 | d::a=>Sv d × qH a
def ep:(a:List TypeDesc)->qH a->List Xab
 | [],_=>[]
 | d::a,x=>VA d x.1::ep a x.2
def FB:List TypeDesc->Type->Type
 | [],R=>R
 | d::a,R=>Wu d (FB a R)
def jJ:(a:List TypeDesc)->{R:Type}->(List Xab->R)->FB a R
 | [],_,f=>f []
 | d::a,_,f=>Yj d fun x=>jJ a fun l=>f (VA d x::l)
def Er:(a:List TypeDesc)->{R:Type}->FB a R->qH a->R
 | [],_,f,_=>f
 | d::a,_,f,x=>Er a (WB d f x.1) x.2
theorem dP:∀ (a:List TypeDesc) {R:Type} (f:List Xab->R) (x:qH a),Er a (jJ a f) x=f (ep a x)
 | [],_,_,_=>rfl
 | d::a,_,f,x=>by
  simp only [jJ,Er,ep,M2];exact dP a _ x.2
theorem vk:∀ (a:List TypeDesc) (x:qH a),(ep a x).length=a.length
 | [],_=>rfl
 | d::a,x=>by simp [ep,vk a x.2]
abbrev ee:=Bool × List TypeDesc
def flat:List ee->List TypeDesc
 | []=>[]
 | c::cs=>c.2++flat cs
def parts:List ee->List Xab->List Xab
 | [],_=>[]
 | (true,a)::cs,l=>.agg (l.take a.length).toArray::parts cs (l.drop a.length)
 | (false,_)::cs,l=>l.headD undef::parts cs l.tail
def rv (a:Bool) (cs:List ee) (l:List Xab):Xab :=
 match a with
 | true=>.tuple (parts cs l).toArray
 | false=>(parts cs l).headD undef
end Go.Sx
