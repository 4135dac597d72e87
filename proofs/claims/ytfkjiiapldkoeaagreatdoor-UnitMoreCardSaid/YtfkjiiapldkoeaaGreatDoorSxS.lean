/- A framework of our own, part S: shapes of values. No condition. -/
import Derived.Test.YtfkjiiapldkoeaaGreatDoorSxA
set_option linter.unusedVariables false
set_option linter.unusedSimpArgs false
set_option linter.deprecated false
namespace Go.Sx
variable {R:Type}
def Sv:TypeDesc→Type
 | .bool=>Bool
 | .int _=>Int
 | .string=>ByteArray
 | .pointer _=>Option Addr
 | .slice _=>Option Addr × Nat × Nat
 | .map _ _=>Option Nat
 | _=>Value
def Kn (d:TypeDesc) (x:Sv d):Value:=by
 cases d with
 | bool=>exact .bool x
 | int k=>exact .int k x
 | string=>exact .string x
 | pointer e=>exact .pointer x
 | slice e=>exact .slice x.1 x.2.1 x.2.2
 | map a b=>exact .map x
 | _=>exact x
def Jk (d:TypeDesc) (R:Type):Type :=
 match d with
 | .bool=>Bool→R
 | .int _=>Int→R
 | .string=>ByteArray→R
 | .pointer _=>Option Addr→R
 | .slice _=>Option Addr→Nat→Nat→R
 | .map _ _=>Option Nat→R
 | _=>Value→R
def Kc (d:TypeDesc) (f:Sv d→R):Jk d R:=by
 cases d with
 | slice e=>exact fun p l c=>f (p,l,c)
 | _=>exact f
def ai (d:TypeDesc) (f:Jk d R) (x:Sv d):R:=by
 cases d with
 | slice e=>exact f x.1 x.2.1 x.2.2
 | _=>exact f x
theorem Dq (d:TypeDesc) (f:Sv d→R) (x:Sv d):ai d (Kc d f) x=f x:=by
 all_goals (cases d <;> rfl)
def qB:List TypeDesc→Type
 | []=>Unit
 | d::ds=>Sv d × qB ds
def fk:(ds:List TypeDesc)→qB ds→List Value
 | [],_=>[]
 | d::ds,x=>Kn d x.1::fk ds x.2
def AO:List TypeDesc→Type→Type
 | [],R=>R
 | d::ds,R=>Jk d (AO ds R)
def bS:(ds:List TypeDesc)→{R:Type}→(List Value→R)→AO ds R
 | [],_,f=>f []
 | d::ds,_,f=>Kc d fun x=>bS ds fun l=>f (Kn d x::l)
def aA:(ds:List TypeDesc)→{R:Type}→AO ds R→qB ds→R
 | [],_,f,_=>f
 | d::ds,_,f,x=>aA ds (ai d f x.1) x.2
theorem dY:∀ (ds:List TypeDesc) {R:Type} (f:List Value→R) (x:qB ds),aA ds (bS ds f) x=f (fk ds x)
 | [],_,_,_=>rfl
 | d::ds,_,f,x=>by
  simp only [bS,aA,fk,Dq];exact dY ds _ x.2
theorem vT:∀ (ds:List TypeDesc) (x:qB ds),(fk ds x).length=ds.length
 | [],_=>rfl
 | d::ds,x=>by simp [fk,vT ds x.2]
abbrev gw:=Bool × List TypeDesc
def flat:List gw→List TypeDesc
 | []=>[]
 | c::cs=>c.2++flat cs
def parts:List gw→List Value→List Value
 | [],_=>[]
 | (true,ds)::cs,l=>.agg (l.take ds.length).toArray::parts cs (l.drop ds.length)
 | (false,_)::cs,l=>l.headD undef::parts cs l.tail
def rv (tup:Bool) (cs:List gw) (l:List Value):Value :=
 match tup with
 | true=>.tuple (parts cs l).toArray
 | false=>(parts cs l).headD undef
end Go.Sx
