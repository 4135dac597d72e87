/- A framework of our own, part S: shapes of values. No condition. -/
import Derived.Test.YtfkjiiapldkoeaaGreatDoorSxA
set_option linter.unusedVariables false
set_option linter.unusedSimpArgs false
set_option linter.deprecated false
namespace Go.Sx
variable {R:Type}
def Sv:TypeDesc→Type
 | .bool=>Bool
 | .int _=>Int
 | .string=>ByteArray
 | .pointer _=>Option Addr
 | .slice _=>Option Addr × Nat × Nat
 | .map _ _=>Option Nat
 | _=>Value
def Ll (d:TypeDesc) (x:Sv d):Value:=by
 cases d with
 | bool=>exact .bool x
 | int k=>exact .int k x
 | string=>exact .string x
 | pointer e=>exact .pointer x
 | slice e=>exact .slice x.1 x.2.1 x.2.2
 | map a b=>exact .map x
 | _=>exact x
def KH (d:TypeDesc) (R:Type):Type :=
 match d with
 | .bool=>Bool→R
 | .int _=>Int→R
 | .string=>ByteArray→R
 | .pointer _=>Option Addr→R
 | .slice _=>Option Addr→Nat→Nat→R
 | .map _ _=>Option Nat→R
 | _=>Value→R
def L0 (d:TypeDesc) (f:Sv d→R):KH d R:=by
 cases d with
 | slice e=>exact fun p l c=>f (p,l,c)
 | _=>exact f
def ah (d:TypeDesc) (f:KH d R) (x:Sv d):R:=by
 cases d with
 | slice e=>exact f x.1 x.2.1 x.2.2
 | _=>exact f x
theorem Fb (d:TypeDesc) (f:Sv d→R) (x:Sv d):ah d (L0 d f) x=f x:=by
 all_goals (cases d <;> rfl)
def qh:List TypeDesc→Type
 | []=>Unit
 | d::ds=>Sv d × qh ds
def fp:(ds:List TypeDesc)→qh ds→List Value
 | [],_=>[]
 | d::ds,x=>Ll d x.1::fp ds x.2
def BK:List TypeDesc→Type→Type
 | [],R=>R
 | d::ds,R=>KH d (BK ds R)
def cj:(ds:List TypeDesc)→{R:Type}→(List Value→R)→BK ds R
 | [],_,f=>f []
 | d::ds,_,f=>L0 d fun x=>cj ds fun l=>f (Ll d x::l)
def az:(ds:List TypeDesc)→{R:Type}→BK ds R→qh ds→R
 | [],_,f,_=>f
 | d::ds,_,f,x=>az ds (ah d f x.1) x.2
theorem ej:∀ (ds:List TypeDesc) {R:Type} (f:List Value→R) (x:qh ds),az ds (cj ds f) x=f (fp ds x)
 | [],_,_,_=>rfl
 | d::ds,_,f,x=>by
  simp only [cj,az,fp,Fb];exact ej ds _ x.2
theorem vD:∀ (ds:List TypeDesc) (x:qh ds),(fp ds x).length=ds.length
 | [],_=>rfl
 | d::ds,x=>by simp [fp,vD ds x.2]
abbrev gJ:=Bool × List TypeDesc
def flat:List gJ→List TypeDesc
 | []=>[]
 | c::cs=>c.2++flat cs
def parts:List gJ→List Value→List Value
 | [],_=>[]
 | (true,ds)::cs,l=>.agg (l.take ds.length).toArray::parts cs (l.drop ds.length)
 | (false,_)::cs,l=>l.headD undef::parts cs l.tail
def rv (tup:Bool) (cs:List gJ) (l:List Value):Value :=
 match tup with
 | true=>.tuple (parts cs l).toArray
 | false=>(parts cs l).headD undef
end Go.Sx
