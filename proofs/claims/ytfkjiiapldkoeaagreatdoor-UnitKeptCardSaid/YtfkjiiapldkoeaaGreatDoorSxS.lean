/- A framework of our own, part S: shapes of values. No condition. -/
import Derived.Test.YtfkjiiapldkoeaaGreatDoorSxA
set_option linter.unusedVariables false
set_option linter.unusedSimpArgs false
set_option linter.deprecated false
namespace Go.Sx
variable {R:Type}
def Sv:TypeDesc→Type
 | .bool=>Bool
 | .int _=>Int
 | .string=>ByteArray
 | .pointer _=>Option Addr
 | .slice _=>Option Addr × Nat × Nat
 | .map _ _=>Option Nat
 | _=>Value
def LQ (d:TypeDesc) (x:Sv d):Value:=by
 cases d with
 | bool=>exact .bool x
 | int k=>exact .int k x
 | string=>exact .string x
 | pointer e=>exact .pointer x
 | slice e=>exact .slice x.1 x.2.1 x.2.2
 | map a b=>exact .map x
 | _=>exact x
def K0 (d:TypeDesc) (R:Type):Type :=
 match d with
 | .bool=>Bool→R
 | .int _=>Int→R
 | .string=>ByteArray→R
 | .pointer _=>Option Addr→R
 | .slice _=>Option Addr→Nat→Nat→R
 | .map _ _=>Option Nat→R
 | _=>Value→R
def Mr (d:TypeDesc) (f:Sv d→R):K0 d R:=by
 cases d with
 | slice e=>exact fun p l c=>f (p,l,c)
 | _=>exact f
def aj (d:TypeDesc) (f:K0 d R) (x:Sv d):R:=by
 cases d with
 | slice e=>exact f x.1 x.2.1 x.2.2
 | _=>exact f x
theorem EJ (d:TypeDesc) (f:Sv d→R) (x:Sv d):aj d (Mr d f) x=f x:=by
 all_goals (cases d <;> rfl)
def rB:List TypeDesc→Type
 | []=>Unit
 | d::ds=>Sv d × rB ds
def fG:(ds:List TypeDesc)→rB ds→List Value
 | [],_=>[]
 | d::ds,x=>LQ d x.1::fG ds x.2
def Cd:List TypeDesc→Type→Type
 | [],R=>R
 | d::ds,R=>K0 d (Cd ds R)
def cd:(ds:List TypeDesc)→{R:Type}→(List Value→R)→Cd ds R
 | [],_,f=>f []
 | d::ds,_,f=>Mr d fun x=>cd ds fun l=>f (LQ d x::l)
def aD:(ds:List TypeDesc)→{R:Type}→Cd ds R→rB ds→R
 | [],_,f,_=>f
 | d::ds,_,f,x=>aD ds (aj d f x.1) x.2
theorem eu:∀ (ds:List TypeDesc) {R:Type} (f:List Value→R) (x:rB ds),aD ds (cd ds f) x=f (fG ds x)
 | [],_,_,_=>rfl
 | d::ds,_,f,x=>by
  simp only [cd,aD,fG,EJ];exact eu ds _ x.2
theorem xo:∀ (ds:List TypeDesc) (x:rB ds),(fG ds x).length=ds.length
 | [],_=>rfl
 | d::ds,x=>by simp [fG,xo ds x.2]
abbrev gX:=Bool × List TypeDesc
def flat:List gX→List TypeDesc
 | []=>[]
 | c::cs=>c.2++flat cs
def parts:List gX→List Value→List Value
 | [],_=>[]
 | (true,ds)::cs,l=>.agg (l.take ds.length).toArray::parts cs (l.drop ds.length)
 | (false,_)::cs,l=>l.headD undef::parts cs l.tail
def rv (tup:Bool) (cs:List gX) (l:List Value):Value :=
 match tup with
 | true=>.tuple (parts cs l).toArray
 | false=>(parts cs l).headD undef
end Go.Sx
