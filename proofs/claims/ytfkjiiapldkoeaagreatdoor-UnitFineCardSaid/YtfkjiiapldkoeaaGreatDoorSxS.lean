/- A framework of our own, part S: shapes of values. No condition. -/
import Derived.Test.YtfkjiiapldkoeaaGreatDoorSxA
set_option linter.unusedVariables false
set_option linter.unusedSimpArgs false
set_option linter.deprecated false
namespace Go.Sx
variable {R:Type}
def Sv:TypeDesc→Type
 | .bool=>Bool
 | .int _=>Int
 | .string=>ByteArray
 | .pointer _=>Option Addr
 | .slice _=>Option Addr × Nat × Nat
 | .map _ _=>Option Nat
 | _=>Value
def Lq (d:TypeDesc) (x:Sv d):Value:=by
 cases d with
 | bool=>exact .bool x
 | int k=>exact .int k x
 | string=>exact .string x
 | pointer e=>exact .pointer x
 | slice e=>exact .slice x.1 x.2.1 x.2.2
 | map a b=>exact .map x
 | _=>exact x
def J6 (d:TypeDesc) (R:Type):Type :=
 match d with
 | .bool=>Bool→R
 | .int _=>Int→R
 | .string=>ByteArray→R
 | .pointer _=>Option Addr→R
 | .slice _=>Option Addr→Nat→Nat→R
 | .map _ _=>Option Nat→R
 | _=>Value→R
def KO (d:TypeDesc) (f:Sv d→R):J6 d R:=by
 cases d with
 | slice e=>exact fun p l c=>f (p,l,c)
 | _=>exact f
def ai (d:TypeDesc) (f:J6 d R) (x:Sv d):R:=by
 cases d with
 | slice e=>exact f x.1 x.2.1 x.2.2
 | _=>exact f x
theorem Eb (d:TypeDesc) (f:Sv d→R) (x:Sv d):ai d (KO d f) x=f x:=by
 all_goals (cases d <;> rfl)
def rQ:List TypeDesc→Type
 | []=>Unit
 | d::ds=>Sv d × rQ ds
def fw:(ds:List TypeDesc)→rQ ds→List Value
 | [],_=>[]
 | d::ds,x=>Lq d x.1::fw ds x.2
def zJ:List TypeDesc→Type→Type
 | [],R=>R
 | d::ds,R=>J6 d (zJ ds R)
def bW:(ds:List TypeDesc)→{R:Type}→(List Value→R)→zJ ds R
 | [],_,f=>f []
 | d::ds,_,f=>KO d fun x=>bW ds fun l=>f (Lq d x::l)
def aB:(ds:List TypeDesc)→{R:Type}→zJ ds R→rQ ds→R
 | [],_,f,_=>f
 | d::ds,_,f,x=>aB ds (ai d f x.1) x.2
theorem ei:∀ (ds:List TypeDesc) {R:Type} (f:List Value→R) (x:rQ ds),aB ds (bW ds f) x=f (fw ds x)
 | [],_,_,_=>rfl
 | d::ds,_,f,x=>by
  simp only [bW,aB,fw,Eb];exact ei ds _ x.2
theorem wF:∀ (ds:List TypeDesc) (x:rQ ds),(fw ds x).length=ds.length
 | [],_=>rfl
 | d::ds,x=>by simp [fw,wF ds x.2]
abbrev gH:=Bool × List TypeDesc
def flat:List gH→List TypeDesc
 | []=>[]
 | c::cs=>c.2++flat cs
def parts:List gH→List Value→List Value
 | [],_=>[]
 | (true,ds)::cs,l=>.agg (l.take ds.length).toArray::parts cs (l.drop ds.length)
 | (false,_)::cs,l=>l.headD undef::parts cs l.tail
def rv (tup:Bool) (cs:List gH) (l:List Value):Value :=
 match tup with
 | true=>.tuple (parts cs l).toArray
 | false=>(parts cs l).headD undef
end Go.Sx
