/- Part of the framework. No condition. -/
import Derived.Test.YtfkjiiapldkoeaaGreatDoorSxA
set_option linter.all false
set_option maxHeartbeats 4000000
namespace Go.Sx
variable {R:Type}
def Sv:TypeDesc->Type
 | .bool=>Bool
 | .int _=>Int
 | .string=>XA
 | .pointer _=>Option XC
 | .slice _=>Option XC × Nat × Nat
 | .map _ _=>Option Nat
 | _=>XB
def Mi (d:TypeDesc) (x:Sv d):XB:=by
 cases d with
 | bool=>exact .bool x
 | int k=>exact .int k x
 | string=>exact .string x
 | pointer e=>exact .pointer x
 | slice e=>exact .slice x.1 x.2.1 x.2.2
 | map a b=>exact .map x
 | _=>exact x
def Lz (d:TypeDesc) (R:Type):Type :=
 match d with
 | .bool=>Bool->R
 | .int _=>Int->R
 | .string=>XA->R
 | .pointer _=>Option XC->R
 | .slice _=>Option XC->Nat->Nat->R
 | .map _ _=>Option Nat->R
 | _=>XB->R
def ME (d:TypeDesc) (f:Sv d->R):Lz d R:=by
 cases d with
 | slice e=>exact fun p l c=>f (p,l,c)
 | _=>exact f
def ix (d:TypeDesc) (f:Lz d R) (x:Sv d):R:=by
 cases d with
 | slice e=>exact f x.1 x.2.1 x.2.2
 | _=>exact f x
def Gu (d:TypeDesc) (f:Sv d->R) (x:Sv d):ix d (ME d f) x=f x:=by
 all_goals (cases d <;> rfl)
def qu:List TypeDesc->Type
 | []=>Unit
 | d::ds=>Sv d × qu ds
def gb:(ds:List TypeDesc)->qu ds->List XB
 | [],_=>[]
 | d::ds,x=>Mi d x.1::gb ds x.2
def BD:List TypeDesc->Type->Type
 | [],R=>R
 | d::ds,R=>Lz d (BD ds R)
def dJ:(ds:List TypeDesc)->{R:Type}->(List XB->R)->BD ds R
 | [],_,f=>f []
 | d::ds,_,f=>ME d fun x=>dJ ds fun l=>f (Mi d x::l)
def lW:(ds:List TypeDesc)->{R:Type}->BD ds R->qu ds->R
 | [],_,f,_=>f
 | d::ds,_,f,x=>lW ds (ix d f x.1) x.2
theorem fz:∀ (ds:List TypeDesc) {R:Type} (f:List XB->R) (x:qu ds),lW ds (dJ ds f) x=f (gb ds x)
 | [],_,_,_=>rfl
 | d::ds,_,f,x=>by
  simp only [dJ,lW,gb,Gu];exact fz ds _ x.2
theorem ym:∀ (ds:List TypeDesc) (x:qu ds),(gb ds x).length=ds.length
 | [],_=>rfl
 | d::ds,x=>by simp [gb,ym ds x.2]
abbrev fX:=Bool × List TypeDesc
def flat:List fX->List TypeDesc
 | []=>[]
 | c::cs=>c.2++flat cs
def parts:List fX->List XB->List XB
 | [],_=>[]
 | (true,ds)::cs,l=>.agg (l.take ds.length).toArray::parts cs (l.drop ds.length)
 | (false,_)::cs,l=>l.headD undef::parts cs l.tail
def rv (tup:Bool) (cs:List fX) (l:List XB):XB :=
 match tup with
 | true=>.tuple (parts cs l).toArray
 | false=>(parts cs l).headD undef
end Go.Sx
