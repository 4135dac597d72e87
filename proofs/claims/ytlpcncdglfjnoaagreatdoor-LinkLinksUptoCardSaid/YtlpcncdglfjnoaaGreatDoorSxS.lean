/- A framework of our own, part S: shapes of values. No condition. -/
import Derived.Test.YtlpcncdglfjnoaaGreatDoorSxA
set_option linter.all false
set_option maxHeartbeats 4000000
namespace Go.Sx
variable {R:Type}
def Sv:TypeDesc->Type
 | .bool=>Bool
 | .int _=>Int
 | .string=>YA
 | .pointer _=>Option YC
 | .slice _=>Option YC × Nat × Nat
 | .map _ _=>Option Nat
 | _=>YB
def Ss (d:TypeDesc) (x:Sv d):YB:=by
 cases d with
 | bool=>exact .bool x
 | int k=>exact .int k x
 | string=>exact .string x
 | pointer e=>exact .pointer x
 | slice e=>exact .slice x.1 x.2.1 x.2.2
 | map a b=>exact .map x
 | _=>exact x
def SE (d:TypeDesc) (R:Type):Type :=
 match d with
 | .bool=>Bool->R
 | .int _=>Int->R
 | .string=>YA->R
 | .pointer _=>Option YC->R
 | .slice _=>Option YC->Nat->Nat->R
 | .map _ _=>Option Nat->R
 | _=>YB->R
def TB (d:TypeDesc) (f:Sv d->R):SE d R:=by
 cases d with
 | slice e=>exact fun p l c=>f (p,l,c)
 | _=>exact f
def Sr (d:TypeDesc) (f:SE d R) (x:Sv d):R:=by
 cases d with
 | slice e=>exact f x.1 x.2.1 x.2.2
 | _=>exact f x
theorem JH (d:TypeDesc) (f:Sv d->R) (x:Sv d):Sr d (TB d f) x=f x:=by
 all_goals (cases d <;> rfl)
def qa:List TypeDesc->Type
 | []=>Unit
 | d::ds=>Sv d × qa ds
def dU:(ds:List TypeDesc)->qa ds->List YB
 | [],_=>[]
 | d::ds,x=>Ss d x.1::dU ds x.2
def EX:List TypeDesc->Type->Type
 | [],R=>R
 | d::ds,R=>SE d (EX ds R)
def jh:(ds:List TypeDesc)->{R:Type}->(List YB->R)->EX ds R
 | [],_,f=>f []
 | d::ds,_,f=>TB d fun x=>jh ds fun l=>f (Ss d x::l)
def Fb:(ds:List TypeDesc)->{R:Type}->EX ds R->qa ds->R
 | [],_,f,_=>f
 | d::ds,_,f,x=>Fb ds (Sr d f x.1) x.2
theorem dr:∀ (ds:List TypeDesc) {R:Type} (f:List YB->R) (x:qa ds),Fb ds (jh ds f) x=f (dU ds x)
 | [],_,_,_=>rfl
 | d::ds,_,f,x=>by
  simp only [jh,Fb,dU,JH];exact dr ds _ x.2
theorem tp:∀ (ds:List TypeDesc) (x:qa ds),(dU ds x).length=ds.length
 | [],_=>rfl
 | d::ds,x=>by simp [dU,tp ds x.2]
abbrev fx:=Bool × List TypeDesc
def flat:List fx->List TypeDesc
 | []=>[]
 | c::cs=>c.2++flat cs
def parts:List fx->List YB->List YB
 | [],_=>[]
 | (true,ds)::cs,l=>.agg (l.take ds.length).toArray::parts cs (l.drop ds.length)
 | (false,_)::cs,l=>l.headD undef::parts cs l.tail
def rv (tup:Bool) (cs:List fx) (l:List YB):YB :=
 match tup with
 | true=>.tuple (parts cs l).toArray
 | false=>(parts cs l).headD undef
end Go.Sx
