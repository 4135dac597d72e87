/- Part of the framework. No condition. -/
import Derived.Test.YtfkjiiapldkoeaaGreatDoorSxS
set_option linter.all false
set_option maxHeartbeats 4000000
namespace Go.Sx
abbrev Lp:=List (List XB->Hp->Prop)
def T:=Lp->(XB->Hp->Prop)->Hp->Prop
def bk (h:Hp) (a:XC):Nat->List XB->Prop
 | _,[]=>True
 | i,v::vs=>fC h (a.add i)=some v/\bk h a (i+1) vs
def CI (h:Hp) (a:XC):Nat->List XB->Prop
 | _,[]=>True
 | i,v::vs=>fI v=true/\(∃ u,fC h (a.add i)=some u)/\ua h (a.add i)=false/\CI (kl h (a.add i) v) a (i+1) vs
def yS (h:Hp) (a:XC):Nat->List XB->Hp
 | _,[]=>h
 | i,v::vs=>yS (kl h (a.add i) v) a (i+1) vs
namespace T
def ret (v:XB):T:=fun _ K h=>K v h
def fail:T:=fun _ _ _=>False
def need (p:Prop) (t:T):T:=fun L K h=>p/\t L K h
def ah (a:XC) (ds:List TypeDesc) (k:BD ds T):T:=fun L K h =>
 ∃ x:qu ds,bk h a 0 (gb ds x)/\lW ds k x L K h
def ak (a:XC) (vs:List XB) (k:T):T:=fun L K h =>
 CI h a 0 vs/\k L K (yS h a 0 vs)
def new (cells:List XB) (e:TypeId) (k:XC->T):T:=fun L K h=>k ⟨h.size,0,none⟩ L K (h.push (.cells cells.toArray e))
def call (P:Program) (f:FuncId) (args:List XB) (tup:Bool) (cs:List fX) (k:BD (flat cs) T):T:=fun L K h =>
 HC P f args.toArray h fun v h'=>∃ x:qu (flat cs),v=rv tup cs (gb _ x)/\lW _ k x L K h'
def tV (P:Program) (g:XB) (args:List XB) (tup:Bool) (cs:List fX) (k:BD (flat cs) T):T:=fun L K h =>
 ∃ f first cap, g = .func (.func f) first cap /\ (call P f (first.toList ++ args ++ cap.toList) tup cs k) L K h /\ ∃ fn, P.funcs[f]? = some fn /\ fn.body.isSome = true /\ fn.name ≠ "runtime.NumGoroutine"
def fb (P:Program) (s:Sem XB) (tup:Bool) (cs:List fX) (k:BD (flat cs) T):T:=fun L K h =>
 aV P s h fun v h'=>∃ x:qu (flat cs),v=rv tup cs (gb _ x)/\lW _ k x L K h'
def pB (P:Program) (s:Sem Unit) (k:T):T:=fun L K h=>aV P s h fun _ h'=>k L K h'
def next (P:Program) (s:Sem XB) (cs:List fX) (k0:T) (k1:BD (flat cs) T):T:=fun L K h =>
 aV P s h fun v h'=>(v=.tuple #[.bool false]/\k0 L K h')\/∃ x:qu (flat cs),v=.tuple (.bool true::parts cs (gb _ x)).toArray/\lW _ k1 x L K h'
def loop (cs:List fX) (init:List XB) (body:BD (flat cs) T):T:=fun L K h =>
 ∃ I:qu (flat cs)->Nat->Hp->Prop,(∃ x n,init=parts cs (gb _ x)/\I x n h) /\
  ∀ x n h',I x n h'->lW _ body x (L++[fun vs h''=>∃ m,m<n/\∃ y,vs=parts cs (gb _ y)/\I y m h'']) K h'
def join (cs:List fX) (first:T) (after:BD (flat cs) T):T:=fun L K h =>
 ∃ J:qu (flat cs)->Hp->Prop,first (L++[fun vs h'=>∃ y,vs=parts cs (gb _ y)/\J y h']) K h/\∀ y h',J y h'->lW _ after y L K h'
def again (lv:Nat) (vs:List XB):T:=fun L _ h =>
 match L[lv]? with
 | some J=>J vs h
 | none=>False
def Gg (h:Hp):List (XC × List XB)->Prop
 | []=>True
 | p::l=>bk h p.1 0 p.2/\Gg h l
def aT (l:List (XC × List XB)) (t:T):T:=fun L K h=>Gg h l/\t L K h
def every (L:Lp) (K:XB->Hp->Prop) (h:Hp):List T->Prop
 | []=>True
 | t::ts=>t L K h/\every L K h ts
def all (ts:List T):T:=fun L K h=>every L K h ts
end T
def ao {A B : Prop} (b : B) (e : A = B := by dsimp only [flat,lW,ix,Go.Sx.nA,Go.Sx.cA]) : A := e ▸ b
end Go.Sx
