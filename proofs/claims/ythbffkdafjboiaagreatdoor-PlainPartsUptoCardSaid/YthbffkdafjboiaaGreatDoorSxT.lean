/- Part of the framework. No condition. -/
import Derived.Test.YthbffkdafjboiaaGreatDoorSxS
set_option linter.all false
set_option maxHeartbeats 4000000
namespace Go.Sx
abbrev Lp:=List (List ZB->Hp->Prop)
def T:=Lp->(ZB->Hp->Prop)->Hp->Prop
def aJ (h:Hp) (a:Zx):Nat->List ZB->Prop
 | _,[]=>True
 | i,v::vs=>iq h (a.add i)=some v/\aJ h a (i+1) vs
def xK (h:Hp) (a:Zx):Nat->List ZB->Prop
 | _,[]=>True
 | i,v::vs=>cX v=true/\(∃ u,iq h (a.add i)=some u)/\uK h (a.add i)=false/\xK (kG h (a.add i) v) a (i+1) vs
def rp (h:Hp) (a:Zx):Nat->List ZB->Hp
 | _,[]=>h
 | i,v::vs=>rp (kG h (a.add i) v) a (i+1) vs
namespace T
def ret (v:ZB):T:=fun _ K h=>K v h
def fail:T:=fun _ _ _=>False
def need (p:Prop) (t:T):T:=fun L K h=>p/\t L K h
def ah (a:Zx) (ds:List TypeDesc) (k:DA ds T):T:=fun L K h =>
 ∃ x:qb ds,aJ h a 0 (dZ ds x)/\DZ ds k x L K h
def aE (a:Zx) (vs:List ZB) (k:T):T:=fun L K h =>
 xK h a 0 vs/\k L K (rp h a 0 vs)
def new (cells:List ZB) (e:TypeId) (k:Zx->T):T:=fun L K h=>k ⟨h.size,0,none⟩ L K (h.push (.cells cells.toArray e))
def call (P:Program) (f:FuncId) (args:List ZB) (tup:Bool) (cs:List fE) (k:DA (flat cs) T):T:=fun L K h =>
 HC P f args.toArray h fun v h'=>∃ x:qb (flat cs),v=rv tup cs (dZ _ x)/\DZ _ k x L K h'
def sI (P:Program) (g:ZB) (args:List ZB) (tup:Bool) (cs:List fE) (k:DA (flat cs) T):T:=fun L K h =>
 ∃ f first cap, g = .func (.func f) first cap /\ (call P f (first.toList ++ args ++ cap.toList) tup cs k) L K h /\ ∃ fn, P.funcs[f]? = some fn /\ fn.body.isSome = true /\ fn.name ≠ "runtime.NumGoroutine"
def ek (P:Program) (s:Sem ZB) (tup:Bool) (cs:List fE) (k:DA (flat cs) T):T:=fun L K h =>
 aS P s h fun v h'=>∃ x:qb (flat cs),v=rv tup cs (dZ _ x)/\DZ _ k x L K h'
def ei (P:Program) (s:Sem Unit) (k:T):T:=fun L K h=>aS P s h fun _ h'=>k L K h'
def next (P:Program) (s:Sem ZB) (cs:List fE) (k0:T) (k1:DA (flat cs) T):T:=fun L K h =>
 aS P s h fun v h'=>(v=.tuple #[.bool false]/\k0 L K h')\/∃ x:qb (flat cs),v=.tuple (.bool true::parts cs (dZ _ x)).toArray/\DZ _ k1 x L K h'
def loop (cs:List fE) (init:List ZB) (body:DA (flat cs) T):T:=fun L K h =>
 ∃ I:qb (flat cs)->Nat->Hp->Prop,(∃ x n,init=parts cs (dZ _ x)/\I x n h) /\
  ∀ x n h',I x n h'->DZ _ body x (L++[fun vs h''=>∃ m,m<n/\∃ y,vs=parts cs (dZ _ y)/\I y m h'']) K h'
def join (cs:List fE) (first:T) (after:DA (flat cs) T):T:=fun L K h =>
 ∃ J:qb (flat cs)->Hp->Prop,first (L++[fun vs h'=>∃ y,vs=parts cs (dZ _ y)/\J y h']) K h/\∀ y h',J y h'->DZ _ after y L K h'
def again (lv:Nat) (vs:List ZB):T:=fun L _ h =>
 match L[lv]? with
 | some J=>J vs h
 | none=>False
def C6 (h:Hp):List (Zx × List ZB)->Prop
 | []=>True
 | p::l=>aJ h p.1 0 p.2/\C6 h l
def bj (l:List (Zx × List ZB)) (t:T):T:=fun L K h=>C6 h l/\t L K h
def every (L:Lp) (K:ZB->Hp->Prop) (h:Hp):List T->Prop
 | []=>True
 | t::ts=>t L K h/\every L K h ts
def all (ts:List T):T:=fun L K h=>every L K h ts
end T
def ao {A B : Prop} (b : B) (e : A = B := by dsimp only [flat,DZ,SU,Go.Sx.nA,Go.Sx.cA]) : A := e ▸ b
end Go.Sx
