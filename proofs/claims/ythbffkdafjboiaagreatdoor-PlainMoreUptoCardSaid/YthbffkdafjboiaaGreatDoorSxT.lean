/- Part of the framework. No condition. -/
import Derived.Test.YthbffkdafjboiaaGreatDoorSxS
set_option linter.all false
set_option maxHeartbeats 4000000
namespace Go.Sx
abbrev Lp:=List (List Xab->Hp->Prop)
def T:=Lp->(Xab->Hp->Prop)->Hp->Prop
def aI (h:Hp) (a:Xax):Nat->List Xab->Prop
 | _,[]=>True
 | i,v::vs=>ij h (a.add i)=some v/\aI h a (i+1) vs
def yb (h:Hp) (a:Xax):Nat->List Xab->Prop
 | _,[]=>True
 | i,v::vs=>cO v=true/\(∃ u,ij h (a.add i)=some u)/\vu h (a.add i)=false/\yb (kR h (a.add i) v) a (i+1) vs
def rN (h:Hp) (a:Xax):Nat->List Xab->Hp
 | _,[]=>h
 | i,v::vs=>rN (kR h (a.add i) v) a (i+1) vs
namespace T
def ret (v:Xab):T:=fun _ K h=>K v h
def fail:T:=fun _ _ _=>False
def need (p:Prop) (t:T):T:=fun L K h=>p/\t L K h
def ah (a:Xax) (ds:List TypeDesc) (k:Ea ds T):T:=fun L K h =>
 ∃ x:qt ds,aI h a 0 (ef ds x)/\EA ds k x L K h
def aC (a:Xax) (vs:List Xab) (k:T):T:=fun L K h =>
 yb h a 0 vs/\k L K (rN h a 0 vs)
def new (cells:List Xab) (e:TypeId) (k:Xax->T):T:=fun L K h=>k ⟨h.size,0,none⟩ L K (h.push (.cells cells.toArray e))
def call (P:Program) (f:FuncId) (args:List Xab) (j:Bool) (cs:List fJ) (k:Ea (flat cs) T):T:=fun L K h =>
 HC P f args.toArray h fun v h'=>∃ x:qt (flat cs),v=rv j cs (ef _ x)/\EA _ k x L K h'
def tj (P:Program) (g:Xab) (args:List Xab) (j:Bool) (cs:List fJ) (k:Ea (flat cs) T):T:=fun L K h =>
 ∃ f first cap, g = .func (.func f) first cap /\ (call P f (first.toList ++ args ++ cap.toList) j cs k) L K h /\ ∃ fn, P.funcs[f]? = some fn /\ fn.body.isSome = true /\ fn.name ≠ "runtime.NumGoroutine"
def eh (P:Program) (s:Sem Xab) (j:Bool) (cs:List fJ) (k:Ea (flat cs) T):T:=fun L K h =>
 aS P s h fun v h'=>∃ x:qt (flat cs),v=rv j cs (ef _ x)/\EA _ k x L K h'
def et (P:Program) (s:Sem Unit) (k:T):T:=fun L K h=>aS P s h fun _ h'=>k L K h'
def next (P:Program) (s:Sem Xab) (cs:List fJ) (j:T) (u:Ea (flat cs) T):T:=fun L K h =>
 aS P s h fun v h'=>(v=.tuple #[.bool false]/\j L K h')\/∃ x:qt (flat cs),v=.tuple (.bool true::parts cs (ef _ x)).toArray/\EA _ u x L K h'
def loop (cs:List fJ) (j:List Xab) (u:Ea (flat cs) T):T:=fun L K h =>
 ∃ I:qt (flat cs)->Nat->Hp->Prop,(∃ x n,j=parts cs (ef _ x)/\I x n h) /\
  ∀ x n h',I x n h'->EA _ u x (L++[fun vs h''=>∃ m,m<n/\∃ y,vs=parts cs (ef _ y)/\I y m h'']) K h'
def join (cs:List fJ) (first:T) (after:Ea (flat cs) T):T:=fun L K h =>
 ∃ J:qt (flat cs)->Hp->Prop,first (L++[fun vs h'=>∃ y,vs=parts cs (ef _ y)/\J y h']) K h/\∀ y h',J y h'->EA _ after y L K h'
def again (lv:Nat) (vs:List Xab):T:=fun L _ h =>
 match L[lv]? with
 | some J=>J vs h
 | none=>False
def DF (h:Hp):List (Xax × List Xab)->Prop
 | []=>True
 | p::l=>aI h p.1 0 p.2/\DF h l
def bi (l:List (Xax × List Xab)) (t:T):T:=fun L K h=>DF h l/\t L K h
def every (L:Lp) (K:Xab->Hp->Prop) (h:Hp):List T->Prop
 | []=>True
 | t::ts=>t L K h/\every L K h ts
def all (ts:List T):T:=fun L K h=>every L K h ts
end T
def an {A B : Prop} (b : B) (e : A = B := by dsimp only [flat,EA,T8,Go.Sx.nA,Go.Sx.cA]) : A := e ▸ b
end Go.Sx
