/- Part of the framework. No condition. -/
import Derived.Test.YtlpcncdglfjnoaaGreatDoorSxS
set_option linter.all false
set_option maxHeartbeats 4000000
namespace Go.Sx
abbrev Lp:=List (List XB->Hp->Prop)
def T:=Lp->(XB->Hp->Prop)->Hp->Prop
def aE (h:Hp) (a:YA):Nat->List XB->Prop
 | _,[]=>True
 | i,v::b=>jr h (a.add i)=some v/\aE h a (i+1) b
def xO (h:Hp) (a:YA):Nat->List XB->Prop
 | _,[]=>True
 | i,v::b=>cO v=true/\(∃ u,jr h (a.add i)=some u)/\uM h (a.add i)=false/\xO (iC h (a.add i) v) a (i+1) b
def qW (h:Hp) (a:YA):Nat->List XB->Hp
 | _,[]=>h
 | i,v::b=>qW (iC h (a.add i) v) a (i+1) b
namespace T
def ret (v:XB):T:=fun _ K h=>K v h
def fail:T:=fun _ _ _=>False
def need (p:Prop) (t:T):T:=fun L K h=>p/\t L K h
def ae (a:YA) (b:List TypeDesc) (k:C4 b T):T:=fun L K h =>
 ∃ x:qK b,aE h a 0 (dS b x)/\C5 b k x L K h
def ao (a:YA) (vs:List XB) (k:T):T:=fun L K h =>
 xO h a 0 vs/\k L K (qW h a 0 vs)
def new (cells:List XB) (e:TypeId) (k:YA->T):T:=fun L K h=>k ⟨h.size,0,none⟩ L K (h.push (.cells cells.toArray e))
def call (P:Program) (f:FuncId) (args:List XB) (a:Bool) (cs:List ef) (k:C4 (flat cs) T):T:=fun L K h =>
 HC P f args.toArray h fun v h'=>∃ x:qK (flat cs),v=rv a cs (dS _ x)/\C5 _ k x L K h'
def uG (P:Program) (g:XB) (args:List XB) (a:Bool) (cs:List ef) (k:C4 (flat cs) T):T:=fun L K h =>
 ∃ f first cap, g = .func (.func f) first cap /\ (call P f (first.toList ++ args ++ cap.toList) a cs k) L K h /\ ∃ fn, P.funcs[f]? = some fn /\ fn.body.isSome = true /\ fn.name ≠ "runtime.NumGoroutine"
def eK (P:Program) (s:Sem XB) (a:Bool) (cs:List ef) (k:C4 (flat cs) T):T:=fun L K h =>
 aI P s h fun v h'=>∃ x:qK (flat cs),v=rv a cs (dS _ x)/\C5 _ k x L K h'
def ek (P:Program) (s:Sem Unit) (k:T):T:=fun L K h=>aI P s h fun _ h'=>k L K h'
def next (P:Program) (s:Sem XB) (cs:List ef) (a:T) (b:C4 (flat cs) T):T:=fun L K h =>
 aI P s h fun v h'=>(v=.tuple #[.bool false]/\a L K h')\/∃ x:qK (flat cs),v=.tuple (.bool true::parts cs (dS _ x)).toArray/\C5 _ b x L K h'
def loop (cs:List ef) (a:List XB) (b:C4 (flat cs) T):T:=fun L K h =>
 ∃ I:qK (flat cs)->Nat->Hp->Prop,(∃ x n,a=parts cs (dS _ x)/\I x n h) /\
  ∀ x n h',I x n h'->C5 _ b x (L++[fun d c=>∃ m,m<n/\∃ y,d=parts cs (dS _ y)/\I y m c]) K h'
def join (cs:List ef) (first:T) (after:C4 (flat cs) T):T:=fun L K h =>
 ∃ J:qK (flat cs)->Hp->Prop,first (L++[fun a h'=>∃ y,a=parts cs (dS _ y)/\J y h']) K h/\∀ y h',J y h'->C5 _ after y L K h'
def again (a:Nat) (b:List XB):T:=fun L _ h =>
 match L[a]? with
 | some J=>J b h
 | none=>False
def EK (h:Hp):List (YA × List XB)->Prop
 | []=>True
 | p::l=>aE h p.1 0 p.2/\EK h l
def az (l:List (YA × List XB)) (t:T):T:=fun L K h=>EK h l/\t L K h
def every (L:Lp) (K:XB->Hp->Prop) (h:Hp):List T->Prop
 | []=>True
 | t::ts=>t L K h/\every L K h ts
def all (ts:List T):T:=fun L K h=>every L K h ts
end T
def ak {A B : Prop} (b : B) (e : A = B := by dsimp only [flat,C5,Rn,Go.Sx.nA,Go.Sx.cA]) : A := e ▸ b
end Go.Sx
