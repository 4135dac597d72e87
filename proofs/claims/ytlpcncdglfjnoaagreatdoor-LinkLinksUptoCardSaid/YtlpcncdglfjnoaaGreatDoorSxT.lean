/- A framework of our own, part T: trees: what a body of code asks for, step by step. No condition. -/
import Derived.Test.YtlpcncdglfjnoaaGreatDoorSxS
set_option linter.all false
set_option maxHeartbeats 4000000
namespace Go.Sx
abbrev Lp:=List (List YB->Hp->Prop)
def T:=Lp->(YB->Hp->Prop)->Hp->Prop
def aG (h:Hp) (a:YC):Nat->List YB->Prop
 | _,[]=>True
 | i,v::vs=>ij h (a.add i)=some v/\aG h a (i+1) vs
def xD (h:Hp) (a:YC):Nat->List YB->Prop
 | _,[]=>True
 | i,v::vs=>cS v=true/\(∃ u,ij h (a.add i)=some u)/\tU h (a.add i)=false/\xD (km h (a.add i) v) a (i+1) vs
def ri (h:Hp) (a:YC):Nat->List YB->Hp
 | _,[]=>h
 | i,v::vs=>ri (km h (a.add i) v) a (i+1) vs
namespace T
def ret (v:YB):T:=fun _ K h=>K v h
def fail:T:=fun _ _ _=>False
def need (p:Prop) (t:T):T:=fun L K h=>p/\t L K h
def ah (a:YC) (ds:List TypeDesc) (k:EX ds T):T:=fun L K h =>
 ∃ x:qa ds,aG h a 0 (dU ds x)/\Fb ds k x L K h
def aD (a:YC) (vs:List YB) (k:T):T:=fun L K h =>
 xD h a 0 vs/\k L K (ri h a 0 vs)
def new (cells:List YB) (e:TypeId) (k:YC->T):T:=fun L K h=>k ⟨h.size,0,none⟩ L K (h.push (.cells cells.toArray e))
def call (P:Program) (f:FuncId) (args:List YB) (tup:Bool) (cs:List fx) (k:EX (flat cs) T):T:=fun L K h =>
 HC P f args.toArray h fun v h'=>∃ x:qa (flat cs),v=rv tup cs (dU _ x)/\Fb _ k x L K h'
def ul (P:Program) (g:YB) (args:List YB) (tup:Bool) (cs:List fx) (k:EX (flat cs) T):T:=fun L K h =>
 ∃ f first cap, g = .func (.func f) first cap /\ (call P f (first.toList ++ args ++ cap.toList) tup cs k) L K h /\ ∃ fn, P.funcs[f]? = some fn /\ fn.body.isSome = true /\ fn.name ≠ "runtime.NumGoroutine"
def dW (P:Program) (s:Sem YB) (tup:Bool) (cs:List fx) (k:EX (flat cs) T):T:=fun L K h =>
 aP P s h fun v h'=>∃ x:qa (flat cs),v=rv tup cs (dU _ x)/\Fb _ k x L K h'
def ec (P:Program) (s:Sem Unit) (k:T):T:=fun L K h=>aP P s h fun _ h'=>k L K h'
def next (P:Program) (s:Sem YB) (cs:List fx) (k0:T) (k1:EX (flat cs) T):T:=fun L K h =>
 aP P s h fun v h'=>(v=.tuple #[.bool false]/\k0 L K h')\/∃ x:qa (flat cs),v=.tuple (.bool true::parts cs (dU _ x)).toArray/\Fb _ k1 x L K h'
def loop (cs:List fx) (init:List YB) (body:EX (flat cs) T):T:=fun L K h =>
 ∃ I:qa (flat cs)->Nat->Hp->Prop,(∃ x n,init=parts cs (dU _ x)/\I x n h) /\
  ∀ x n h',I x n h'->Fb _ body x (L++[fun vs h''=>∃ m,m<n/\∃ y,vs=parts cs (dU _ y)/\I y m h'']) K h'
def join (cs:List fx) (first:T) (after:EX (flat cs) T):T:=fun L K h =>
 ∃ J:qa (flat cs)->Hp->Prop,first (L++[fun vs h'=>∃ y,vs=parts cs (dU _ y)/\J y h']) K h/\∀ y h',J y h'->Fb _ after y L K h'
def again (lv:Nat) (vs:List YB):T:=fun L _ h =>
 match L[lv]? with
 | some J=>J vs h
 | none=>False
def Al (h:Hp):List (YC × List YB)->Prop
 | []=>True
 | p::l=>aG h p.1 0 p.2/\Al h l
def aY (l:List (YC × List YB)) (t:T):T:=fun L K h=>Al h l/\t L K h
def every (L:Lp) (K:YB->Hp->Prop) (h:Hp):List T->Prop
 | []=>True
 | t::ts=>t L K h/\every L K h ts
def all (ts:List T):T:=fun L K h=>every L K h ts
end T
theorem an {A B : Prop} (b : B) (e : A = B := by dsimp only [flat,Fb,Sr,Go.Sx.nA,Go.Sx.cA]) : A := e ▸ b
end Go.Sx
