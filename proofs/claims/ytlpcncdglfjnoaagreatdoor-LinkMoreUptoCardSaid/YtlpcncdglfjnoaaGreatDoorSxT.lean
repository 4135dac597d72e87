/- A framework of our own, part T: trees: what a body of code asks for, step by step. No condition. -/
import Derived.Test.YtlpcncdglfjnoaaGreatDoorSxS
set_option linter.all false
set_option maxHeartbeats 4000000
namespace Go.Sx
abbrev Lp:=List (List ZB->Hp->Prop)
def T:=Lp->(ZB->Hp->Prop)->Hp->Prop
def aG (h:Hp) (a:ZC):Nat->List ZB->Prop
 | _,[]=>True
 | i,v::vs=>gU h (a.add i)=some v/\aG h a (i+1) vs
def xI (h:Hp) (a:ZC):Nat->List ZB->Prop
 | _,[]=>True
 | i,v::vs=>cP v=true/\(∃ u,gU h (a.add i)=some u)/\vj h (a.add i)=false/\xI (kp h (a.add i) v) a (i+1) vs
def qz (h:Hp) (a:ZC):Nat->List ZB->Hp
 | _,[]=>h
 | i,v::vs=>qz (kp h (a.add i) v) a (i+1) vs
namespace T
def ret (v:ZB):T:=fun _ K h=>K v h
def fail:T:=fun _ _ _=>False
def need (p:Prop) (t:T):T:=fun L K h=>p/\t L K h
def ah (a:ZC) (ds:List TypeDesc) (k:Fm ds T):T:=fun L K h =>
 ∃ x:qd ds,aG h a 0 (dU ds x)/\DB ds k x L K h
def aC (a:ZC) (vs:List ZB) (k:T):T:=fun L K h =>
 xI h a 0 vs/\k L K (qz h a 0 vs)
def new (cells:List ZB) (e:TypeId) (k:ZC->T):T:=fun L K h=>k ⟨h.size,0,none⟩ L K (h.push (.cells cells.toArray e))
def call (P:Program) (f:FuncId) (args:List ZB) (tup:Bool) (cs:List fq) (k:Fm (flat cs) T):T:=fun L K h =>
 HC P f args.toArray h fun v h'=>∃ x:qd (flat cs),v=rv tup cs (dU _ x)/\DB _ k x L K h'
def vA (P:Program) (g:ZB) (args:List ZB) (tup:Bool) (cs:List fq) (k:Fm (flat cs) T):T:=fun L K h =>
 ∃ f first cap, g = .func (.func f) first cap /\ (call P f (first.toList ++ args ++ cap.toList) tup cs k) L K h /\ ∃ fn, P.funcs[f]? = some fn /\ fn.body.isSome = true /\ fn.name ≠ "runtime.NumGoroutine"
def dY (P:Program) (s:Sem ZB) (tup:Bool) (cs:List fq) (k:Fm (flat cs) T):T:=fun L K h =>
 aQ P s h fun v h'=>∃ x:qd (flat cs),v=rv tup cs (dU _ x)/\DB _ k x L K h'
def ec (P:Program) (s:Sem Unit) (k:T):T:=fun L K h=>aQ P s h fun _ h'=>k L K h'
def next (P:Program) (s:Sem ZB) (cs:List fq) (k0:T) (k1:Fm (flat cs) T):T:=fun L K h =>
 aQ P s h fun v h'=>(v=.tuple #[.bool false]/\k0 L K h')\/∃ x:qd (flat cs),v=.tuple (.bool true::parts cs (dU _ x)).toArray/\DB _ k1 x L K h'
def loop (cs:List fq) (init:List ZB) (body:Fm (flat cs) T):T:=fun L K h =>
 ∃ I:qd (flat cs)->Nat->Hp->Prop,(∃ x n,init=parts cs (dU _ x)/\I x n h) /\
  ∀ x n h',I x n h'->DB _ body x (L++[fun vs h''=>∃ m,m<n/\∃ y,vs=parts cs (dU _ y)/\I y m h'']) K h'
def join (cs:List fq) (first:T) (after:Fm (flat cs) T):T:=fun L K h =>
 ∃ J:qd (flat cs)->Hp->Prop,first (L++[fun vs h'=>∃ y,vs=parts cs (dU _ y)/\J y h']) K h/\∀ y h',J y h'->DB _ after y L K h'
def again (lv:Nat) (vs:List ZB):T:=fun L _ h =>
 match L[lv]? with
 | some J=>J vs h
 | none=>False
def C1 (h:Hp):List (ZC × List ZB)->Prop
 | []=>True
 | p::l=>aG h p.1 0 p.2/\C1 h l
def bf (l:List (ZC × List ZB)) (t:T):T:=fun L K h=>C1 h l/\t L K h
def every (L:Lp) (K:ZB->Hp->Prop) (h:Hp):List T->Prop
 | []=>True
 | t::ts=>t L K h/\every L K h ts
def all (ts:List T):T:=fun L K h=>every L K h ts
end T
theorem an {A B : Prop} (b : B) (e : A = B := by dsimp only [flat,DB,SD,Go.Sx.nA,Go.Sx.cA]) : A := e ▸ b
end Go.Sx
