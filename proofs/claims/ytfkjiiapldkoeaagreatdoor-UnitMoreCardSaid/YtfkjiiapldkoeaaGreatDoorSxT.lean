/- A framework of our own, part T: trees: what a body of code asks for, step by step. No condition. -/
import Derived.Test.YtfkjiiapldkoeaaGreatDoorSxS
set_option linter.unusedVariables false
set_option linter.unusedSimpArgs false
set_option linter.deprecated false
namespace Go.Sx
abbrev Lp:=List (List Value→Hp→Prop)
def T:=Lp→(Value→Hp→Prop)→Hp→Prop
def aG (h:Hp) (a:Addr):Nat→List Value→Prop
 | _,[]=>True
 | i,v::vs=>eu h (a.add i)=some v∧aG h a (i+1) vs
def yV (h:Hp) (a:Addr):Nat→List Value→Prop
 | _,[]=>True
 | i,v::vs=>dW v=true∧(∃ u,eu h (a.add i)=some u)∧nM h (a.add i)=false∧yV (ij h (a.add i) v) a (i+1) vs
def uY (h:Hp) (a:Addr):Nat→List Value→Hp
 | _,[]=>h
 | i,v::vs=>uY (ij h (a.add i) v) a (i+1) vs
namespace T
def ret (v:Value):T:=fun _ K h=>K v h
def fail:T:=fun _ _ _=>False
def need (p:Prop) (t:T):T:=fun L K h=>p∧t L K h
def ae (a:Addr) (ds:List TypeDesc) (k:AO ds T):T:=fun L K h =>
 ∃ x:qB ds,aG h a 0 (fk ds x)∧aA ds k x L K h
def ap (a:Addr) (vs:List Value) (k:T):T:=fun L K h =>
 yV h a 0 vs∧k L K (uY h a 0 vs)
def new (cells:List Value) (e:TypeId) (k:Addr→T):T:=fun L K h=>k ⟨h.size,0,none⟩ L K (h.push (.cells cells.toArray e))
def call (P:Program) (f:FuncId) (args:List Value) (tup:Bool) (cs:List gw) (k:AO (flat cs) T):T:=fun L K h =>
 HC P f args.toArray h fun v h'=>∃ x:qB (flat cs),v=rv tup cs (fk _ x)∧aA _ k x L K h'
def qH (P:Program) (g:Value) (args:List Value) (tup:Bool) (cs:List gw) (k:AO (flat cs) T):T:=fun L K h =>
 ∃ f first cap, g = .func (.func f) first cap ∧ (call P f (first.toList ++ args ++ cap.toList) tup cs k) L K h ∧ ∃ fn, P.funcs[f]? = some fn ∧ fn.body.isSome = true ∧ fn.name ≠ "runtime.NumGoroutine"
def aV (P:Program) (s:Sem Value) (tup:Bool) (cs:List gw) (k:AO (flat cs) T):T:=fun L K h =>
 aE P s h fun v h'=>∃ x:qB (flat cs),v=rv tup cs (fk _ x)∧aA _ k x L K h'
def lI (P:Program) (s:Sem Unit) (k:T):T:=fun L K h=>aE P s h fun _ h'=>k L K h'
def next (P:Program) (s:Sem Value) (cs:List gw) (k0:T) (k1:AO (flat cs) T):T:=fun L K h =>
 aE P s h fun v h'=>(v=.tuple #[.bool false]∧k0 L K h')∨∃ x:qB (flat cs),v=.tuple (.bool true::parts cs (fk _ x)).toArray∧aA _ k1 x L K h'
def loop (cs:List gw) (init:List Value) (body:AO (flat cs) T):T:=fun L K h =>
 ∃ I:qB (flat cs)→Nat→Hp→Prop,(∃ x n,init=parts cs (fk _ x)∧I x n h) ∧
  ∀ x n h',I x n h'→aA _ body x (L++[fun vs h''=>∃ m,m<n∧∃ y,vs=parts cs (fk _ y)∧I y m h'']) K h'
def join (cs:List gw) (first:T) (after:AO (flat cs) T):T:=fun L K h =>
 ∃ J:qB (flat cs)→Hp→Prop,first (L++[fun vs h'=>∃ y,vs=parts cs (fk _ y)∧J y h']) K h∧∀ y h',J y h'→aA _ after y L K h'
def again (lv:Nat) (vs:List Value):T:=fun L _ h =>
 match L[lv]? with
 | some J=>J vs h
 | none=>False
def ER (h:Hp):List (Addr × List Value)→Prop
 | []=>True
 | p::l=>aG h p.1 0 p.2∧ER h l
def aO (l:List (Addr × List Value)) (t:T):T:=fun L K h=>ER h l∧t L K h
def every (L:Lp) (K:Value→Hp→Prop) (h:Hp):List T→Prop
 | []=>True
 | t::ts=>t L K h∧every L K h ts
def all (ts:List T):T:=fun L K h=>every L K h ts
end T
end Go.Sx
