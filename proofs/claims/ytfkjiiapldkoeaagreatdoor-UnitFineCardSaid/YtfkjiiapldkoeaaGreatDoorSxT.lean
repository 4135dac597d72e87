/- A framework of our own, part T: trees: what a body of code asks for, step by step. No condition. -/
import Derived.Test.YtfkjiiapldkoeaaGreatDoorSxS
set_option linter.unusedVariables false
set_option linter.unusedSimpArgs false
set_option linter.deprecated false
namespace Go.Sx
abbrev Lp:=List (List Value→Hp→Prop)
def T:=Lp→(Value→Hp→Prop)→Hp→Prop
def aH (h:Hp) (a:Addr):Nat→List Value→Prop
 | _,[]=>True
 | i,v::vs=>ew h (a.add i)=some v∧aH h a (i+1) vs
def AB (h:Hp) (a:Addr):Nat→List Value→Prop
 | _,[]=>True
 | i,v::vs=>dY v=true∧(∃ u,ew h (a.add i)=some u)∧nX h (a.add i)=false∧AB (iI h (a.add i) v) a (i+1) vs
def vZ (h:Hp) (a:Addr):Nat→List Value→Hp
 | _,[]=>h
 | i,v::vs=>vZ (iI h (a.add i) v) a (i+1) vs
namespace T
def ret (v:Value):T:=fun _ K h=>K v h
def fail:T:=fun _ _ _=>False
def need (p:Prop) (t:T):T:=fun L K h=>p∧t L K h
def ae (a:Addr) (ds:List TypeDesc) (k:zJ ds T):T:=fun L K h =>
 ∃ x:rQ ds,aH h a 0 (fw ds x)∧aB ds k x L K h
def ap (a:Addr) (vs:List Value) (k:T):T:=fun L K h =>
 AB h a 0 vs∧k L K (vZ h a 0 vs)
def new (cells:List Value) (e:TypeId) (k:Addr→T):T:=fun L K h=>k ⟨h.size,0,none⟩ L K (h.push (.cells cells.toArray e))
def call (P:Program) (f:FuncId) (args:List Value) (tup:Bool) (cs:List gH) (k:zJ (flat cs) T):T:=fun L K h =>
 HC P f args.toArray h fun v h'=>∃ x:rQ (flat cs),v=rv tup cs (fw _ x)∧aB _ k x L K h'
def qJ (P:Program) (g:Value) (args:List Value) (tup:Bool) (cs:List gH) (k:zJ (flat cs) T):T:=fun L K h =>
 ∃ f first cap, g = .func (.func f) first cap ∧ (call P f (first.toList ++ args ++ cap.toList) tup cs k) L K h ∧ ∃ fn, P.funcs[f]? = some fn ∧ fn.body.isSome = true ∧ fn.name ≠ "runtime.NumGoroutine"
def aY (P:Program) (s:Sem Value) (tup:Bool) (cs:List gH) (k:zJ (flat cs) T):T:=fun L K h =>
 aD P s h fun v h'=>∃ x:rQ (flat cs),v=rv tup cs (fw _ x)∧aB _ k x L K h'
def mC (P:Program) (s:Sem Unit) (k:T):T:=fun L K h=>aD P s h fun _ h'=>k L K h'
def next (P:Program) (s:Sem Value) (cs:List gH) (k0:T) (k1:zJ (flat cs) T):T:=fun L K h =>
 aD P s h fun v h'=>(v=.tuple #[.bool false]∧k0 L K h')∨∃ x:rQ (flat cs),v=.tuple (.bool true::parts cs (fw _ x)).toArray∧aB _ k1 x L K h'
def loop (cs:List gH) (init:List Value) (body:zJ (flat cs) T):T:=fun L K h =>
 ∃ I:rQ (flat cs)→Nat→Hp→Prop,(∃ x n,init=parts cs (fw _ x)∧I x n h) ∧
  ∀ x n h',I x n h'→aB _ body x (L++[fun vs h''=>∃ m,m<n∧∃ y,vs=parts cs (fw _ y)∧I y m h'']) K h'
def join (cs:List gH) (first:T) (after:zJ (flat cs) T):T:=fun L K h =>
 ∃ J:rQ (flat cs)→Hp→Prop,first (L++[fun vs h'=>∃ y,vs=parts cs (fw _ y)∧J y h']) K h∧∀ y h',J y h'→aB _ after y L K h'
def again (lv:Nat) (vs:List Value):T:=fun L _ h =>
 match L[lv]? with
 | some J=>J vs h
 | none=>False
def FX (h:Hp):List (Addr × List Value)→Prop
 | []=>True
 | p::l=>aH h p.1 0 p.2∧FX h l
def aR (l:List (Addr × List Value)) (t:T):T:=fun L K h=>FX h l∧t L K h
def every (L:Lp) (K:Value→Hp→Prop) (h:Hp):List T→Prop
 | []=>True
 | t::ts=>t L K h∧every L K h ts
def all (ts:List T):T:=fun L K h=>every L K h ts
end T
end Go.Sx
