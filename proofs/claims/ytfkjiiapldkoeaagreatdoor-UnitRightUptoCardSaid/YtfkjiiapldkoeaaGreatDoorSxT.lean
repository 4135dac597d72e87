/- A framework of our own, part T: trees: what a body of code asks for, step by step. No condition. -/
import Derived.Test.YtfkjiiapldkoeaaGreatDoorSxS
set_option linter.unusedVariables false
set_option linter.unusedSimpArgs false
set_option linter.deprecated false
namespace Go.Sx
abbrev Lp:=List (List Value→Hp→Prop)
def T:=Lp→(Value→Hp→Prop)→Hp→Prop
def aG (h:Hp) (a:Addr):Nat→List Value→Prop
 | _,[]=>True
 | i,v::vs=>dN h (a.add i)=some v∧aG h a (i+1) vs
def Aa (h:Hp) (a:Addr):Nat→List Value→Prop
 | _,[]=>True
 | i,v::vs=>ei v=true∧(∃ u,dN h (a.add i)=some u)∧sv h (a.add i)=false∧Aa (jG h (a.add i) v) a (i+1) vs
def vZ (h:Hp) (a:Addr):Nat→List Value→Hp
 | _,[]=>h
 | i,v::vs=>vZ (jG h (a.add i) v) a (i+1) vs
namespace T
def ret (v:Value):T:=fun _ K h=>K v h
def fail:T:=fun _ _ _=>False
def aJ (p:Prop) (t:T):T:=fun L K h=>p∧t L K h
def ae (a:Addr) (ds:List TypeDesc) (k:BK ds T):T:=fun L K h =>
 ∃ x:qh ds,aG h a 0 (fp ds x)∧az ds k x L K h
def ap (a:Addr) (vs:List Value) (k:T):T:=fun L K h =>
 Aa h a 0 vs∧k L K (vZ h a 0 vs)
def new (cells:List Value) (e:TypeId) (k:Addr→T):T:=fun L K h=>k ⟨h.size,0,none⟩ L K (h.push (.cells cells.toArray e))
def call (P:Program) (f:FuncId) (args:List Value) (tup:Bool) (cs:List gJ) (k:BK (flat cs) T):T:=fun L K h =>
 HC P f args.toArray h fun v h'=>∃ x:qh (flat cs),v=rv tup cs (fp _ x)∧az _ k x L K h'
def rW (P:Program) (g:Value) (args:List Value) (tup:Bool) (cs:List gJ) (k:BK (flat cs) T):T:=fun L K h =>
 ∃ f first cap, g = .func (.func f) first cap ∧ (call P f (first.toList ++ args ++ cap.toList) tup cs k) L K h ∧ ∃ fn, P.funcs[f]? = some fn ∧ fn.body.isSome = true ∧ fn.name ≠ "runtime.NumGoroutine"
def bj (P:Program) (s:Sem Value) (tup:Bool) (cs:List gJ) (k:BK (flat cs) T):T:=fun L K h =>
 aH P s h fun v h'=>∃ x:qh (flat cs),v=rv tup cs (fp _ x)∧az _ k x L K h'
def mQ (P:Program) (s:Sem Unit) (k:T):T:=fun L K h=>aH P s h fun _ h'=>k L K h'
def next (P:Program) (s:Sem Value) (cs:List gJ) (k0:T) (k1:BK (flat cs) T):T:=fun L K h =>
 aH P s h fun v h'=>(v=.tuple #[.bool false]∧k0 L K h')∨∃ x:qh (flat cs),v=.tuple (.bool true::parts cs (fp _ x)).toArray∧az _ k1 x L K h'
def loop (cs:List gJ) (init:List Value) (body:BK (flat cs) T):T:=fun L K h =>
 ∃ I:qh (flat cs)→Nat→Hp→Prop,(∃ x n,init=parts cs (fp _ x)∧I x n h) ∧
  ∀ x n h',I x n h'→az _ body x (L++[fun vs h''=>∃ m,m<n∧∃ y,vs=parts cs (fp _ y)∧I y m h'']) K h'
def join (cs:List gJ) (first:T) (after:BK (flat cs) T):T:=fun L K h =>
 ∃ J:qh (flat cs)→Hp→Prop,first (L++[fun vs h'=>∃ y,vs=parts cs (fp _ y)∧J y h']) K h∧∀ y h',J y h'→az _ after y L K h'
def again (lv:Nat) (vs:List Value):T:=fun L _ h =>
 match L[lv]? with
 | some J=>J vs h
 | none=>False
def FO (h:Hp):List (Addr × List Value)→Prop
 | []=>True
 | p::l=>aG h p.1 0 p.2∧FO h l
def aM (l:List (Addr × List Value)) (t:T):T:=fun L K h=>FO h l∧t L K h
def every (L:Lp) (K:Value→Hp→Prop) (h:Hp):List T→Prop
 | []=>True
 | t::ts=>t L K h∧every L K h ts
def all (ts:List T):T:=fun L K h=>every L K h ts
end T
end Go.Sx
