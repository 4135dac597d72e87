/- Part of the framework. No condition. -/
import Derived.Test.YthbffkdafjboiaaGreatDoorSxS
set_option linter.all false
set_option maxHeartbeats 4000000
namespace Go.Sx
abbrev Lp:=List (List Xab->Hp->Prop)
def T:=Lp->(Xab->Hp->Prop)->Hp->Prop
def aJ (h:Hp) (a:Xax):Nat->List Xab->Prop
 | _,[]=>True
 | i,v::vs=>iD h (a.add i)=some v/\aJ h a (i+1) vs
def yq (h:Hp) (a:Xax):Nat->List Xab->Prop
 | _,[]=>True
 | i,v::vs=>cU v=true/\(∃ u,iD h (a.add i)=some u)/\vN h (a.add i)=false/\yq (la h (a.add i) v) a (i+1) vs
def r5 (h:Hp) (a:Xax):Nat->List Xab->Hp
 | _,[]=>h
 | i,v::vs=>r5 (la h (a.add i) v) a (i+1) vs
namespace T
def ret (v:Xab):T:=fun _ K h=>K v h
def fail:T:=fun _ _ _=>False
def need (p:Prop) (t:T):T:=fun L K h=>p/\t L K h
def ah (a:Xax) (ds:List TypeDesc) (k:Eo ds T):T:=fun L K h =>
 ∃ x:qK ds,aJ h a 0 (ec ds x)/\EQ ds k x L K h
def aC (a:Xax) (vs:List Xab) (k:T):T:=fun L K h =>
 yq h a 0 vs/\k L K (r5 h a 0 vs)
def new (cells:List Xab) (e:TypeId) (k:Xax->T):T:=fun L K h=>k ⟨h.size,0,none⟩ L K (h.push (.cells cells.toArray e))
def call (P:Program) (f:FuncId) (args:List Xab) (d:Bool) (cs:List fI) (k:Eo (flat cs) T):T:=fun L K h =>
 HC P f args.toArray h fun v h'=>∃ x:qK (flat cs),v=rv d cs (ec _ x)/\EQ _ k x L K h'
def tH (P:Program) (g:Xab) (args:List Xab) (d:Bool) (cs:List fI) (k:Eo (flat cs) T):T:=fun L K h =>
 ∃ f first cap, g = .func (.func f) first cap /\ (call P f (first.toList ++ args ++ cap.toList) d cs k) L K h /\ ∃ fn, P.funcs[f]? = some fn /\ fn.body.isSome = true /\ fn.name ≠ "runtime.NumGoroutine"
def ek (P:Program) (s:Sem Xab) (d:Bool) (cs:List fI) (k:Eo (flat cs) T):T:=fun L K h =>
 aU P s h fun v h'=>∃ x:qK (flat cs),v=rv d cs (ec _ x)/\EQ _ k x L K h'
def ey (P:Program) (s:Sem Unit) (k:T):T:=fun L K h=>aU P s h fun _ h'=>k L K h'
def next (P:Program) (s:Sem Xab) (cs:List fI) (d:T) (j:Eo (flat cs) T):T:=fun L K h =>
 aU P s h fun v h'=>(v=.tuple #[.bool false]/\d L K h')\/∃ x:qK (flat cs),v=.tuple (.bool true::parts cs (ec _ x)).toArray/\EQ _ j x L K h'
def loop (cs:List fI) (d:List Xab) (j:Eo (flat cs) T):T:=fun L K h =>
 ∃ I:qK (flat cs)->Nat->Hp->Prop,(∃ x n,d=parts cs (ec _ x)/\I x n h) /\
  ∀ x n h',I x n h'->EQ _ j x (L++[fun vs h''=>∃ m,m<n/\∃ y,vs=parts cs (ec _ y)/\I y m h'']) K h'
def join (cs:List fI) (first:T) (after:Eo (flat cs) T):T:=fun L K h =>
 ∃ J:qK (flat cs)->Hp->Prop,first (L++[fun vs h'=>∃ y,vs=parts cs (ec _ y)/\J y h']) K h/\∀ y h',J y h'->EQ _ after y L K h'
def again (lv:Nat) (vs:List Xab):T:=fun L _ h =>
 match L[lv]? with
 | some J=>J vs h
 | none=>False
def BC (h:Hp):List (Xax × List Xab)->Prop
 | []=>True
 | p::l=>aJ h p.1 0 p.2/\BC h l
def bj (l:List (Xax × List Xab)) (t:T):T:=fun L K h=>BC h l/\t L K h
def every (L:Lp) (K:Xab->Hp->Prop) (h:Hp):List T->Prop
 | []=>True
 | t::ts=>t L K h/\every L K h ts
def all (ts:List T):T:=fun L K h=>every L K h ts
end T
def ak {A B : Prop} (b : B) (e : A = B := by dsimp only [flat,EQ,Uv,Go.Sx.nA,Go.Sx.cA]) : A := e ▸ b
end Go.Sx
