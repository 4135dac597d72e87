/- Part of the framework. No condition. -/
import Derived.Test.YtlpcncdglfjnoaaGreatDoorSxS
set_option linter.all false
set_option maxHeartbeats 4000000
namespace Go.Sx
abbrev Lp:=List (List Xab->Hp->Prop)
def T:=Lp->(Xab->Hp->Prop)->Hp->Prop
def aI (h:Hp) (a:Xax):Nat->List Xab->Prop
 | _,[]=>True
 | i,v::b=>jj h (a.add i)=some v/\aI h a (i+1) b
def zB (h:Hp) (a:Xax):Nat->List Xab->Prop
 | _,[]=>True
 | i,v::b=>da v=true/\(∃ u,jj h (a.add i)=some u)/\xe h (a.add i)=false/\zB (lI h (a.add i) v) a (i+1) b
def tK (h:Hp) (a:Xax):Nat->List Xab->Hp
 | _,[]=>h
 | i,v::b=>tK (lI h (a.add i) v) a (i+1) b
namespace T
def ret (v:Xab):T:=fun _ K h=>K v h
def fail:T:=fun _ _ _=>False
def need (p:Prop) (t:T):T:=fun L K h=>p/\t L K h
def af (a:Xax) (b:List TypeDesc) (k:Fc b T):T:=fun L K h =>
 ∃ x:qX b,aI h a 0 (eA b x)/\Fe b k x L K h
def ar (a:Xax) (vs:List Xab) (k:T):T:=fun L K h =>
 zB h a 0 vs/\k L K (tK h a 0 vs)
def new (cells:List Xab) (e:TypeId) (k:Xax->T):T:=fun L K h=>k ⟨h.size,0,none⟩ L K (h.push (.cells cells.toArray e))
def call (P:Program) (f:FuncId) (args:List Xab) (a:Bool) (cs:List ey) (k:Fc (flat cs) T):T:=fun L K h =>
 HC P f args.toArray h fun v h'=>∃ x:qX (flat cs),v=rv a cs (eA _ x)/\Fe _ k x L K h'
def sU (P:Program) (g:Xab) (args:List Xab) (a:Bool) (cs:List ey) (k:Fc (flat cs) T):T:=fun L K h =>
 ∃ f first cap, g = .func (.func f) first cap /\ (call P f (first.toList ++ args ++ cap.toList) a cs k) L K h /\ ∃ fn, P.funcs[f]? = some fn /\ fn.body.isSome = true /\ fn.name ≠ "runtime.NumGoroutine"
def eN (P:Program) (s:Sem Xab) (a:Bool) (cs:List ey) (k:Fc (flat cs) T):T:=fun L K h =>
 aZ P s h fun v h'=>∃ x:qX (flat cs),v=rv a cs (eA _ x)/\Fe _ k x L K h'
def eV (P:Program) (s:Sem Unit) (k:T):T:=fun L K h=>aZ P s h fun _ h'=>k L K h'
def next (P:Program) (s:Sem Xab) (cs:List ey) (a:T) (b:Fc (flat cs) T):T:=fun L K h =>
 aZ P s h fun v h'=>(v=.tuple #[.bool false]/\a L K h')\/∃ x:qX (flat cs),v=.tuple (.bool true::parts cs (eA _ x)).toArray/\Fe _ b x L K h'
def loop (cs:List ey) (a:List Xab) (b:Fc (flat cs) T):T:=fun L K h =>
 ∃ I:qX (flat cs)->Nat->Hp->Prop,(∃ x n,a=parts cs (eA _ x)/\I x n h) /\
  ∀ x n h',I x n h'->Fe _ b x (L++[fun c h''=>∃ m,m<n/\∃ y,c=parts cs (eA _ y)/\I y m h'']) K h'
def join (cs:List ey) (first:T) (after:Fc (flat cs) T):T:=fun L K h =>
 ∃ J:qX (flat cs)->Hp->Prop,first (L++[fun a h'=>∃ y,a=parts cs (eA _ y)/\J y h']) K h/\∀ y h',J y h'->Fe _ after y L K h'
def again (a:Nat) (b:List Xab):T:=fun L _ h =>
 match L[a]? with
 | some J=>J b h
 | none=>False
def BO (h:Hp):List (Xax × List Xab)->Prop
 | []=>True
 | p::l=>aI h p.1 0 p.2/\BO h l
def aD (l:List (Xax × List Xab)) (t:T):T:=fun L K h=>BO h l/\t L K h
def every (L:Lp) (K:Xab->Hp->Prop) (h:Hp):List T->Prop
 | []=>True
 | t::ts=>t L K h/\every L K h ts
def all (ts:List T):T:=fun L K h=>every L K h ts
end T
def ak {A B : Prop} (b : B) (e : A = B := by dsimp only [flat,Fe,U3,Go.Sx.nA,Go.Sx.cA]) : A := e ▸ b
end Go.Sx
