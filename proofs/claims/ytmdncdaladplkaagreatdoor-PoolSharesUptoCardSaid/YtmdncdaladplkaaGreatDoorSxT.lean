/- Part of the framework. No condition. -/
import Derived.Test.YtmdncdaladplkaaGreatDoorSxS
set_option linter.all false
set_option maxHeartbeats 4000000
namespace Go.Sx
abbrev Lp:=List (List Xab->Hp->Prop)
def T:=Lp->(Xab->Hp->Prop)->Hp->Prop
def aH (h:Hp) (a:Xax):Nat->List Xab->Prop
 | _,[]=>True
 | i,v::b=>ig h (a.add i)=some v/\aH h a (i+1) b
def zB (h:Hp) (a:Xax):Nat->List Xab->Prop
 | _,[]=>True
 | i,v::b=>dr v=true/\(∃ u,ig h (a.add i)=some u)/\wN h (a.add i)=false/\zB (lG h (a.add i) v) a (i+1) b
def tg (h:Hp) (a:Xax):Nat->List Xab->Hp
 | _,[]=>h
 | i,v::b=>tg (lG h (a.add i) v) a (i+1) b
namespace T
def ret (v:Xab):T:=fun _ K h=>K v h
def fail:T:=fun _ _ _=>False
def need (p:Prop) (t:T):T:=fun L K h=>p/\t L K h
def af (a:Xax) (b:List TypeDesc) (k:FI b T):T:=fun L K h =>
 ∃ x:qF b,aH h a 0 (et b x)/\EC b k x L K h
def aD (a:Xax) (vs:List Xab) (k:T):T:=fun L K h =>
 zB h a 0 vs/\k L K (tg h a 0 vs)
def new (cells:List Xab) (e:TypeId) (k:Xax->T):T:=fun L K h=>k ⟨h.size,0,none⟩ L K (h.push (.cells cells.toArray e))
def call (P:Program) (f:FuncId) (args:List Xab) (a:Bool) (cs:List ep) (k:FI (flat cs) T):T:=fun L K h =>
 HC P f args.toArray h fun v h'=>∃ x:qF (flat cs),v=rv a cs (et _ x)/\EC _ k x L K h'
def wI (P:Program) (g:Xab) (args:List Xab) (a:Bool) (cs:List ep) (k:FI (flat cs) T):T:=fun L K h =>
 ∃ f first cap, g = .func (.func f) first cap /\ (call P f (first.toList ++ args ++ cap.toList) a cs k) L K h /\ ∃ fn, P.funcs[f]? = some fn /\ fn.body.isSome = true /\ fn.name ≠ "runtime.NumGoroutine"
def eH (P:Program) (s:Sem Xab) (a:Bool) (cs:List ep) (k:FI (flat cs) T):T:=fun L K h =>
 aS P s h fun v h'=>∃ x:qF (flat cs),v=rv a cs (et _ x)/\EC _ k x L K h'
def dX (P:Program) (s:Sem Unit) (k:T):T:=fun L K h=>aS P s h fun _ h'=>k L K h'
def next (P:Program) (s:Sem Xab) (cs:List ep) (a:T) (b:FI (flat cs) T):T:=fun L K h =>
 aS P s h fun v h'=>(v=.tuple #[.bool false]/\a L K h')\/∃ x:qF (flat cs),v=.tuple (.bool true::parts cs (et _ x)).toArray/\EC _ b x L K h'
def loop (cs:List ep) (a:List Xab) (b:FI (flat cs) T):T:=fun L K h =>
 ∃ I:qF (flat cs)->Nat->Hp->Prop,(∃ x n,a=parts cs (et _ x)/\I x n h) /\
  ∀ x n h',I x n h'->EC _ b x (L++[fun c h''=>∃ m,m<n/\∃ y,c=parts cs (et _ y)/\I y m h'']) K h'
def join (cs:List ep) (first:T) (after:FI (flat cs) T):T:=fun L K h =>
 ∃ J:qF (flat cs)->Hp->Prop,first (L++[fun a h'=>∃ y,a=parts cs (et _ y)/\J y h']) K h/\∀ y h',J y h'->EC _ after y L K h'
def again (a:Nat) (b:List Xab):T:=fun L _ h =>
 match L[a]? with
 | some J=>J b h
 | none=>False
def B7 (h:Hp):List (Xax × List Xab)->Prop
 | []=>True
 | p::l=>aH h p.1 0 p.2/\B7 h l
def bi (l:List (Xax × List Xab)) (t:T):T:=fun L K h=>B7 h l/\t L K h
def every (L:Lp) (K:Xab->Hp->Prop) (h:Hp):List T->Prop
 | []=>True
 | t::ts=>t L K h/\every L K h ts
def all (ts:List T):T:=fun L K h=>every L K h ts
end T
def ao {A B : Prop} (b : B) (e : A = B := by dsimp only [flat,EC,WS,Go.Sx.nA,Go.Sx.cA]) : A := e ▸ b
end Go.Sx
