/- Part of the framework. No condition. -/
import Derived.Test.YtmdncdaladplkaaGreatDoorSxS
set_option linter.all false
set_option maxHeartbeats 4000000
namespace Go.Sx
abbrev Lp:=List (List Xab->Hp->Prop)
def T:=Lp->(Xab->Hp->Prop)->Hp->Prop
def aF (h:Hp) (a:Xax):Nat->List Xab->Prop
 | _,[]=>True
 | i,v::b=>gS h (a.add i)=some v/\aF h a (i+1) b
def zg (h:Hp) (a:Xax):Nat->List Xab->Prop
 | _,[]=>True
 | i,v::b=>dl v=true/\(∃ u,gS h (a.add i)=some u)/\wH h (a.add i)=false/\zg (lJ h (a.add i) v) a (i+1) b
def sY (h:Hp) (a:Xax):Nat->List Xab->Hp
 | _,[]=>h
 | i,v::b=>sY (lJ h (a.add i) v) a (i+1) b
namespace T
def ret (v:Xab):T:=fun _ K h=>K v h
def fail:T:=fun _ _ _=>False
def need (p:Prop) (t:T):T:=fun L K h=>p/\t L K h
def af (a:Xax) (b:List TypeDesc) (k:FB b T):T:=fun L K h =>
 ∃ x:qH b,aF h a 0 (ep b x)/\Er b k x L K h
def ax (a:Xax) (vs:List Xab) (k:T):T:=fun L K h =>
 zg h a 0 vs/\k L K (sY h a 0 vs)
def new (cells:List Xab) (e:TypeId) (k:Xax->T):T:=fun L K h=>k ⟨h.size,0,none⟩ L K (h.push (.cells cells.toArray e))
def call (P:Program) (f:FuncId) (args:List Xab) (a:Bool) (cs:List ee) (k:FB (flat cs) T):T:=fun L K h =>
 HC P f args.toArray h fun v h'=>∃ x:qH (flat cs),v=rv a cs (ep _ x)/\Er _ k x L K h'
def wB (P:Program) (g:Xab) (args:List Xab) (a:Bool) (cs:List ee) (k:FB (flat cs) T):T:=fun L K h =>
 ∃ f first cap, g = .func (.func f) first cap /\ (call P f (first.toList ++ args ++ cap.toList) a cs k) L K h /\ ∃ fn, P.funcs[f]? = some fn /\ fn.body.isSome = true /\ fn.name ≠ "runtime.NumGoroutine"
def ef (P:Program) (s:Sem Xab) (a:Bool) (cs:List ee) (k:FB (flat cs) T):T:=fun L K h =>
 aP P s h fun v h'=>∃ x:qH (flat cs),v=rv a cs (ep _ x)/\Er _ k x L K h'
def dZ (P:Program) (s:Sem Unit) (k:T):T:=fun L K h=>aP P s h fun _ h'=>k L K h'
def next (P:Program) (s:Sem Xab) (cs:List ee) (a:T) (b:FB (flat cs) T):T:=fun L K h =>
 aP P s h fun v h'=>(v=.tuple #[.bool false]/\a L K h')\/∃ x:qH (flat cs),v=.tuple (.bool true::parts cs (ep _ x)).toArray/\Er _ b x L K h'
def loop (cs:List ee) (a:List Xab) (b:FB (flat cs) T):T:=fun L K h =>
 ∃ I:qH (flat cs)->Nat->Hp->Prop,(∃ x n,a=parts cs (ep _ x)/\I x n h) /\
  ∀ x n h',I x n h'->Er _ b x (L++[fun c h''=>∃ m,m<n/\∃ y,c=parts cs (ep _ y)/\I y m h'']) K h'
def join (cs:List ee) (first:T) (after:FB (flat cs) T):T:=fun L K h =>
 ∃ J:qH (flat cs)->Hp->Prop,first (L++[fun a h'=>∃ y,a=parts cs (ep _ y)/\J y h']) K h/\∀ y h',J y h'->Er _ after y L K h'
def again (a:Nat) (b:List Xab):T:=fun L _ h =>
 match L[a]? with
 | some J=>J b h
 | none=>False
def BY (h:Hp):List (Xax × List Xab)->Prop
 | []=>True
 | p::l=>aF h p.1 0 p.2/\BY h l
def bh (l:List (Xax × List Xab)) (t:T):T:=fun L K h=>BY h l/\t L K h
def every (L:Lp) (K:Xab->Hp->Prop) (h:Hp):List T->Prop
 | []=>True
 | t::ts=>t L K h/\every L K h ts
def all (ts:List T):T:=fun L K h=>every L K h ts
end T
def ak {A B : Prop} (b : B) (e : A = B := by dsimp only [flat,Er,WB,Go.Sx.nA,Go.Sx.cA]) : A := e ▸ b
end Go.Sx
