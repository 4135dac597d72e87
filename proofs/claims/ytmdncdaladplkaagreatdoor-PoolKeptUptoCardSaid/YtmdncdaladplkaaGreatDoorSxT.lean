/- Part of the framework. No condition. -/
import Derived.Test.YtmdncdaladplkaaGreatDoorSxS
set_option linter.all false
set_option maxHeartbeats 4000000
namespace Go.Sx
abbrev Lp:=List (List Xab->Hp->Prop)
def T:=Lp->(Xab->Hp->Prop)->Hp->Prop
def aH (h:Hp) (a:Xax):Nat->List Xab->Prop
 | _,[]=>True
 | i,v::b=>iB h (a.add i)=some v/\aH h a (i+1) b
def zQ (h:Hp) (a:Xax):Nat->List Xab->Prop
 | _,[]=>True
 | i,v::b=>df v=true/\(∃ u,iB h (a.add i)=some u)/\xt h (a.add i)=false/\zQ (ml h (a.add i) v) a (i+1) b
def tS (h:Hp) (a:Xax):Nat->List Xab->Hp
 | _,[]=>h
 | i,v::b=>tS (ml h (a.add i) v) a (i+1) b
namespace T
def ret (v:Xab):T:=λ_ K h=>K v h
def fail:T:=λ_ _ _=>False
def need (p:Prop) (t:T):T:=λL K h=>p/\t L K h
def ah (a:Xax) (b:List TypeDesc) (k:Av b T):T:=λL K h =>
 ∃ x:qu b,aH h a 0 (et b x)/\E4 b k x L K h
def aD (a:Xax) (vs:List Xab) (k:T):T:=λL K h =>
 zQ h a 0 vs/\k L K (tS h a 0 vs)
def new (cells:List Xab) (e:TypeId) (k:Xax->T):T:=λL K h=>k ⟨h.size,0,none⟩ L K (h.push (.cells cells.toArray e))
def call (P:Program) (f:FuncId) (args:List Xab) (a:Bool) (cs:List ez) (k:Av (flat cs) T):T:=λL K h =>
 HC P f args.toArray h λv h'=>∃ x:qu (flat cs),v=rv a cs (et _ x)/\E4 _ k x L K h'
def xk (P:Program) (g:Xab) (args:List Xab) (a:Bool) (cs:List ez) (k:Av (flat cs) T):T:=λL K h =>
 ∃ f first cap, g = .func (.func f) first cap /\ (call P f (first.toList ++ args ++ cap.toList) a cs k) L K h /\ ∃ fn, P.funcs[f]? = some fn /\ fn.body.isSome = true /\ fn.name ≠ "runtime.NumGoroutine"
def dP (P:Program) (s:Sem Xab) (a:Bool) (cs:List ez) (k:Av (flat cs) T):T:=λL K h =>
 aQ P s h λv h'=>∃ x:qu (flat cs),v=rv a cs (et _ x)/\E4 _ k x L K h'
def fI (P:Program) (s:Sem Unit) (k:T):T:=λL K h=>aQ P s h λ_ h'=>k L K h'
def next (P:Program) (s:Sem Xab) (cs:List ez) (a:T) (b:Av (flat cs) T):T:=λL K h =>
 aQ P s h λv h'=>(v=.tuple #[.bool false]/\a L K h')\/∃ x:qu (flat cs),v=.tuple (.bool true::parts cs (et _ x)).toArray/\E4 _ b x L K h'
def loop (cs:List ez) (a:List Xab) (b:Av (flat cs) T):T:=λL K h =>
 ∃ I:qu (flat cs)->Nat->Hp->Prop,(∃ x n,a=parts cs (et _ x)/\I x n h) /\
  ∀ x n h',I x n h'->E4 _ b x (L++[λc h''=>∃ m,m<n/\∃ y,c=parts cs (et _ y)/\I y m h'']) K h'
def join (cs:List ez) (first:T) (after:Av (flat cs) T):T:=λL K h =>
 ∃ J:qu (flat cs)->Hp->Prop,first (L++[λa h'=>∃ y,a=parts cs (et _ y)/\J y h']) K h/\∀ y h',J y h'->E4 _ after y L K h'
def again (a:Nat) (b:List Xab):T:=λL _ h =>
 match L[a]? with
 | some J=>J b h
 | none=>False
def Cv (h:Hp):List (Xax × List Xab)->Prop
 | []=>True
 | p::l=>aH h p.1 0 p.2/\Cv h l
def bG (l:List (Xax × List Xab)) (t:T):T:=λL K h=>Cv h l/\t L K h
def every (L:Lp) (K:Xab->Hp->Prop) (h:Hp):List T->Prop
 | []=>True
 | t::ts=>t L K h/\every L K h ts
def all (ts:List T):T:=λL K h=>every L K h ts
end T
def ak {A B : Prop} (b : B) (e : A = B := by dsimp only [flat,E4,XF,Go.Sx.nA,Go.Sx.cA]) : A := e ▸ b
end Go.Sx
