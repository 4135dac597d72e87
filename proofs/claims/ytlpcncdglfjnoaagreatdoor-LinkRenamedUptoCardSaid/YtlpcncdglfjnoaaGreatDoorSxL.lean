/- Part of the framework. No condition. -/
import Derived.Test.YtlpcncdglfjnoaaGreatDoorSxF
import Derived.Lib.Bytealg
import Derived.Lib.IndexAny
set_option linter.all false
set_option maxHeartbeats 4000000
namespace Go.Sx
section rules
variable {P:Program} {L:Lp} {K:XB->Hp->Prop} {h:Hp}
def wA (P:Program) (f:FuncId) (args:List XB) (h:Hp) (v:XB):Prop:=HC P f args.toArray h fun v' h'=>v'=v/\h'=h
variable {H:FuncId} {I:Bool}
def aH {args:List XB} {cs:List ef} {k:C4 (flat cs) T} {R:XB->Hp->Prop} (hc:HC P H args.toArray h R)
  (hk:∀ v h',R v h'->∃ x,v=rv I cs (dS _ x)/\C5 _ k x L K h'):T.call P H args I cs k L K h:=hc.mono hk
def Cv {args:List XB} {cs:List ef} {k:C4 (flat cs) T} {v:XB} (hc:wA P H args h v) (x:qK (flat cs)) (a:v=rv I cs (dS _ x))
  (hk:C5 _ k x L K h):T.call P H args I cs k L K h:=aH hc fun v' h' ⟨h1,h2⟩=>⟨x,h1.trans a,by rw [h2]; exact hk⟩
variable {Y:IntKind} {Z:Int}
def lj {args:List XB} {k:Int->T} (hc:wA P H args h (.int Y Z)) (hk:k Z L K h):T.call P H args false [(false,[.int Y])] k L K h :=
 Cv hc (Z,()) rfl hk
variable {a:Bool->T}
def aF {args:List XB} {b:Bool} (hc:wA P H args h (.bool b)) (hk:a b L K h):T.call P H args false [(false,[.bool])] a L K h :=
 Cv hc (b,()) rfl hk
def vc {args:List XB} {s:XA} {k:XA->T} (hc:wA P H args h (.string s)) (hk:k s L K h):T.call P H args false [(false,[.string])] k L K h :=
 Cv hc (s,()) rfl hk
def Fo {args:List XB} {c:Bool} {k:Int->Bool->Bool->T} (hc:wA P H args h (.tuple #[.int Y Z,.bool I,.bool c])) (hk:k Z I c L K h) :
  T.call P H args true [(false,[.int Y]),(false,[.bool]),(false,[.bool])] k L K h:=Cv hc (Z,I,c,()) rfl hk
def gw {args:List XB} {R:Hp->Prop} (hc:HC P H args.toArray h fun v h'=>v=.bool I/\R h') (hk:∀ h',R h'->a I L K h'):T.call P H args false [(false,[.bool])] a L K h :=
 aH hc fun v h' ⟨h1,h2⟩=>⟨(I,()),h1,hk h' h2⟩
def uO {cap args all:List XB} {cs:List ef} {k:C4 (flat cs) T} {R:XB->Hp->Prop} (a:fv P H=true) (c:all=args++cap) (hc:HC P H all.toArray h R)
  (hk:∀ v h',R v h'->∃ x,v=rv I cs (dS _ x)/\C5 _ k x L K h'):T.uG P (.func (.func H) #[] cap.toArray) args I cs k L K h:=by
 subst c;refine ⟨H,#[],cap.toArray,rfl,by simpa using aH hc hk,?_⟩;unfold fv at a;cases b:P.funcs[H]? with
 | none=>rw [b] at a; cases a
 | some fn =>
  rw [b] at a;exact ⟨fn,rfl,by simp_all,by simp_all⟩
variable {O U:T}
def jl {p:Prop} (a:p) (b:O L K h):T.need p O L K h:=⟨a,b⟩
def an (a:I=true->O L K h) (c:I=false->U L K h):(cond I O U) L K h:=by
 cases I
 ·exact c rfl
 ·exact a rfl
def aQ {p:Prop} [Decidable p] (a:p->O L K h) (b:¬p->U L K h):cond (decide p) O U L K h:=an (fun q=>a (Vv q)) (fun q=>b (VI q))
def cy (a:I=true) (c:O L K h):(cond I O U) L K h:=by subst a; exact c
def bX (a:I=false) (c:U L K h):(cond I O U) L K h:=by subst a; exact c
def Jl {cs:List ef} (I:qK (flat cs)->Nat->Hp->Prop) (n:Nat):List XB->Hp->Prop:=fun b a=>∃ m,m<n/\∃ y,b=parts cs (dS _ y)/\I y m a
def aY {cs:List ef} {a:List XB} {b:C4 (flat cs) T} (I:qK (flat cs)->Nat->Hp->Prop) (c:qK (flat cs)) (d:Nat) (e:a=parts cs (dS _ c)) (h0:I c d h)
  (f:∀ x n h',I x n h'->C5 _ b x (L++[Jl I n]) K h'):T.loop cs a b L K h:=⟨I,⟨c,d,e,h0⟩,f⟩
def aD {a:Nat} {b:List XB} {cs:List ef} {I:qK (flat cs)->Nat->Hp->Prop} {n:Nat} (y:qK (flat cs)) (m:Nat) (c:L[a]?=some (Jl I n)) (d:m<n) (e:b=parts cs (dS _ y)) (f:I y m h) :
  T.again a b L K h:=by
 unfold T.again;rw [c];exact ⟨m,d,y,e,f⟩
variable {V:YA}
def aC {b:List TypeDesc} {k:C4 b T} (x:qK b) (hc:aE h V 0 (dS _ x)) (hk:C5 _ k x L K h):T.ae V b k L K h:=⟨x,hc,hk⟩
variable {b:XC} {c:YA->T}
def bk (d:b=some V) (hk:c V L K h):T.bd b c L K h:=by subst d; exact hk
def fJ {p q:Prop} (a:O L K h) (b:p:=by first | omega) (c:q:=by first | omega):T.need (p/\q) O L K h:=⟨⟨b,c⟩,a⟩
def cC {r q:Prop} (d:b=some V) (hk:c V L K h) (h1:r:=by first | omega) (h2:q:=by first | omega):T.need (r/\q) (T.bd b c) L K h:=⟨⟨h1,h2⟩,bk d hk⟩
def cX (n:Nat):Int.toNat (n:Int)=n:=rfl
abbrev cU:List ef:=[(false,[.int .i64])]
abbrev fK:List ef:=[(false,[.bool]),(false,[.int .i64])]
abbrev jc:List ef:=[(false,[.int .i64]),(false,[.int .i64])]
abbrev wG:List ef:=[(false,[.slice 0]),(false,[.int .i64])]
abbrev Ay:List ef:=[(false,[.bool])]
abbrev N6:List ef:=[(false,[.bool]),(false,[.int .i64]),(false,[.int .i64])]
abbrev RZ:List ef:=[(false,[.int .u32]),(false,[.int .i64])]
abbrev Tv:List ef:=[(false,[.string]),(false,[.bool]),(false,[.slice 0]),(false,[.int .i64])]
abbrev SO:List ef:=[(false,[.slice 0]),(false,[.string]),(false,[.bool]),(false,[.int .i64])]
abbrev S4:List ef:=[(false,[.bool]),(false,[.slice 0]),(false,[.int .i64])]
def eC {fn:Func} {a:List Nat} {args:List XB} {v:XB} (b:P.follows .mixedOrders=true) (c:P.funcs[H]?=some fn) (hl:Nat.ble args.length fn.ntmps=true)
  (d:bQ P a fn args=O) (e:O [] (fun v' h'=>v'=v/\h'=h) h):wA P H args h v:=Qh b c hl (by rw [d]; exact e)
def EA {fn : Func} {e : Array XB -> Sem XB} {args : Array XB} (a : P.funcs[H]? = some fn) (hn : (fn.name == "runtime.NumGoroutine") = false) (b : fn.body.isNone = true)
  (h1:Extern.findNext fn=none) (h2:Extern.find fn=some e) (hk:aI P (e args) h K):aI P (GM H args) h K:=by
 unfold GM;rw [al];unfold callFunc;rw [eY,a];simp only [hn,b,h1,h2,Bool.false_eq_true,if_false,if_true];show aI P (do let v <- e args; pure (Next.value v)) h _;rw [al];exact hk
def qa (s:XA) (c:Int):aI P (Extern.BytealgIndexByte.indexByte #[.string s,.int .u8 c]) h K=K (.int .i64 (Lib.indexByte s.data.toList c.toNat.toUInt8)) h:=by
 rw [<- Lib.firstIdx_eq];unfold Extern.BytealgIndexByte.indexByte firstIdx;show aI P (match (List.range s.size).find? (fun i=>s[i]! == c.toNat.toUInt8) with | some i=>pure (goInt i) | none=>pure (goInt (-1))) h K=_
 all_goals (cases (List.range s.size).find? (fun i=>s[i]! == c.toNat.toUInt8) <;> rfl)
end rules
def wrap_i64 {x:Int} (h1:-9223372036854775808<=x) (h2:x<=9223372036854775807):IntKind.wrap .i64 x=x:=by
 simp only [IntKind.wrap,IntKind.bits,IntKind.signed,Bool.true_and];split <;> rename_i a
 ·have:=Vv a; omega
 ·have:¬ _:=fun h=>a (Vw h); omega
def lC (n:Nat) (h:(n:Int)+1<=9223372036854775807:=by first | omega):IntKind.wrap .i64 ((n:Int)+1)=((n+1:Nat):Int):=by
 rw [wrap_i64 ad ad]; omega
end Go.Sx
