/- Part of the framework. No condition. -/
import Derived.Test.YtmdncdaladplkaaGreatDoorSxF
import Derived.Lib.Bytealg
import Derived.Lib.IndexAny
set_option linter.all false
set_option maxHeartbeats 4000000
namespace Go.Sx
section rules
variable {P:Program} {L:Lp} {K:Xab->Hp->Prop} {h:Hp}
def uo (P:Program) (f:FuncId) (args:List Xab) (h:Hp) (v:Xab):Prop:=HC P f args.toArray h fun v' h'=>v'=v/\h'=h
variable {H:FuncId} {O:Bool}
def aE {args:List Xab} {cs:List ee} {k:FB (flat cs) T} {R:Xab->Hp->Prop} (hc:HC P H args.toArray h R)
  (hk:∀ v h',R v h'->∃ x,v=rv O cs (ep _ x)/\Er _ k x L K h'):T.call P H args O cs k L K h:=hc.mono hk
def EL {args:List Xab} {cs:List ee} {k:FB (flat cs) T} {v:Xab} (hc:uo P H args h v) (x:qH (flat cs)) (a:v=rv O cs (ep _ x))
  (hk:Er _ k x L K h):T.call P H args O cs k L K h:=aE hc fun v' h' ⟨h1,h2⟩=>⟨x,h1.trans a,by rw [h2]; exact hk⟩
variable {Z:IntKind} {a:Int}
def je {args:List Xab} {k:Int->T} (hc:uo P H args h (.int Z a)) (hk:k a L K h):T.call P H args false [(false,[.int Z])] k L K h :=
 EL hc (a,()) rfl hk
def aJ {f:FuncId} {args:List Xab} {b:Bool} {k:Bool->T} (hc:uo P f args h (.bool b)) (hk:k b L K h):T.call P f args false [(false,[.bool])] k L K h :=
 EL hc (b,()) rfl hk
def QA {args:List Xab} {s:Xaa} {k:Xaa->T} (hc:uo P H args h (.string s)) (hk:k s L K h):T.call P H args false [(false,[.string])] k L K h :=
 EL hc (s,()) rfl hk
def H0 {args:List Xab} {c:Bool} {k:Int->Bool->Bool->T} (hc:uo P H args h (.tuple #[.int Z a,.bool O,.bool c])) (hk:k a O c L K h) :
  T.call P H args true [(false,[.int Z]),(false,[.bool]),(false,[.bool])] k L K h:=EL hc (a,O,c,()) rfl hk
variable {b:Bool->T}
def iv {args:List Xab} {R:Hp->Prop} (hc:HC P H args.toArray h fun v h'=>v=.bool O/\R h') (hk:∀ h',R h'->b O L K h'):T.call P H args false [(false,[.bool])] b L K h :=
 aE hc fun v h' ⟨h1,h2⟩=>⟨(O,()),h1,hk h' h2⟩
def wK {cap args all:List Xab} {cs:List ee} {k:FB (flat cs) T} {R:Xab->Hp->Prop} (a:fX P H=true) (c:all=args++cap) (hc:HC P H all.toArray h R)
  (hk:∀ v h',R v h'->∃ x,v=rv O cs (ep _ x)/\Er _ k x L K h'):T.wB P (.func (.func H) #[] cap.toArray) args O cs k L K h:=by
 subst c;refine ⟨H,#[],cap.toArray,rfl,by simpa using aE hc hk,?_⟩;unfold fX at a;cases b:P.funcs[H]? with
 | none=>rw [b] at a; cases a
 | some fn =>
  rw [b] at a;exact ⟨fn,rfl,by simp_all,by simp_all⟩
variable {U V:T}
def dy {p:Prop} (a:p) (ht:U L K h):T.need p U L K h:=⟨a,ht⟩
def ao (ht:O=true->U L K h) (a:O=false->V L K h):(cond O U V) L K h:=by
 cases O
 ·exact a rfl
 ·exact ht rfl
def aK {p:Prop} [Decidable p] (ht:p->U L K h) (a:¬p->V L K h):cond (decide p) U V L K h:=ao (fun q=>ht (ah9 q)) (fun q=>a (ar9 q))
def bX (a:O=true) (ht:U L K h):(cond O U V) L K h:=by subst a; exact ht
def cv (a:O=false) (c:V L K h):(cond O U V) L K h:=by subst a; exact c
def Jl {cs:List ee} (I:qH (flat cs)->Nat->Hp->Prop) (n:Nat):List Xab->Hp->Prop:=fun a h''=>∃ m,m<n/\∃ y,a=parts cs (ep _ y)/\I y m h''
def aQ {cs:List ee} {a:List Xab} {b:FB (flat cs) T} (I:qH (flat cs)->Nat->Hp->Prop) (c:qH (flat cs)) (d:Nat) (e:a=parts cs (ep _ c)) (h0:I c d h)
  (f:∀ x n h',I x n h'->Er _ b x (L++[Jl I n]) K h'):T.loop cs a b L K h:=⟨I,⟨c,d,e,h0⟩,f⟩
def aD {a:Nat} {b:List Xab} {cs:List ee} {I:qH (flat cs)->Nat->Hp->Prop} {n:Nat} (y:qH (flat cs)) (m:Nat) (c:L[a]?=some (Jl I n)) (d:m<n) (e:b=parts cs (ep _ y)) (f:I y m h) :
  T.again a b L K h:=by
 unfold T.again;rw [c];exact ⟨m,d,y,e,f⟩
variable {Y:Xax}
def ar {b:List TypeDesc} {k:FB b T} (x:qH b) (hc:aF h Y 0 (ep _ x)) (hk:Er _ k x L K h):T.af Y b k L K h:=⟨x,hc,hk⟩
variable {c:Xac} {d:Xax->T}
def bf (b:c=some Y) (hk:d Y L K h):T.bi c d L K h:=by subst b; exact hk
def gR {p q:Prop} (ht:U L K h) (a:p:=by first | omega) (b:q:=by first | omega):T.need (p/\q) U L K h:=⟨⟨a,b⟩,ht⟩
def bK {r q:Prop} (b:c=some Y) (hk:d Y L K h) (h1:r:=by first | omega) (h2:q:=by first | omega):T.need (r/\q) (T.bi c d) L K h:=⟨⟨h1,h2⟩,bf b hk⟩
def cr (n:Nat):Int.toNat (n:Int)=n:=rfl
abbrev cF:List ee:=[(false,[.int .i64])]
abbrev fH:List ee:=[(false,[.int .i64]),(false,[.int .i64])]
abbrev jP:List ee:=[(false,[.bool]),(false,[.int .i64])]
abbrev kA:List ee:=[(false,[.slice 0]),(false,[.int .i64])]
abbrev pA:List ee:=[(false,[.bool])]
abbrev AJ:List ee:=[(false,[.slice 0]),(false,[.slice 0]),(false,[.int .i64])]
abbrev HV:List ee:=[(false,[.string]),(false,[.int .i64])]
abbrev TD:List ee:=[(false,[.bool]),(false,[.int .i64]),(false,[.int .i64])]
abbrev Sj:List ee:=[(false,[.bool]),(false,[.slice 0]),(false,[.int .i64])]
abbrev VZ:List ee:=[(false,[.int .u32]),(false,[.int .i64])]
abbrev VI:List ee:=[(false,[.int .i64]),(false,[.string])]
abbrev V':List ee:=[(false,[.int .i64]),(false,[.int .i64]),(false,[.bool]),(false,[.int .i64])]
abbrev XK:List ee:=[(false,[.string]),(false,[.bool]),(false,[.slice 0]),(false,[.int .i64])]
abbrev YW:List ee:=[(false,[.slice 0]),(false,[.string]),(false,[.bool]),(false,[.int .i64])]
def eX {fn:Func} {a:List Nat} {args:List Xab} {v:Xab} (b:P.follows .mixedOrders=true) (c:P.funcs[H]?=some fn) (hl:Nat.ble args.length fn.ntmps=true)
  (d:bS P a fn args=U) (ht:U [] (fun v' h'=>v'=v/\h'=h) h):uo P H args h v:=Vg b c hl (by rw [d]; exact ht)
def MC {args:List Xab} {v:Xab} (hc:∀ w:World,Calls P H args.toArray w fun e w'=>e=.returned v/\w'=w):uo P H args h v :=
 fun w a=>(hc w).mono fun e w' ⟨h1,h2⟩=>⟨v,h1,by rw [h2]; exact dI.refl w,rfl,by rw [h2]; exact a⟩
def Hf {fn : Func} {e : Array Xab -> Sem Xab} {args : Array Xab} (a : P.funcs[H]? = some fn) (hn : (fn.name == "runtime.NumGoroutine") = false) (b : fn.body.isNone = true)
  (h1:Extern.findNext fn=none) (h2:Extern.find fn=some e) (hk:aP P (e args) h K):aP P (JE H args) h K:=by
 unfold JE;rw [an];unfold callFunc;rw [fG,a];simp only [hn,b,h1,h2,Bool.false_eq_true,if_false,if_true];show aP P (do let v <- e args; pure (Next.value v)) h _;rw [an];exact hk
def rR (s:Xaa) (c:Int):aP P (Extern.BytealgIndexByte.indexByte #[.string s,.int .u8 c]) h K=K (.int .i64 (Lib.indexByte s.data.toList c.toNat.toUInt8)) h:=by
 rw [<- Lib.firstIdx_eq];unfold Extern.BytealgIndexByte.indexByte firstIdx;show aP P (match (List.range s.size).find? (fun i=>s[i]! == c.toNat.toUInt8) with | some i=>pure (goInt i) | none=>pure (goInt (-1))) h K=_
 all_goals (cases (List.range s.size).find? (fun i=>s[i]! == c.toNat.toUInt8) <;> rfl)
end rules
def wrap_i64 {x:Int} (h1:-9223372036854775808<=x) (h2:x<=9223372036854775807):IntKind.wrap .i64 x=x:=by
 simp only [IntKind.wrap,IntKind.bits,IntKind.signed,Bool.true_and];split <;> rename_i a
 ·have:=ah9 a; omega
 ·have:¬ _:=fun h=>a (ai9 h); omega
def hY (n:Nat) (h:(n:Int)+1<=9223372036854775807:=by first | omega):IntKind.wrap .i64 ((n:Int)+1)=((n+1:Nat):Int):=by
 rw [wrap_i64 ad ad]; omega
def wrap_u8 {x:Int} (h1:0<=x) (h2:x<=255):IntKind.wrap .u8 x=x:=by
 simp only [IntKind.wrap,IntKind.bits,IntKind.signed,Bool.false_and,Bool.false_eq_true,if_false];omega
def wrap_u64 {x:Int} (h1:0<=x) (h2:x<=18446744073709551615):IntKind.wrap .u64 x=x:=by
 simp only [IntKind.wrap,IntKind.bits,IntKind.signed,Bool.false_and,Bool.false_eq_true,if_false];omega
end Go.Sx
