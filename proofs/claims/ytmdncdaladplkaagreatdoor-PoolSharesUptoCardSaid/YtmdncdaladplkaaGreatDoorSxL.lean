/- Part of the framework. No condition. -/
import Derived.Test.YtmdncdaladplkaaGreatDoorSxF
import Derived.Lib.Bytealg
import Derived.Lib.IndexAny
set_option linter.all false
set_option maxHeartbeats 4000000
namespace Go.Sx
section rules
variable {P:Program} {L:Lp} {K:Xab->Hp->Prop} {h:Hp}
def uu (P:Program) (f:FuncId) (args:List Xab) (h:Hp) (v:Xab):Prop:=HC P f args.toArray h fun v' h'=>v'=v/\h'=h
variable {H:FuncId} {O:Bool}
def aK {args:List Xab} {cs:List ep} {k:FI (flat cs) T} {R:Xab->Hp->Prop} (hc:HC P H args.toArray h R)
  (hk:∀ v h',R v h'->∃ x,v=rv O cs (et _ x)/\EC _ k x L K h'):T.call P H args O cs k L K h:=hc.mono hk
def EX {args:List Xab} {cs:List ep} {k:FI (flat cs) T} {v:Xab} (hc:uu P H args h v) (x:qF (flat cs)) (a:v=rv O cs (et _ x))
  (hk:EC _ k x L K h):T.call P H args O cs k L K h:=aK hc fun v' h' ⟨h1,h2⟩=>⟨x,h1.trans a,by rw [h2]; exact hk⟩
variable {Z:IntKind} {a:Int}
def jo {args:List Xab} {k:Int->T} (hc:uu P H args h (.int Z a)) (hk:k a L K h):T.call P H args false [(false,[.int Z])] k L K h :=
 EX hc (a,()) rfl hk
def aP {f:FuncId} {args:List Xab} {b:Bool} {k:Bool->T} (hc:uu P f args h (.bool b)) (hk:k b L K h):T.call P f args false [(false,[.bool])] k L K h :=
 EX hc (b,()) rfl hk
def QL {args:List Xab} {s:Xaa} {k:Xaa->T} (hc:uu P H args h (.string s)) (hk:k s L K h):T.call P H args false [(false,[.string])] k L K h :=
 EX hc (s,()) rfl hk
def H4 {args:List Xab} {c:Bool} {k:Int->Bool->Bool->T} (hc:uu P H args h (.tuple #[.int Z a,.bool O,.bool c])) (hk:k a O c L K h) :
  T.call P H args true [(false,[.int Z]),(false,[.bool]),(false,[.bool])] k L K h:=EX hc (a,O,c,()) rfl hk
variable {b:Bool->T}
def iG {args:List Xab} {R:Hp->Prop} (hc:HC P H args.toArray h fun v h'=>v=.bool O/\R h') (hk:∀ h',R h'->b O L K h'):T.call P H args false [(false,[.bool])] b L K h :=
 aK hc fun v h' ⟨h1,h2⟩=>⟨(O,()),h1,hk h' h2⟩
def wQ {cap args all:List Xab} {cs:List ep} {k:FI (flat cs) T} {R:Xab->Hp->Prop} (a:gi P H=true) (c:all=args++cap) (hc:HC P H all.toArray h R)
  (hk:∀ v h',R v h'->∃ x,v=rv O cs (et _ x)/\EC _ k x L K h'):T.wI P (.func (.func H) #[] cap.toArray) args O cs k L K h:=by
 subst c;refine ⟨H,#[],cap.toArray,rfl,by simpa using aK hc hk,?_⟩;unfold gi at a;cases b:P.funcs[H]? with
 | none=>rw [b] at a; cases a
 | some fn =>
  rw [b] at a;exact ⟨fn,rfl,by simp_all,by simp_all⟩
variable {U V:T}
def dC {p:Prop} (a:p) (ht:U L K h):T.need p U L K h:=⟨a,ht⟩
def aw (ht:O=true->U L K h) (a:O=false->V L K h):(cond O U V) L K h:=by
 cases O
 ·exact a rfl
 ·exact ht rfl
def aR {p:Prop} [Decidable p] (ht:p->U L K h) (a:¬p->V L K h):cond (decide p) U V L K h:=aw (fun q=>ht (ah9 q)) (fun q=>a (av9 q))
def cj (a:O=true) (ht:U L K h):(cond O U V) L K h:=by subst a; exact ht
def cg (a:O=false) (c:V L K h):(cond O U V) L K h:=by subst a; exact c
def Jl {cs:List ep} (I:qF (flat cs)->Nat->Hp->Prop) (n:Nat):List Xab->Hp->Prop:=fun a h''=>∃ m,m<n/\∃ y,a=parts cs (et _ y)/\I y m h''
def aT {cs:List ep} {a:List Xab} {b:FI (flat cs) T} (I:qF (flat cs)->Nat->Hp->Prop) (c:qF (flat cs)) (d:Nat) (e:a=parts cs (et _ c)) (h0:I c d h)
  (f:∀ x n h',I x n h'->EC _ b x (L++[Jl I n]) K h'):T.loop cs a b L K h:=⟨I,⟨c,d,e,h0⟩,f⟩
def aG {a:Nat} {b:List Xab} {cs:List ep} {I:qF (flat cs)->Nat->Hp->Prop} {n:Nat} (y:qF (flat cs)) (m:Nat) (c:L[a]?=some (Jl I n)) (d:m<n) (e:b=parts cs (et _ y)) (f:I y m h) :
  T.again a b L K h:=by
 unfold T.again;rw [c];exact ⟨m,d,y,e,f⟩
variable {Y:Xax}
def ay {b:List TypeDesc} {k:FI b T} (x:qF b) (hc:aH h Y 0 (et _ x)) (hk:EC _ k x L K h):T.af Y b k L K h:=⟨x,hc,hk⟩
variable {c:Xac} {d:Xax->T}
def bm (b:c=some Y) (hk:d Y L K h):T.bf c d L K h:=by subst b; exact hk
def hZ {p q:Prop} (ht:U L K h) (a:p:=by first | omega) (b:q:=by first | omega):T.need (p/\q) U L K h:=⟨⟨a,b⟩,ht⟩
def bS {r q:Prop} (b:c=some Y) (hk:d Y L K h) (h1:r:=by first | omega) (h2:q:=by first | omega):T.need (r/\q) (T.bf c d) L K h:=⟨⟨h1,h2⟩,bm b hk⟩
def cr (n:Nat):Int.toNat (n:Int)=n:=rfl
abbrev cI:List ep:=[(false,[.int .i64])]
abbrev gb:List ep:=[(false,[.int .i64]),(false,[.int .i64])]
abbrev gT:List ep:=[(false,[.bool]),(false,[.int .i64])]
abbrev lM:List ep:=[(false,[.slice 0]),(false,[.int .i64])]
abbrev pA:List ep:=[(false,[.bool])]
abbrev Gb:List ep:=[(false,[.string]),(false,[.int .i64])]
abbrev Nb:List ep:=[(false,[.bool]),(false,[.int .i64]),(false,[.int .i64])]
abbrev TT:List ep:=[(false,[.bool]),(false,[.slice 0]),(false,[.int .i64])]
abbrev SC:List ep:=[(false,[.slice 0]),(false,[.slice 0]),(false,[.int .i64])]
abbrev We:List ep:=[(false,[.int .u32]),(false,[.int .i64])]
abbrev VY:List ep:=[(false,[.int .i64]),(false,[.string])]
abbrev Yu:List ep:=[(false,[.string]),(false,[.bool]),(false,[.slice 0]),(false,[.int .i64])]
abbrev XY:List ep:=[(false,[.slice 0]),(false,[.string]),(false,[.bool]),(false,[.int .i64])]
def ff {fn:Func} {a:List Nat} {args:List Xab} {v:Xab} (b:P.follows .mixedOrders=true) (c:P.funcs[H]?=some fn) (hl:Nat.ble args.length fn.ntmps=true)
  (d:bZ P a fn args=U) (ht:U [] (fun v' h'=>v'=v/\h'=h) h):uu P H args h v:=Vu b c hl (by rw [d]; exact ht)
def MK {args:List Xab} {v:Xab} (hc:∀ w:World,Calls P H args.toArray w fun e w'=>e=.returned v/\w'=w):uu P H args h v :=
 fun w a=>(hc w).mono fun e w' ⟨h1,h2⟩=>⟨v,h1,by rw [h2]; exact dM.refl w,rfl,by rw [h2]; exact a⟩
def Hl {fn : Func} {e : Array Xab -> Sem Xab} {args : Array Xab} (a : P.funcs[H]? = some fn) (hn : (fn.name == "runtime.NumGoroutine") = false) (b : fn.body.isNone = true)
  (h1:Extern.findNext fn=none) (h2:Extern.find fn=some e) (hk:aS P (e args) h K):aS P (JJ H args) h K:=by
 unfold JJ;rw [av];unfold callFunc;rw [fM,a];simp only [hn,b,h1,h2,Bool.false_eq_true,if_false,if_true];show aS P (do let v <- e args; pure (Next.value v)) h _;rw [av];exact hk
def rU (s:Xaa) (c:Int):aS P (Extern.BytealgIndexByte.indexByte #[.string s,.int .u8 c]) h K=K (.int .i64 (Lib.indexByte s.data.toList c.toNat.toUInt8)) h:=by
 rw [<- Lib.firstIdx_eq];unfold Extern.BytealgIndexByte.indexByte firstIdx;show aS P (match (List.range s.size).find? (fun i=>s[i]! == c.toNat.toUInt8) with | some i=>pure (goInt i) | none=>pure (goInt (-1))) h K=_
 all_goals (cases (List.range s.size).find? (fun i=>s[i]! == c.toNat.toUInt8) <;> rfl)
end rules
def wrap_i64 {x:Int} (h1:-9223372036854775808<=x) (h2:x<=9223372036854775807):IntKind.wrap .i64 x=x:=by
 simp only [IntKind.wrap,IntKind.bits,IntKind.signed,Bool.true_and];split <;> rename_i a
 ·have:=ah9 a; omega
 ·have:¬ _:=fun h=>a (aj9 h); omega
def ic (n:Nat) (h:(n:Int)+1<=9223372036854775807:=by first | omega):IntKind.wrap .i64 ((n:Int)+1)=((n+1:Nat):Int):=by
 rw [wrap_i64 ad ad]; omega
def wrap_u8 {x:Int} (h1:0<=x) (h2:x<=255):IntKind.wrap .u8 x=x:=by
 simp only [IntKind.wrap,IntKind.bits,IntKind.signed,Bool.false_and,Bool.false_eq_true,if_false];omega
def wrap_u64 {x:Int} (h1:0<=x) (h2:x<=18446744073709551615):IntKind.wrap .u64 x=x:=by
 simp only [IntKind.wrap,IntKind.bits,IntKind.signed,Bool.false_and,Bool.false_eq_true,if_false];omega
end Go.Sx
