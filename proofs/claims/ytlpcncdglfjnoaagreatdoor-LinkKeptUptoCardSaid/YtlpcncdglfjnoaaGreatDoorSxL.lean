/- Part of the framework. No condition. -/
import Derived.Test.YtlpcncdglfjnoaaGreatDoorSxF
import Derived.Lib.Bytealg
import Derived.Lib.IndexAny
set_option linter.all false
set_option maxHeartbeats 4000000
namespace Go.Sx
section rules
variable {P:Program} {L:Lp} {K:Xab->Hp->Prop} {h:Hp}
def xL (P:Program) (f:FuncId) (args:List Xab) (h:Hp) (v:Xab):Prop:=HC P f args.toArray h fun v' h'=>v'=v/\h'=h
variable {H:FuncId} {I:Bool}
def aJ {args:List Xab} {cs:List ey} {k:Fc (flat cs) T} {R:Xab->Hp->Prop} (hc:HC P H args.toArray h R)
  (hk:∀ v h',R v h'->∃ x,v=rv I cs (eA _ x)/\Fe _ k x L K h'):T.call P H args I cs k L K h:=hc.mono hk
def Iq {args:List Xab} {cs:List ey} {k:Fc (flat cs) T} {v:Xab} (hc:xL P H args h v) (x:qX (flat cs)) (a:v=rv I cs (eA _ x))
  (hk:Fe _ k x L K h):T.call P H args I cs k L K h:=aJ hc fun v' h' ⟨h1,h2⟩=>⟨x,h1.trans a,by rw [h2]; exact hk⟩
variable {V:IntKind} {Y:Int}
def nw {args:List Xab} {k:Int->T} (hc:xL P H args h (.int V Y)) (hk:k Y L K h):T.call P H args false [(false,[.int V])] k L K h :=
 Iq hc (Y,()) rfl hk
variable {Z:Bool->T}
def aM {args:List Xab} {b:Bool} (hc:xL P H args h (.bool b)) (hk:Z b L K h):T.call P H args false [(false,[.bool])] Z L K h :=
 Iq hc (b,()) rfl hk
def Hy {args:List Xab} {c:Bool} {k:Int->Bool->Bool->T} (hc:xL P H args h (.tuple #[.int V Y,.bool I,.bool c])) (hk:k Y I c L K h) :
  T.call P H args true [(false,[.int V]),(false,[.bool]),(false,[.bool])] k L K h:=Iq hc (Y,I,c,()) rfl hk
def iK {args:List Xab} {R:Hp->Prop} (hc:HC P H args.toArray h fun v h'=>v=.bool I/\R h') (hk:∀ h',R h'->Z I L K h'):T.call P H args false [(false,[.bool])] Z L K h :=
 aJ hc fun v h' ⟨h1,h2⟩=>⟨(I,()),h1,hk h' h2⟩
def pF {cap args all:List Xab} {cs:List ey} {k:Fc (flat cs) T} {R:Xab->Hp->Prop} (a:gp P H=true) (c:all=args++cap) (hc:HC P H all.toArray h R)
  (hk:∀ v h',R v h'->∃ x,v=rv I cs (eA _ x)/\Fe _ k x L K h'):T.sU P (.func (.func H) #[] cap.toArray) args I cs k L K h:=by
 subst c;refine ⟨H,#[],cap.toArray,rfl,by simpa using aJ hc hk,?_⟩;unfold gp at a;cases b:P.funcs[H]? with
 | none=>rw [b] at a; cases a
 | some fn =>
  rw [b] at a;exact ⟨fn,rfl,by simp_all,by simp_all⟩
variable {O U:T}
def dA {p:Prop} (a:p) (b:O L K h):T.need p O L K h:=⟨a,b⟩
def ao (a:I=true->O L K h) (c:I=false->U L K h):(cond I O U) L K h:=by
 cases I
 ·exact c rfl
 ·exact a rfl
def aP {p:Prop} [Decidable p] (a:p->O L K h) (b:¬p->U L K h):cond (decide p) O U L K h:=ao (fun q=>a (Y3 q)) (fun q=>b (Zf q))
def cL (a:I=true) (c:O L K h):(cond I O U) L K h:=by subst a; exact c
def cC (a:I=false) (c:U L K h):(cond I O U) L K h:=by subst a; exact c
def Jl {cs:List ey} (I:qX (flat cs)->Nat->Hp->Prop) (n:Nat):List Xab->Hp->Prop:=fun a h''=>∃ m,m<n/\∃ y,a=parts cs (eA _ y)/\I y m h''
def aU {cs:List ey} {a:List Xab} {b:Fc (flat cs) T} (I:qX (flat cs)->Nat->Hp->Prop) (c:qX (flat cs)) (d:Nat) (e:a=parts cs (eA _ c)) (h0:I c d h)
  (f:∀ x n h',I x n h'->Fe _ b x (L++[Jl I n]) K h'):T.loop cs a b L K h:=⟨I,⟨c,d,e,h0⟩,f⟩
def aG {a:Nat} {b:List Xab} {cs:List ey} {I:qX (flat cs)->Nat->Hp->Prop} {n:Nat} (y:qX (flat cs)) (m:Nat) (c:L[a]?=some (Jl I n)) (d:m<n) (e:b=parts cs (eA _ y)) (f:I y m h) :
  T.again a b L K h:=by
 unfold T.again;rw [c];exact ⟨m,d,y,e,f⟩
variable {a:Xax}
def av {b:List TypeDesc} {k:Fc b T} (x:qX b) (hc:aI h a 0 (eA _ x)) (hk:Fe _ k x L K h):T.af a b k L K h:=⟨x,hc,hk⟩
variable {b:Xac} {c:Xax->T}
def aH {a:Xax} (d:b=some a) (hk:c a L K h):T.aR b c L K h:=by subst d; exact hk
def dO {p q:Prop} (a:O L K h) (b:p:=by first | omega) (c:q:=by first | omega):T.need (p/\q) O L K h:=⟨⟨b,c⟩,a⟩
def bP {r q:Prop} (d:b=some a) (hk:c a L K h) (h1:r:=by first | omega) (h2:q:=by first | omega):T.need (r/\q) (T.aR b c) L K h:=⟨⟨h1,h2⟩,aH d hk⟩
def cB (n:Nat):Int.toNat (n:Int)=n:=rfl
abbrev cn:List ey:=[(false,[.int .i64])]
abbrev gk:List ey:=[(false,[.int .i64]),(false,[.int .i64])]
abbrev ic:List ey:=[(false,[.bool]),(false,[.int .i64])]
abbrev px:List ey:=[(false,[.bool])]
abbrev uC:List ey:=[(false,[.slice 0]),(false,[.int .i64])]
abbrev FK:List ey:=[(false,[.string]),(false,[.int .i64])]
abbrev SU:List ey:=[(false,[.bool]),(false,[.int .i64]),(false,[.int .i64])]
abbrev R6:List ey:=[(false,[.bool]),(false,[.slice 0]),(false,[.int .i64])]
abbrev Q0:List ey:=[(false,[.slice 0]),(false,[.slice 0]),(false,[.int .i64])]
abbrev Uz:List ey:=[(false,[.int .u32]),(false,[.int .i64])]
abbrev Um:List ey:=[(false,[.int .i64]),(false,[.string])]
abbrev Wx:List ey:=[(false,[.string]),(false,[.bool]),(false,[.slice 0]),(false,[.int .i64])]
abbrev V7:List ey:=[(false,[.slice 0]),(false,[.string]),(false,[.bool]),(false,[.int .i64])]
def fh {fn:Func} {a:List Nat} {args:List Xab} {v:Xab} (b:P.follows .mixedOrders=true) (c:P.funcs[H]?=some fn) (hl:Nat.ble args.length fn.ntmps=true)
  (d:bS P a fn args=O) (e:O [] (fun v' h'=>v'=v/\h'=h) h):xL P H args h v:=T0 b c hl (by rw [d]; exact e)
def GU {fn : Func} {e : Array Xab -> Sem Xab} {args : Array Xab} (a : P.funcs[H]? = some fn) (hn : (fn.name == "runtime.NumGoroutine") = false) (b : fn.body.isNone = true)
  (h1:Extern.findNext fn=none) (h2:Extern.find fn=some e) (hk:aZ P (e args) h K):aZ P (IZ H args) h K:=by
 unfold IZ;rw [an];unfold callFunc;rw [fQ,a];simp only [hn,b,h1,h2,Bool.false_eq_true,if_false,if_true];show aZ P (do let v <- e args; pure (Next.value v)) h _;rw [an];exact hk
def sA (s:Xaa) (c:Int):aZ P (Extern.BytealgIndexByte.indexByte #[.string s,.int .u8 c]) h K=K (.int .i64 (Lib.indexByte s.data.toList c.toNat.toUInt8)) h:=by
 rw [<- Lib.firstIdx_eq];unfold Extern.BytealgIndexByte.indexByte firstIdx;show aZ P (match (List.range s.size).find? (fun i=>s[i]! == c.toNat.toUInt8) with | some i=>pure (goInt i) | none=>pure (goInt (-1))) h K=_
 all_goals (cases (List.range s.size).find? (fun i=>s[i]! == c.toNat.toUInt8) <;> rfl)
end rules
def wrap_i64 {x:Int} (h1:-9223372036854775808<=x) (h2:x<=9223372036854775807):IntKind.wrap .i64 x=x:=by
 simp only [IntKind.wrap,IntKind.bits,IntKind.signed,Bool.true_and];split <;> rename_i a
 ·have:=Y3 a; omega
 ·have:¬ _:=fun h=>a (Y4 h); omega
def iC (n:Nat) (h:(n:Int)+1<=9223372036854775807:=by first | omega):IntKind.wrap .i64 ((n:Int)+1)=((n+1:Nat):Int):=by
 rw [wrap_i64 ad ad]; omega
def wrap_u8 {x:Int} (h1:0<=x) (h2:x<=255):IntKind.wrap .u8 x=x:=by
 simp only [IntKind.wrap,IntKind.bits,IntKind.signed,Bool.false_and,Bool.false_eq_true,if_false];omega
end Go.Sx
