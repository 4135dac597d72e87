/- Part of the framework. No condition. -/
import Derived.Test.YthbffkdafjboiaaGreatDoorSxF
import Derived.Lib.Bytealg
import Derived.Lib.IndexAny
set_option linter.all false
set_option maxHeartbeats 4000000
namespace Go.Sx
section rules
variable {P:Program} {L:Lp} {K:Xab->Hp->Prop} {h:Hp}
def wz (P:Program) (f:FuncId) (args:List Xab) (h:Hp) (v:Xab):Prop:=HC P f args.toArray h fun v' h'=>v'=v/\h'=h
def aI {f:FuncId} {args:List Xab} {d:Bool} {cs:List fI} {k:Eo (flat cs) T} {R:Xab->Hp->Prop} (hc:HC P f args.toArray h R)
  (hk:∀ v h',R v h'->∃ x,v=rv d cs (ec _ x)/\EQ _ k x L K h'):T.call P f args d cs k L K h:=hc.mono hk
def Hn {f:FuncId} {args:List Xab} {d:Bool} {cs:List fI} {k:Eo (flat cs) T} {v:Xab} (hc:wz P f args h v) (x:qK (flat cs)) (hx:v=rv d cs (ec _ x))
  (hk:EQ _ k x L K h):T.call P f args d cs k L K h:=aI hc fun v' h' ⟨h1,h2⟩=>⟨x,h1.trans hx,by rw [h2]; exact hk⟩
def kj {f:FuncId} {args:List Xab} {i:IntKind} {n:Int} {k:Int->T} (hc:wz P f args h (.int i n)) (hk:k n L K h):T.call P f args false [(false,[.int i])] k L K h :=
 Hn hc (n,()) rfl hk
def aQ {f:FuncId} {args:List Xab} {b:Bool} {k:Bool->T} (hc:wz P f args h (.bool b)) (hk:k b L K h):T.call P f args false [(false,[.bool])] k L K h :=
 Hn hc (b,()) rfl hk
def Gw {f:FuncId} {args:List Xab} {i:IntKind} {n:Int} {b c:Bool} {k:Int->Bool->Bool->T} (hc:wz P f args h (.tuple #[.int i n,.bool b,.bool c])) (hk:k n b c L K h) :
  T.call P f args true [(false,[.int i]),(false,[.bool]),(false,[.bool])] k L K h:=Hn hc (n,b,c,()) rfl hk
def gY {f:FuncId} {args:List Xab} {b:Bool} {k:Bool->T} {R:Hp->Prop} (hc:HC P f args.toArray h fun v h'=>v=.bool b/\R h') (hk:∀ h',R h'->k b L K h'):T.call P f args false [(false,[.bool])] k L K h :=
 aI hc fun v h' ⟨h1,h2⟩=>⟨(b,()),h1,hk h' h2⟩
def rD {f:FuncId} {cap args all:List Xab} {d:Bool} {cs:List fI} {k:Eo (flat cs) T} {R:Xab->Hp->Prop} (j:fK P f=true) (F:all=args++cap) (hc:HC P f all.toArray h R)
  (hk:∀ v h',R v h'->∃ x,v=rv d cs (ec _ x)/\EQ _ k x L K h'):T.tH P (.func (.func f) #[] cap.toArray) args d cs k L K h:=by
 subst F;refine ⟨f,#[],cap.toArray,rfl,by simpa using aI hc hk,?_⟩;unfold fK at j;cases u:P.funcs[f]? with
 | none=>rw [u] at j; cases j
 | some fn =>
  rw [u] at j;exact ⟨fn,rfl,by simp_all,by simp_all⟩
def ax {p:Prop} {t:T} (d:p) (j:t L K h):T.need p t L K h:=⟨d,j⟩
def ar {b:Bool} {t u:T} (d:b=true->t L K h) (hu:b=false->u L K h):(cond b t u) L K h:=by
 cases b
 ·exact hu rfl
 ·exact d rfl
def aM {p:Prop} [Decidable p] {t f:T} (d:p->t L K h) (j:¬p->f L K h):cond (decide p) t f L K h:=ar (fun q=>d (Yz q)) (fun q=>j (YG q))
def bk {b:Bool} {t u:T} (d:b=true) (j:t L K h):(cond b t u) L K h:=by subst d; exact j
def bG {b:Bool} {t u:T} (d:b=false) (hu:u L K h):(cond b t u) L K h:=by subst d; exact hu
def Jl {cs:List fI} (I:qK (flat cs)->Nat->Hp->Prop) (n:Nat):List Xab->Hp->Prop:=fun vs h''=>∃ m,m<n/\∃ y,vs=parts cs (ec _ y)/\I y m h''
def aS {cs:List fI} {d:List Xab} {j:Eo (flat cs) T} (I:qK (flat cs)->Nat->Hp->Prop) (u:qK (flat cs)) (F:Nat) (hx:d=parts cs (ec _ u)) (h0:I u F h)
  (G:∀ x n h',I x n h'->EQ _ j x (L++[Jl I n]) K h'):T.loop cs d j L K h:=⟨I,⟨u,F,hx,h0⟩,G⟩
def aG {lv:Nat} {vs:List Xab} {cs:List fI} {I:qK (flat cs)->Nat->Hp->Prop} {n:Nat} (y:qK (flat cs)) (m:Nat) (d:L[lv]?=some (Jl I n)) (hm:m<n) (j:vs=parts cs (ec _ y)) (u:I y m h) :
  T.again lv vs L K h:=by
 unfold T.again;rw [d];exact ⟨m,hm,y,j,u⟩
def ay {a:Xax} {ds:List TypeDesc} {k:Eo ds T} (x:qK ds) (hc:aJ h a 0 (ec _ x)) (hk:EQ _ k x L K h):T.ah a ds k L K h:=⟨x,hc,hk⟩
def av {p:Xac} {k:Xax->T} {a:Xax} (d:p=some a) (hk:k a L K h):T.bi p k L K h:=by subst d; exact hk
def ei {f:FuncId} {fn:Func} {cuts:List Nat} {args:List Xab} {v:Xab} {t:T} (hm:P.follows .mixedOrders=true) (d:P.funcs[f]?=some fn) (hl:Nat.ble args.length fn.ntmps=true)
  (j:bM P cuts fn args=t) (u:t [] (fun v' h'=>v'=v/\h'=h) h):wz P f args h v:=Tl hm d hl (by rw [j]; exact u)
def FV {f : FuncId} {fn : Func} {e : Array Xab -> Sem Xab} {args : Array Xab} (d : P.funcs[f]? = some fn) (hn : (fn.name == "runtime.NumGoroutine") = false) (j : fn.body.isNone = true)
  (h1:Extern.findNext fn=none) (h2:Extern.find fn=some e) (hk:aU P (e args) h K):aU P (HU f args) h K:=by
 unfold HU;rw [ao];unfold callFunc;rw [fp,d];simp only [hn,j,h1,h2,Bool.false_eq_true,if_false,if_true];show aU P (do let v <- e args; pure (Next.value v)) h _;rw [ao];exact hk
def qY (s:Xaa) (c:Int):aU P (Extern.BytealgIndexByte.indexByte #[.string s,.int .u8 c]) h K=K (.int .i64 (Lib.indexByte s.data.toList c.toNat.toUInt8)) h:=by
 rw [<- Lib.firstIdx_eq];unfold Extern.BytealgIndexByte.indexByte firstIdx;show aU P (match (List.range s.size).find? (fun i=>s[i]! == c.toNat.toUInt8) with | some i=>pure (goInt i) | none=>pure (goInt (-1))) h K=_
 all_goals (cases (List.range s.size).find? (fun i=>s[i]! == c.toNat.toUInt8) <;> rfl)
end rules
def wrap_i64 {x:Int} (h1:-9223372036854775808<=x) (h2:x<=9223372036854775807):IntKind.wrap .i64 x=x:=by
 simp only [IntKind.wrap,IntKind.bits,IntKind.signed,Bool.true_and];split <;> rename_i d
 ·have:=Yz d; omega
 ·have:¬ _:=fun h=>d (YA h); omega
def gu (n:Nat) (h:(n:Int)+1<=9223372036854775807:=by first | omega):IntKind.wrap .i64 ((n:Int)+1)=((n+1:Nat):Int):=by
 rw [wrap_i64 ad ad]; omega
def wrap_u8 {x:Int} (h1:0<=x) (h2:x<=255):IntKind.wrap .u8 x=x:=by
 simp only [IntKind.wrap,IntKind.bits,IntKind.signed,Bool.false_and,Bool.false_eq_true,if_false];omega
end Go.Sx
