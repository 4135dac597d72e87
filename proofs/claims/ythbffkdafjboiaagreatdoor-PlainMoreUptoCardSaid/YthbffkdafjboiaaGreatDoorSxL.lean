/- Part of the framework. No condition. -/
import Derived.Test.YthbffkdafjboiaaGreatDoorSxF
import Derived.Lib.Bytealg
import Derived.Lib.IndexAny
set_option linter.all false
set_option maxHeartbeats 4000000
namespace Go.Sx
section rules
variable {P:Program} {L:Lp} {K:Xab->Hp->Prop} {h:Hp}
def we (P:Program) (f:FuncId) (args:List Xab) (h:Hp) (v:Xab):Prop:=HC P f args.toArray h fun v' h'=>v'=v/\h'=h
def aJ {f:FuncId} {args:List Xab} {j:Bool} {cs:List fJ} {k:Ea (flat cs) T} {R:Xab->Hp->Prop} (hc:HC P f args.toArray h R)
  (hk:∀ v h',R v h'->∃ x,v=rv j cs (ef _ x)/\EA _ k x L K h'):T.call P f args j cs k L K h:=hc.mono hk
def G8 {f:FuncId} {args:List Xab} {j:Bool} {cs:List fJ} {k:Ea (flat cs) T} {v:Xab} (hc:we P f args h v) (x:qt (flat cs)) (hx:v=rv j cs (ef _ x))
  (hk:EA _ k x L K h):T.call P f args j cs k L K h:=aJ hc fun v' h' ⟨h1,h2⟩=>⟨x,h1.trans hx,by rw [h2]; exact hk⟩
def ka {f:FuncId} {args:List Xab} {i:IntKind} {n:Int} {k:Int->T} (hc:we P f args h (.int i n)) (hk:k n L K h):T.call P f args false [(false,[.int i])] k L K h :=
 G8 hc (n,()) rfl hk
def aK {f:FuncId} {args:List Xab} {b:Bool} {k:Bool->T} (hc:we P f args h (.bool b)) (hk:k b L K h):T.call P f args false [(false,[.bool])] k L K h :=
 G8 hc (b,()) rfl hk
def Gh {f:FuncId} {args:List Xab} {i:IntKind} {n:Int} {b c:Bool} {k:Int->Bool->Bool->T} (hc:we P f args h (.tuple #[.int i n,.bool b,.bool c])) (hk:k n b c L K h) :
  T.call P f args true [(false,[.int i]),(false,[.bool]),(false,[.bool])] k L K h:=G8 hc (n,b,c,()) rfl hk
def gY {f:FuncId} {args:List Xab} {b:Bool} {k:Bool->T} {R:Hp->Prop} (hc:HC P f args.toArray h fun v h'=>v=.bool b/\R h') (hk:∀ h',R h'->k b L K h'):T.call P f args false [(false,[.bool])] k L K h :=
 aJ hc fun v h' ⟨h1,h2⟩=>⟨(b,()),h1,hk h' h2⟩
def rc {f:FuncId} {cap args all:List Xab} {j:Bool} {cs:List fJ} {k:Ea (flat cs) T} {R:Xab->Hp->Prop} (hb:fL P f=true) (G:all=args++cap) (hc:HC P f all.toArray h R)
  (hk:∀ v h',R v h'->∃ x,v=rv j cs (ef _ x)/\EA _ k x L K h'):T.tj P (.func (.func f) #[] cap.toArray) args j cs k L K h:=by
 subst G;refine ⟨f,#[],cap.toArray,rfl,by simpa using aJ hc hk,?_⟩;unfold fL at hb;cases u:P.funcs[f]? with
 | none=>rw [u] at hb; cases hb
 | some fn =>
  rw [u] at hb;exact ⟨fn,rfl,by simp_all,by simp_all⟩
def ay {p:Prop} {t:T} (j:p) (u:t L K h):T.need p t L K h:=⟨j,u⟩
def av {b:Bool} {t u:T} (j:b=true->t L K h) (hu:b=false->u L K h):(cond b t u) L K h:=by
 cases b
 ·exact hu rfl
 ·exact j rfl
def aQ {p:Prop} [Decidable p] {t f:T} (j:p->t L K h) (u:¬p->f L K h):cond (decide p) t f L K h:=av (fun q=>j (Y5 q)) (fun q=>u (Zc q))
def bC {b:Bool} {t u:T} (hb:b=true) (j:t L K h):(cond b t u) L K h:=by subst hb; exact j
def bP {b:Bool} {t u:T} (hb:b=false) (hu:u L K h):(cond b t u) L K h:=by subst hb; exact hu
def Jl {cs:List fJ} (I:qt (flat cs)->Nat->Hp->Prop) (n:Nat):List Xab->Hp->Prop:=fun vs h''=>∃ m,m<n/\∃ y,vs=parts cs (ef _ y)/\I y m h''
def aX {cs:List fJ} {j:List Xab} {u:Ea (flat cs) T} (I:qt (flat cs)->Nat->Hp->Prop) (G:qt (flat cs)) (J:Nat) (hx:j=parts cs (ef _ G)) (h0:I G J h)
  (hb:∀ x n h',I x n h'->EA _ u x (L++[Jl I n]) K h'):T.loop cs j u L K h:=⟨I,⟨G,J,hx,h0⟩,hb⟩
def aH {lv:Nat} {vs:List Xab} {cs:List fJ} {I:qt (flat cs)->Nat->Hp->Prop} {n:Nat} (y:qt (flat cs)) (m:Nat) (j:L[lv]?=some (Jl I n)) (hm:m<n) (hy:vs=parts cs (ef _ y)) (u:I y m h) :
  T.again lv vs L K h:=by
 unfold T.again;rw [j];exact ⟨m,hm,y,hy,u⟩
def az {a:Xax} {ds:List TypeDesc} {k:Ea ds T} (x:qt ds) (hc:aI h a 0 (ef _ x)) (hk:EA _ k x L K h):T.ah a ds k L K h:=⟨x,hc,hk⟩
def aw {p:Xac} {k:Xax->T} {a:Xax} (j:p=some a) (hk:k a L K h):T.bG p k L K h:=by subst j; exact hk
def eC {f:FuncId} {fn:Func} {cuts:List Nat} {args:List Xab} {v:Xab} {t:T} (hm:P.follows .mixedOrders=true) (j:P.funcs[f]?=some fn) (hl:Nat.ble args.length fn.ntmps=true)
  (u:bT P cuts fn args=t) (G:t [] (fun v' h'=>v'=v/\h'=h) h):we P f args h v:=SQ hm j hl (by rw [u]; exact G)
def FE {f : FuncId} {fn : Func} {e : Array Xab -> Sem Xab} {args : Array Xab} (j : P.funcs[f]? = some fn) (hn : (fn.name == "runtime.NumGoroutine") = false) (hb : fn.body.isNone = true)
  (h1:Extern.findNext fn=none) (h2:Extern.find fn=some e) (hk:aS P (e args) h K):aS P (HF f args) h K:=by
 unfold HF;rw [ao];unfold callFunc;rw [ft,j];simp only [hn,hb,h1,h2,Bool.false_eq_true,if_false,if_true];show aS P (do let v <- e args; pure (Next.value v)) h _;rw [ao];exact hk
def qI (s:Xaa) (c:Int):aS P (Extern.BytealgIndexByte.indexByte #[.string s,.int .u8 c]) h K=K (.int .i64 (Lib.indexByte s.data.toList c.toNat.toUInt8)) h:=by
 rw [<- Lib.firstIdx_eq];unfold Extern.BytealgIndexByte.indexByte firstIdx;show aS P (match (List.range s.size).find? (fun i=>s[i]! == c.toNat.toUInt8) with | some i=>pure (goInt i) | none=>pure (goInt (-1))) h K=_
 all_goals (cases (List.range s.size).find? (fun i=>s[i]! == c.toNat.toUInt8) <;> rfl)
end rules
def wrap_i64 {x:Int} (h1:-9223372036854775808<=x) (h2:x<=9223372036854775807):IntKind.wrap .i64 x=x:=by
 simp only [IntKind.wrap,IntKind.bits,IntKind.signed,Bool.true_and];split <;> rename_i j
 ·have:=Y5 j; omega
 ·have:¬ _:=fun h=>j (Y6 h); omega
def iA (n:Nat) (h:(n:Int)+1<=9223372036854775807:=by first | omega):IntKind.wrap .i64 ((n:Int)+1)=((n+1:Nat):Int):=by
 rw [wrap_i64 ad ad]; omega
def wrap_u8 {x:Int} (h1:0<=x) (h2:x<=255):IntKind.wrap .u8 x=x:=by
 simp only [IntKind.wrap,IntKind.bits,IntKind.signed,Bool.false_and,Bool.false_eq_true,if_false];omega
end Go.Sx
