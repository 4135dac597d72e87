/- Part of the framework. No condition. -/
import Derived.Test.YthbffkdafjboiaaGreatDoorSxF
import Derived.Lib.Bytealg
import Derived.Lib.IndexAny
set_option linter.all false
set_option maxHeartbeats 4000000
namespace Go.Sx
section rules
variable {P:Program} {L:Lp} {K:ZB->Hp->Prop} {h:Hp}
def vz (P:Program) (f:FuncId) (args:List ZB) (h:Hp) (v:ZB):Prop:=HC P f args.toArray h fun v' h'=>v'=v/\h'=h
def aK {f:FuncId} {args:List ZB} {tup:Bool} {cs:List fE} {k:DA (flat cs) T} {R:ZB->Hp->Prop} (hc:HC P f args.toArray h R)
  (hk:∀ v h',R v h'->∃ x,v=rv tup cs (dZ _ x)/\DZ _ k x L K h'):T.call P f args tup cs k L K h:=hc.mono hk
def Gv {f:FuncId} {args:List ZB} {tup:Bool} {cs:List fE} {k:DA (flat cs) T} {v:ZB} (hc:vz P f args h v) (x:qb (flat cs)) (hx:v=rv tup cs (dZ _ x))
  (hk:DZ _ k x L K h):T.call P f args tup cs k L K h:=aK hc fun v' h' ⟨h1,h2⟩=>⟨x,h1.trans hx,by rw [h2]; exact hk⟩
def jY {f:FuncId} {args:List ZB} {i:IntKind} {n:Int} {k:Int->T} (hc:vz P f args h (.int i n)) (hk:k n L K h):T.call P f args false [(false,[.int i])] k L K h :=
 Gv hc (n,()) rfl hk
def aM {f:FuncId} {args:List ZB} {b:Bool} {k:Bool->T} (hc:vz P f args h (.bool b)) (hk:k b L K h):T.call P f args false [(false,[.bool])] k L K h :=
 Gv hc (b,()) rfl hk
def FG {f:FuncId} {args:List ZB} {i:IntKind} {n:Int} {b c:Bool} {k:Int->Bool->Bool->T} (hc:vz P f args h (.tuple #[.int i n,.bool b,.bool c])) (hk:k n b c L K h) :
  T.call P f args true [(false,[.int i]),(false,[.bool]),(false,[.bool])] k L K h:=Gv hc (n,b,c,()) rfl hk
def gP {f:FuncId} {args:List ZB} {b:Bool} {k:Bool->T} {R:Hp->Prop} (hc:HC P f args.toArray h fun v h'=>v=.bool b/\R h') (hk:∀ h',R h'->k b L K h'):T.call P f args false [(false,[.bool])] k L K h :=
 aK hc fun v h' ⟨h1,h2⟩=>⟨(b,()),h1,hk h' h2⟩
def qL {f:FuncId} {cap args all:List ZB} {tup:Bool} {cs:List fE} {k:DA (flat cs) T} {R:ZB->Hp->Prop} (hb:fF P f=true) (ha:all=args++cap) (hc:HC P f all.toArray h R)
  (hk:∀ v h',R v h'->∃ x,v=rv tup cs (dZ _ x)/\DZ _ k x L K h'):T.sI P (.func (.func f) #[] cap.toArray) args tup cs k L K h:=by
 subst ha;refine ⟨f,#[],cap.toArray,rfl,by simpa using aK hc hk,?_⟩;unfold fF at hb;cases hf:P.funcs[f]? with
 | none=>rw [hf] at hb; cases hb
 | some fn =>
  rw [hf] at hb;exact ⟨fn,rfl,by simp_all,by simp_all⟩
def ay {p:Prop} {t:T} (hp:p) (ht:t L K h):T.need p t L K h:=⟨hp,ht⟩
def ak {b:Bool} {t u:T} (ht:b=true->t L K h) (hu:b=false->u L K h):(cond b t u) L K h:=by
 cases b
 ·exact hu rfl
 ·exact ht rfl
def bn {b:Bool} {t u:T} (hb:b=true) (ht:t L K h):(cond b t u) L K h:=by subst hb; exact ht
def bJ {b:Bool} {t u:T} (hb:b=false) (hu:u L K h):(cond b t u) L K h:=by subst hb; exact hu
def Jl {cs:List fE} (I:qb (flat cs)->Nat->Hp->Prop) (n:Nat):List ZB->Hp->Prop:=fun vs h''=>∃ m,m<n/\∃ y,vs=parts cs (dZ _ y)/\I y m h''
def aU {cs:List fE} {init:List ZB} {body:DA (flat cs) T} (I:qb (flat cs)->Nat->Hp->Prop) (x0:qb (flat cs)) (n0:Nat) (hx:init=parts cs (dZ _ x0)) (h0:I x0 n0 h)
  (hb:∀ x n h',I x n h'->DZ _ body x (L++[Jl I n]) K h'):T.loop cs init body L K h:=⟨I,⟨x0,n0,hx,h0⟩,hb⟩
def aI {lv:Nat} {vs:List ZB} {cs:List fE} {I:qb (flat cs)->Nat->Hp->Prop} {n:Nat} (y:qb (flat cs)) (m:Nat) (hL:L[lv]?=some (Jl I n)) (hm:m<n) (hy:vs=parts cs (dZ _ y)) (hI:I y m h) :
  T.again lv vs L K h:=by
 unfold T.again;rw [hL];exact ⟨m,hm,y,hy,hI⟩
def aC {a:Zx} {ds:List TypeDesc} {k:DA ds T} (x:qb ds) (hc:aJ h a 0 (dZ _ x)) (hk:DZ _ k x L K h):T.ah a ds k L K h:=⟨x,hc,hk⟩
def ax {p:ZC} {k:Zx->T} {a:Zx} (hp:p=some a) (hk:k a L K h):T.bF p k L K h:=by subst hp; exact hk
def et {f:FuncId} {fn:Func} {cuts:List Nat} {args:List ZB} {v:ZB} {t:T} (hm:P.follows .mixedOrders=true) (hf:P.funcs[f]?=some fn) (hl:Nat.ble args.length fn.ntmps=true)
  (he:bQ P cuts fn args=t) (ht:t [] (fun v' h'=>v'=v/\h'=h) h):vz P f args h v:=Rz hm hf hl (by rw [he]; exact ht)
def EU {f : FuncId} {fn : Func} {e : Array ZB -> Sem ZB} {args : Array ZB} (hf : P.funcs[f]? = some fn) (hn : (fn.name == "runtime.NumGoroutine") = false) (hb : fn.body.isNone = true)
  (h1:Extern.findNext fn=none) (h2:Extern.find fn=some e) (hk:aS P (e args) h K):aS P (G3 f args) h K:=by
 unfold G3;rw [ar];unfold callFunc;rw [fj,hf];simp only [hn,hb,h1,h2,Bool.false_eq_true,if_false,if_true];show aS P (do let v <- e args; pure (Next.value v)) h _;rw [ar];exact hk
def qo (s:ZA) (c:Int):aS P (Extern.BytealgIndexByte.indexByte #[.string s,.int .u8 c]) h K=K (.int .i64 (Lib.indexByte s.data.toList c.toNat.toUInt8)) h:=by
 rw [<- Lib.firstIdx_eq];unfold Extern.BytealgIndexByte.indexByte firstIdx;show aS P (match (List.range s.size).find? (fun i=>s[i]! == c.toNat.toUInt8) with | some i=>pure (goInt i) | none=>pure (goInt (-1))) h K=_
 all_goals (cases (List.range s.size).find? (fun i=>s[i]! == c.toNat.toUInt8) <;> rfl)
end rules
def wrap_i64 {x:Int} (h1:-9223372036854775808<=x) (h2:x<=9223372036854775807):IntKind.wrap .i64 x=x:=by
 simp only [IntKind.wrap,IntKind.bits,IntKind.signed,Bool.true_and];split <;> rename_i hh
 ·have:=W2 hh; omega
 ·have:¬ _:=fun h=>hh (W9 h); omega
def wrap_u8 {x:Int} (h1:0<=x) (h2:x<=255):IntKind.wrap .u8 x=x:=by
 simp only [IntKind.wrap,IntKind.bits,IntKind.signed,Bool.false_and,Bool.false_eq_true,if_false];omega
end Go.Sx
