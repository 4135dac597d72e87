/- A framework of our own, part L: the rules by which a tree is proved. No condition. -/
import Derived.Test.YtlpcncdglfjnoaaGreatDoorSxF
import Derived.Lib.Bytealg
import Derived.Lib.IndexAny
set_option linter.all false
set_option maxHeartbeats 4000000
namespace Go.Sx
section rules
variable {P:Program} {L:Lp} {K:ZB->Hp->Prop} {h:Hp}
def vM (P:Program) (f:FuncId) (args:List ZB) (h:Hp) (v:ZB):Prop:=HC P f args.toArray h fun v' h'=>v'=v/\h'=h
theorem aH {f:FuncId} {args:List ZB} {tup:Bool} {cs:List fq} {k:Fm (flat cs) T} {R:ZB->Hp->Prop} (hc:HC P f args.toArray h R)
  (hk:∀ v h',R v h'->∃ x,v=rv tup cs (dU _ x)/\DB _ k x L K h'):T.call P f args tup cs k L K h:=hc.mono hk
theorem G2 {f:FuncId} {args:List ZB} {tup:Bool} {cs:List fq} {k:Fm (flat cs) T} {v:ZB} (hc:vM P f args h v) (x:qd (flat cs)) (hx:v=rv tup cs (dU _ x))
  (hk:DB _ k x L K h):T.call P f args tup cs k L K h:=aH hc fun v' h' ⟨h1,h2⟩=>⟨x,h1.trans hx,by rw [h2]; exact hk⟩
theorem gi {f:FuncId} {args:List ZB} {i:IntKind} {n:Int} {k:Int->T} (hc:vM P f args h (.int i n)) (hk:k n L K h):T.call P f args false [(false,[.int i])] k L K h :=
 G2 hc (n,()) rfl hk
theorem aI {f:FuncId} {args:List ZB} {b:Bool} {k:Bool->T} (hc:vM P f args h (.bool b)) (hk:k b L K h):T.call P f args false [(false,[.bool])] k L K h :=
 G2 hc (b,()) rfl hk
theorem DP {f:FuncId} {args:List ZB} {i:IntKind} {n:Int} {b c:Bool} {k:Int->Bool->Bool->T} (hc:vM P f args h (.tuple #[.int i n,.bool b,.bool c])) (hk:k n b c L K h) :
  T.call P f args true [(false,[.int i]),(false,[.bool]),(false,[.bool])] k L K h:=G2 hc (n,b,c,()) rfl hk
theorem gw {f:FuncId} {args:List ZB} {b:Bool} {k:Bool->T} {R:Hp->Prop} (hc:HC P f args.toArray h fun v h'=>v=.bool b/\R h') (hk:∀ h',R h'->k b L K h'):T.call P f args false [(false,[.bool])] k L K h :=
 aH hc fun v h' ⟨h1,h2⟩=>⟨(b,()),h1,hk h' h2⟩
theorem uA {f:FuncId} {cap args all:List ZB} {tup:Bool} {cs:List fq} {k:Fm (flat cs) T} {R:ZB->Hp->Prop} (hb:ft P f=true) (ha:all=args++cap) (hc:HC P f all.toArray h R)
  (hk:∀ v h',R v h'->∃ x,v=rv tup cs (dU _ x)/\DB _ k x L K h'):T.vA P (.func (.func f) #[] cap.toArray) args tup cs k L K h:=by
 subst ha;refine ⟨f,#[],cap.toArray,rfl,by simpa using aH hc hk,?_⟩;unfold ft at hb;cases hf:P.funcs[f]? with
 | none=>rw [hf] at hb; cases hb
 | some fn =>
  rw [hf] at hb;exact ⟨fn,rfl,by simp_all,by simp_all⟩
theorem ay {p:Prop} {t:T} (hp:p) (ht:t L K h):T.need p t L K h:=⟨hp,ht⟩
theorem ak {b:Bool} {t u:T} (ht:b=true->t L K h) (hu:b=false->u L K h):(cond b t u) L K h:=by
 cases b
 ·exact hu rfl
 ·exact ht rfl
theorem bT {b:Bool} {t u:T} (hb:b=true) (ht:t L K h):(cond b t u) L K h:=by subst hb; exact ht
theorem bZ {b:Bool} {t u:T} (hb:b=false) (hu:u L K h):(cond b t u) L K h:=by subst hb; exact hu
def Jl {cs:List fq} (I:qd (flat cs)->Nat->Hp->Prop) (n:Nat):List ZB->Hp->Prop:=fun vs h''=>∃ m,m<n/\∃ y,vs=parts cs (dU _ y)/\I y m h''
theorem aR {cs:List fq} {init:List ZB} {body:Fm (flat cs) T} (I:qd (flat cs)->Nat->Hp->Prop) (x0:qd (flat cs)) (n0:Nat) (hx:init=parts cs (dU _ x0)) (h0:I x0 n0 h)
  (hb:∀ x n h',I x n h'->DB _ body x (L++[Jl I n]) K h'):T.loop cs init body L K h:=⟨I,⟨x0,n0,hx,h0⟩,hb⟩
theorem aF {lv:Nat} {vs:List ZB} {cs:List fq} {I:qd (flat cs)->Nat->Hp->Prop} {n:Nat} (y:qd (flat cs)) (m:Nat) (hL:L[lv]?=some (Jl I n)) (hm:m<n) (hy:vs=parts cs (dU _ y)) (hI:I y m h) :
  T.again lv vs L K h:=by
 unfold T.again;rw [hL];exact ⟨m,hm,y,hy,hI⟩
theorem az {a:ZC} {ds:List TypeDesc} {k:Fm ds T} (x:qd ds) (hc:aG h a 0 (dU _ x)) (hk:DB _ k x L K h):T.ah a ds k L K h:=⟨x,hc,hk⟩
theorem av {p:Option ZC} {k:ZC->T} {a:ZC} (hp:p=some a) (hk:k a L K h):T.bk p k L K h:=by subst hp; exact hk
theorem ee {f:FuncId} {fn:Func} {cuts:List Nat} {args:List ZB} {v:ZB} {t:T} (hm:P.follows .mixedOrders=true) (hf:P.funcs[f]?=some fn) (hl:Nat.ble args.length fn.ntmps=true)
  (he:bI P cuts fn args=t) (ht:t [] (fun v' h'=>v'=v/\h'=h) h):vM P f args h v:=Rz hm hf hl (by rw [he]; exact ht)
theorem DX {f : FuncId} {fn : Func} {e : Array ZB -> Sem ZB} {args : Array ZB} (hf : P.funcs[f]? = some fn) (hn : (fn.name == "runtime.NumGoroutine") = false) (hb : fn.body.isNone = true)
  (h1:Extern.findNext fn=none) (h2:Extern.find fn=some e) (hk:aQ P (e args) h K):aQ P (G7 f args) h K:=by
 unfold G7;rw [ar];unfold callFunc;rw [eY,hf];simp only [hn,hb,h1,h2,Bool.false_eq_true,if_false,if_true];show aQ P (do let v <- e args; pure (Next.value v)) h _;rw [ar];exact hk
theorem qJ (s:ZA) (c:Int):aQ P (Extern.BytealgIndexByte.indexByte #[.string s,.int .u8 c]) h K=K (.int .i64 (Lib.indexByte s.data.toList c.toNat.toUInt8)) h:=by
 rw [<- Lib.firstIdx_eq];unfold Extern.BytealgIndexByte.indexByte firstIdx;show aQ P (match (List.range s.size).find? (fun i=>s[i]! == c.toNat.toUInt8) with | some i=>pure (goInt i) | none=>pure (goInt (-1))) h K=_
 all_goals (cases (List.range s.size).find? (fun i=>s[i]! == c.toNat.toUInt8) <;> rfl)
end rules
theorem wrap_i64 {x:Int} (h1:-9223372036854775808<=x) (h2:x<=9223372036854775807):IntKind.wrap .i64 x=x:=by
 simp only [IntKind.wrap,IntKind.bits,IntKind.signed,Bool.true_and];split <;> rename_i hh
 ·have:=WR hh; omega
 ·have:¬ _:=fun h=>hh (W1 h); omega
theorem wrap_u8 {x:Int} (h1:0<=x) (h2:x<=255):IntKind.wrap .u8 x=x:=by
 simp only [IntKind.wrap,IntKind.bits,IntKind.signed,Bool.false_and,Bool.false_eq_true,if_false];omega
end Go.Sx
