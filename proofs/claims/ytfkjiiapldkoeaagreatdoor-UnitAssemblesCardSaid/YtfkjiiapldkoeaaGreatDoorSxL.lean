/- Part of the framework. No condition. -/
import Derived.Test.YtfkjiiapldkoeaaGreatDoorSxF
import Derived.Lib.Bytealg
import Derived.Lib.IndexAny
set_option linter.all false
set_option maxHeartbeats 4000000
namespace Go.Sx
section rules
variable {P:Program} {L:Lp} {K:XB->Hp->Prop} {h:Hp}
def pO (P:Program) (f:FuncId) (args:List XB) (h:Hp) (v:XB):Prop:=HC P f args.toArray h fun v' h'=>v'=v/\h'=h
def aK {f:FuncId} {args:List XB} {tup:Bool} {cs:List fX} {k:BD (flat cs) T} {R:XB->Hp->Prop} (hc:HC P f args.toArray h R)
  (hk:∀ v h',R v h'->∃ x,v=rv tup cs (gb _ x)/\lW _ k x L K h'):T.call P f args tup cs k L K h:=hc.mono hk
def eZ {f:FuncId} {args:List XB} {tup:Bool} {cs:List fX} {k:BD (flat cs) T} {v:XB} (hc:pO P f args h v) (x:qu (flat cs)) (hx:v=rv tup cs (gb _ x))
  (hk:lW _ k x L K h):T.call P f args tup cs k L K h:=aK hc fun v' h' ⟨h1,h2⟩=>⟨x,h1.trans hx,by rw [h2]; exact hk⟩
def dN {f:FuncId} {args:List XB} {i:IntKind} {n:Int} {k:Int->T} (hc:pO P f args h (.int i n)) (hk:k n L K h):T.call P f args false [(false,[.int i])] k L K h :=
 eZ hc (n,()) rfl hk
def aM {f:FuncId} {args:List XB} {b:Bool} {k:Bool->T} (hc:pO P f args h (.bool b)) (hk:k b L K h):T.call P f args false [(false,[.bool])] k L K h :=
 eZ hc (b,()) rfl hk
def JT {f:FuncId} {args:List XB} {i j:IntKind} {n m:Int} {k:Int->Int->T} (hc:pO P f args h (.tuple #[.int i n,.int j m])) (hk:k n m L K h) :
  T.call P f args true [(false,[.int i]),(false,[.int j])] k L K h:=eZ hc (n,m,()) rfl hk
def qF {f:FuncId} {args:List XB} {i:IntKind} {n:Int} {b c:Bool} {k:Int->Bool->Bool->T} (hc:pO P f args h (.tuple #[.int i n,.bool b,.bool c])) (hk:k n b c L K h) :
  T.call P f args true [(false,[.int i]),(false,[.bool]),(false,[.bool])] k L K h:=eZ hc (n,b,c,()) rfl hk
def fL {f:FuncId} {args:List XB} {b:Bool} {k:Bool->T} {R:Hp->Prop} (hc:HC P f args.toArray h fun v h'=>v=.bool b/\R h') (hk:∀ h',R h'->k b L K h'):T.call P f args false [(false,[.bool])] k L K h :=
 aK hc fun v h' ⟨h1,h2⟩=>⟨(b,()),h1,hk h' h2⟩
def kR {f:FuncId} {cap args all:List XB} {tup:Bool} {cs:List fX} {k:BD (flat cs) T} {R:XB->Hp->Prop} (hb:ie P f=true) (ha:all=args++cap) (hc:HC P f all.toArray h R)
  (hk:∀ v h',R v h'->∃ x,v=rv tup cs (gb _ x)/\lW _ k x L K h'):T.tV P (.func (.func f) #[] cap.toArray) args tup cs k L K h:=by
 subst ha;refine ⟨f,#[],cap.toArray,rfl,by simpa using aK hc hk,?_⟩;unfold ie at hb;cases hf:P.funcs[f]? with
 | none=>rw [hf] at hb; cases hb
 | some fn =>
  rw [hf] at hb;exact ⟨fn,rfl,by simp_all,by simp_all⟩
def aC {p:Prop} {t:T} (hp:p) (ht:t L K h):T.need p t L K h:=⟨hp,ht⟩
def ai {b:Bool} {t u:T} (ht:b=true->t L K h) (hu:b=false->u L K h):(cond b t u) L K h:=by
 cases b
 ·exact hu rfl
 ·exact ht rfl
def aX {b:Bool} {t u:T} (hb:b=true) (ht:t L K h):(cond b t u) L K h:=by subst hb; exact ht
def aW {b:Bool} {t u:T} (hb:b=false) (hu:u L K h):(cond b t u) L K h:=by subst hb; exact hu
def Jl {cs:List fX} (I:qu (flat cs)->Nat->Hp->Prop) (n:Nat):List XB->Hp->Prop:=fun vs h''=>∃ m,m<n/\∃ y,vs=parts cs (gb _ y)/\I y m h''
def bJ {cs:List fX} {init:List XB} {body:BD (flat cs) T} (I:qu (flat cs)->Nat->Hp->Prop) (x0:qu (flat cs)) (n0:Nat) (hx:init=parts cs (gb _ x0)) (h0:I x0 n0 h)
  (hb:∀ x n h',I x n h'->lW _ body x (L++[Jl I n]) K h'):T.loop cs init body L K h:=⟨I,⟨x0,n0,hx,h0⟩,hb⟩
def aY {lv:Nat} {vs:List XB} {cs:List fX} {I:qu (flat cs)->Nat->Hp->Prop} {n:Nat} (y:qu (flat cs)) (m:Nat) (hL:L[lv]?=some (Jl I n)) (hm:m<n) (hy:vs=parts cs (gb _ y)) (hI:I y m h) :
  T.again lv vs L K h:=by
 unfold T.again;rw [hL];exact ⟨m,hm,y,hy,hI⟩
def aG {a:XC} {ds:List TypeDesc} {k:BD ds T} (x:qu ds) (hc:bk h a 0 (gb _ x)) (hk:lW _ k x L K h):T.ah a ds k L K h:=⟨x,hc,hk⟩
def au {p:Option XC} {k:XC->T} {a:XC} (hp:p=some a) (hk:k a L K h):T.aA p k L K h:=by subst hp; exact hk
def dk {f:FuncId} {fn:Func} {cuts:List Nat} {args:List XB} {v:XB} {t:T} (hm:P.follows .mixedOrders=true) (hf:P.funcs[f]?=some fn) (hl:Nat.ble args.length fn.ntmps=true)
  (he:bD P cuts fn args=t) (ht:t [] (fun v' h'=>v'=v/\h'=h) h):pO P f args h v:=K9 hm hf hl (by rw [he]; exact ht)
def IC {f : FuncId} {fn : Func} {e : Array XB -> Sem XB} {args : Array XB} (hf : P.funcs[f]? = some fn) (hn : (fn.name == "runtime.NumGoroutine") = false) (hb : fn.body.isNone = true)
  (h1:Extern.findNext fn=none) (h2:Extern.find fn=some e) (hk:aV P (e args) h K):aV P (IY f args) h K:=by
 unfold IY;rw [aD];unfold callFunc;rw [eF,hf];simp only [hn,hb,h1,h2,Bool.false_eq_true,if_false,if_true];show aV P (do let v <- e args; pure (Next.value v)) h _;rw [aD];exact hk
def xx (s:XA) (c:Int):aV P (Extern.BytealgIndexByte.indexByte #[.string s,.int .u8 c]) h K=K (.int .i64 (Lib.indexByte s.data.toList c.toNat.toUInt8)) h:=by
 rw [<- Lib.firstIdx_eq];unfold Extern.BytealgIndexByte.indexByte firstIdx;show aV P (match (List.range s.size).find? (fun i=>s[i]! == c.toNat.toUInt8) with | some i=>pure (goInt i) | none=>pure (goInt (-1))) h K=_
 all_goals (cases (List.range s.size).find? (fun i=>s[i]! == c.toNat.toUInt8) <;> rfl)
end rules
def wrap_i64 {x:Int} (h1:-9223372036854775808<=x) (h2:x<=9223372036854775807):IntKind.wrap .i64 x=x:=by
 simp only [IntKind.wrap,IntKind.bits,IntKind.signed,Bool.true_and];split <;> rename_i hh
 ·have:=OE hh; omega
 ·have:¬ _:=fun h=>hh (OK h); omega
def wrap_u8 {x:Int} (h1:0<=x) (h2:x<=255):IntKind.wrap .u8 x=x:=by
 simp only [IntKind.wrap,IntKind.bits,IntKind.signed,Bool.false_and,Bool.false_eq_true,if_false];omega
def wrap_u32 {x:Int} (h1:0<=x) (h2:x<=4294967295):IntKind.wrap .u32 x=x:=by
 simp only [IntKind.wrap,IntKind.bits,IntKind.signed,Bool.false_and,Bool.false_eq_true,if_false];omega
def wrap_u64 {x:Int} (h1:0<=x) (h2:x<=18446744073709551615):IntKind.wrap .u64 x=x:=by
 simp only [IntKind.wrap,IntKind.bits,IntKind.signed,Bool.false_and,Bool.false_eq_true,if_false];omega
end Go.Sx
