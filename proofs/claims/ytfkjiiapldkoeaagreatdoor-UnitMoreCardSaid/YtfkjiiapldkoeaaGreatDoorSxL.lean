/- A framework of our own, part L: the rules by which a tree is proved. No condition. -/
import Derived.Test.YtfkjiiapldkoeaaGreatDoorSxF
import Derived.Lib.Bytealg
import Derived.Lib.IndexAny
set_option linter.unusedVariables false
set_option linter.unusedSimpArgs false
set_option linter.deprecated false
namespace Go.Sx
section rules
variable {P:Program} {L:Lp} {K:Value→Hp→Prop} {h:Hp}
def tp (P:Program) (f:FuncId) (args:List Value) (h:Hp) (v:Value):Prop:=HC P f args.toArray h fun v' h'=>v'=v∧h'=h
theorem aC {f:FuncId} {args:List Value} {tup:Bool} {cs:List gw} {k:AO (flat cs) T} {R:Value→Hp→Prop} (hc:HC P f args.toArray h R)
  (hk:∀ v h',R v h'→∃ x,v=rv tup cs (fk _ x)∧aA _ k x L K h'):T.call P f args tup cs k L K h:=hc.mono hk
theorem iS {f:FuncId} {args:List Value} {tup:Bool} {cs:List gw} {k:AO (flat cs) T} {v:Value} (hc:tp P f args h v) (x:qB (flat cs)) (hx:v=rv tup cs (fk _ x))
  (hk:aA _ k x L K h):T.call P f args tup cs k L K h:=aC hc fun v' h' ⟨h1,h2⟩=>⟨x,h1.trans hx,by rw [h2]; exact hk⟩
theorem cV {f:FuncId} {args:List Value} {i:IntKind} {n:Int} {k:Int→T} (hc:tp P f args h (.int i n)) (hk:k n L K h):T.call P f args false [(false,[.int i])] k L K h :=
 iS hc (n,()) rfl hk
theorem aD {f:FuncId} {args:List Value} {b:Bool} {k:Bool→T} (hc:tp P f args h (.bool b)) (hk:k b L K h):T.call P f args false [(false,[.bool])] k L K h :=
 iS hc (b,()) rfl hk
theorem uK {f:FuncId} {args:List Value} {i:IntKind} {n:Int} {b c:Bool} {k:Int→Bool→Bool→T} (hc:tp P f args h (.tuple #[.int i n,.bool b,.bool c])) (hk:k n b c L K h) :
  T.call P f args true [(false,[.int i]),(false,[.bool]),(false,[.bool])] k L K h:=iS hc (n,b,c,()) rfl hk
theorem kZ {f:FuncId} {args:List Value} {b:Bool} {k:Bool→T} {R:Hp→Prop} (hc:HC P f args.toArray h fun v h'=>v=.bool b∧R h') (hk:∀ h',R h'→k b L K h'):T.call P f args false [(false,[.bool])] k L K h :=
 aC hc fun v h' ⟨h1,h2⟩=>⟨(b,()),h1,hk h' h2⟩
theorem jd {f:FuncId} {cap args all:List Value} {tup:Bool} {cs:List gw} {k:AO (flat cs) T} {R:Value→Hp→Prop} (hb:fI P f=true) (ha:all=args++cap) (hc:HC P f all.toArray h R)
  (hk:∀ v h',R v h'→∃ x,v=rv tup cs (fk _ x)∧aA _ k x L K h'):T.qH P (.func (.func f) #[] cap.toArray) args tup cs k L K h:=by
 subst ha;refine ⟨f,#[],cap.toArray,rfl,by simpa using aC hc hk,?_⟩;unfold fI at hb;cases hf:P.funcs[f]? with
 | none=>rw [hf] at hb; cases hb
 | some fn =>
  rw [hf] at hb;exact ⟨fn,rfl,by simp_all,by simp_all⟩
theorem aB {p:Prop} {t:T} (hp:p) (ht:t L K h):T.need p t L K h:=⟨hp,ht⟩
theorem af {b:Bool} {t u:T} (ht:b=true→t L K h) (hu:b=false→u L K h):(cond b t u) L K h:=by
 cases b
 ·exact hu rfl
 ·exact ht rfl
theorem aX {b:Bool} {t u:T} (hb:b=true) (ht:t L K h):(cond b t u) L K h:=by subst hb; exact ht
theorem bm {b:Bool} {t u:T} (hb:b=false) (hu:u L K h):(cond b t u) L K h:=by subst hb; exact hu
def Jl {cs:List gw} (I:qB (flat cs)→Nat→Hp→Prop) (n:Nat):List Value→Hp→Prop:=fun vs h''=>∃ m,m<n∧∃ y,vs=parts cs (fk _ y)∧I y m h''
theorem bC {cs:List gw} {init:List Value} {body:AO (flat cs) T} (I:qB (flat cs)→Nat→Hp→Prop) (x0:qB (flat cs)) (n0:Nat) (hx:init=parts cs (fk _ x0)) (h0:I x0 n0 h)
  (hb:∀ x n h',I x n h'→aA _ body x (L++[Jl I n]) K h'):T.loop cs init body L K h:=⟨I,⟨x0,n0,hx,h0⟩,hb⟩
theorem aL {lv:Nat} {vs:List Value} {cs:List gw} {I:qB (flat cs)→Nat→Hp→Prop} {n:Nat} (y:qB (flat cs)) (m:Nat) (hL:L[lv]?=some (Jl I n)) (hm:m<n) (hy:vs=parts cs (fk _ y)) (hI:I y m h) :
  T.again lv vs L K h:=by
 unfold T.again;rw [hL];exact ⟨m,hm,y,hy,hI⟩
theorem aH {a:Addr} {ds:List TypeDesc} {k:AO ds T} (x:qB ds) (hc:aG h a 0 (fk _ x)) (hk:aA _ k x L K h):T.ae a ds k L K h:=⟨x,hc,hk⟩
theorem an {p:Option Addr} {k:Addr→T} {a:Addr} (hp:p=some a) (hk:k a L K h):T.au p k L K h:=by subst hp; exact hk
theorem dU {f:FuncId} {fn:Func} {cuts:List Nat} {args:List Value} {v:Value} {t:T} (hm:P.follows .mixedOrders=true) (hf:P.funcs[f]?=some fn) (hl:Nat.ble args.length fn.ntmps=true)
  (he:aY P cuts fn args=t) (ht:t [] (fun v' h'=>v'=v∧h'=h) h):tp P f args h v:=IA hm hf hl (by rw [he]; exact ht)
theorem GL {f : FuncId} {fn : Func} {e : Array Value → Sem Value} {args : Array Value} (hf : P.funcs[f]? = some fn) (hn : (fn.name == "runtime.NumGoroutine") = false) (hb : fn.body.isNone = true)
  (h1:Extern.findNext fn=none) (h2:Extern.find fn=some e) (hk:aE P (e args) h K):aE P (Ga f args) h K:=by
 unfold Ga;rw [aj];unfold callFunc;rw [di,hf];simp only [hn,hb,h1,h2,Bool.false_eq_true,if_false,if_true];show aE P (do let v ← e args; pure (Next.value v)) h _;rw [aj];exact hk
theorem vF (s:ByteArray) (c:Int):aE P (Extern.BytealgIndexByte.indexByte #[.string s,.int .u8 c]) h K=K (.int .i64 (Lib.indexByte s.data.toList c.toNat.toUInt8)) h:=by
 rw [← Lib.firstIdx_eq];unfold Extern.BytealgIndexByte.indexByte firstIdx;show aE P (match (List.range s.size).find? (fun i=>s[i]! == c.toNat.toUInt8) with | some i=>pure (goInt i) | none=>pure (goInt (-1))) h K=_
 all_goals (cases (List.range s.size).find? (fun i=>s[i]! == c.toNat.toUInt8) <;> rfl)
end rules
/-! Numbers. -/
theorem wrap_i64 {x:Int} (h1:-9223372036854775808≤x) (h2:x≤9223372036854775807):IntKind.wrap .i64 x=x:=by
 simp only [IntKind.wrap,IntKind.bits,IntKind.signed,Bool.true_and];split <;> rename_i hh
 ·have:=of_decide_eq_true hh; omega
 ·have:¬ _:=fun h=>hh (decide_eq_true h); omega
theorem wrap_u8 {x:Int} (h1:0≤x) (h2:x≤255):IntKind.wrap .u8 x=x:=by
 simp only [IntKind.wrap,IntKind.bits,IntKind.signed,Bool.false_and,Bool.false_eq_true,if_false];omega
theorem wrap_u32 {x:Int} (h1:0≤x) (h2:x≤4294967295):IntKind.wrap .u32 x=x:=by
 simp only [IntKind.wrap,IntKind.bits,IntKind.signed,Bool.false_and,Bool.false_eq_true,if_false];omega
theorem wrap_u64 {x:Int} (h1:0≤x) (h2:x≤18446744073709551615):IntKind.wrap .u64 x=x:=by
 simp only [IntKind.wrap,IntKind.bits,IntKind.signed,Bool.false_and,Bool.false_eq_true,if_false];omega
end Go.Sx
