/- A framework of our own, part L: the rules by which a tree is proved. No condition. -/
import Derived.Test.YtfkjiiapldkoeaaGreatDoorSxF
import Derived.Lib.Bytealg
import Derived.Lib.IndexAny
set_option linter.unusedVariables false
set_option linter.unusedSimpArgs false
set_option linter.deprecated false
namespace Go.Sx
section rules
variable {P:Program} {L:Lp} {K:Value→Hp→Prop} {h:Hp}
def ur (P:Program) (f:FuncId) (args:List Value) (h:Hp) (v:Value):Prop:=HC P f args.toArray h fun v' h'=>v'=v∧h'=h
theorem aC {f:FuncId} {args:List Value} {tup:Bool} {cs:List gH} {k:zJ (flat cs) T} {R:Value→Hp→Prop} (hc:HC P f args.toArray h R)
  (hk:∀ v h',R v h'→∃ x,v=rv tup cs (fw _ x)∧aB _ k x L K h'):T.call P f args tup cs k L K h:=hc.mono hk
theorem iZ {f:FuncId} {args:List Value} {tup:Bool} {cs:List gH} {k:zJ (flat cs) T} {v:Value} (hc:ur P f args h v) (x:rQ (flat cs)) (hx:v=rv tup cs (fw _ x))
  (hk:aB _ k x L K h):T.call P f args tup cs k L K h:=aC hc fun v' h' ⟨h1,h2⟩=>⟨x,h1.trans hx,by rw [h2]; exact hk⟩
theorem cX {f:FuncId} {args:List Value} {i:IntKind} {n:Int} {k:Int→T} (hc:ur P f args h (.int i n)) (hk:k n L K h):T.call P f args false [(false,[.int i])] k L K h :=
 iZ hc (n,()) rfl hk
theorem aE {f:FuncId} {args:List Value} {b:Bool} {k:Bool→T} (hc:ur P f args h (.bool b)) (hk:k b L K h):T.call P f args false [(false,[.bool])] k L K h :=
 iZ hc (b,()) rfl hk
theorem wb {f:FuncId} {args:List Value} {i:IntKind} {n:Int} {b c:Bool} {k:Int→Bool→Bool→T} (hc:ur P f args h (.tuple #[.int i n,.bool b,.bool c])) (hk:k n b c L K h) :
  T.call P f args true [(false,[.int i]),(false,[.bool]),(false,[.bool])] k L K h:=iZ hc (n,b,c,()) rfl hk
theorem lK {f:FuncId} {args:List Value} {b:Bool} {k:Bool→T} {R:Hp→Prop} (hc:HC P f args.toArray h fun v h'=>v=.bool b∧R h') (hk:∀ h',R h'→k b L K h'):T.call P f args false [(false,[.bool])] k L K h :=
 aC hc fun v h' ⟨h1,h2⟩=>⟨(b,()),h1,hk h' h2⟩
theorem jd {f:FuncId} {cap args all:List Value} {tup:Bool} {cs:List gH} {k:zJ (flat cs) T} {R:Value→Hp→Prop} (hb:fU P f=true) (ha:all=args++cap) (hc:HC P f all.toArray h R)
  (hk:∀ v h',R v h'→∃ x,v=rv tup cs (fw _ x)∧aB _ k x L K h'):T.qJ P (.func (.func f) #[] cap.toArray) args tup cs k L K h:=by
 subst ha;refine ⟨f,#[],cap.toArray,rfl,by simpa using aC hc hk,?_⟩;unfold fU at hb;cases hf:P.funcs[f]? with
 | none=>rw [hf] at hb; cases hb
 | some fn =>
  rw [hf] at hb;exact ⟨fn,rfl,by simp_all,by simp_all⟩
theorem aA {p:Prop} {t:T} (hp:p) (ht:t L K h):T.need p t L K h:=⟨hp,ht⟩
theorem af {b:Bool} {t u:T} (ht:b=true→t L K h) (hu:b=false→u L K h):(cond b t u) L K h:=by
 cases b
 ·exact hu rfl
 ·exact ht rfl
theorem bd {b:Bool} {t u:T} (hb:b=true) (ht:t L K h):(cond b t u) L K h:=by subst hb; exact ht
theorem bo {b:Bool} {t u:T} (hb:b=false) (hu:u L K h):(cond b t u) L K h:=by subst hb; exact hu
def Jl {cs:List gH} (I:rQ (flat cs)→Nat→Hp→Prop) (n:Nat):List Value→Hp→Prop:=fun vs h''=>∃ m,m<n∧∃ y,vs=parts cs (fw _ y)∧I y m h''
theorem bm {cs:List gH} {init:List Value} {body:zJ (flat cs) T} (I:rQ (flat cs)→Nat→Hp→Prop) (x0:rQ (flat cs)) (n0:Nat) (hx:init=parts cs (fw _ x0)) (h0:I x0 n0 h)
  (hb:∀ x n h',I x n h'→aB _ body x (L++[Jl I n]) K h'):T.loop cs init body L K h:=⟨I,⟨x0,n0,hx,h0⟩,hb⟩
theorem aM {lv:Nat} {vs:List Value} {cs:List gH} {I:rQ (flat cs)→Nat→Hp→Prop} {n:Nat} (y:rQ (flat cs)) (m:Nat) (hL:L[lv]?=some (Jl I n)) (hm:m<n) (hy:vs=parts cs (fw _ y)) (hI:I y m h) :
  T.again lv vs L K h:=by
 unfold T.again;rw [hL];exact ⟨m,hm,y,hy,hI⟩
theorem aG {a:Addr} {ds:List TypeDesc} {k:zJ ds T} (x:rQ ds) (hc:aH h a 0 (fw _ x)) (hk:aB _ k x L K h):T.ae a ds k L K h:=⟨x,hc,hk⟩
theorem an {p:Option Addr} {k:Addr→T} {a:Addr} (hp:p=some a) (hk:k a L K h):T.au p k L K h:=by subst hp; exact hk
theorem ec {f:FuncId} {fn:Func} {cuts:List Nat} {args:List Value} {v:Value} {t:T} (hm:P.follows .mixedOrders=true) (hf:P.funcs[f]?=some fn) (hl:Nat.ble args.length fn.ntmps=true)
  (he:aX P cuts fn args=t) (ht:t [] (fun v' h'=>v'=v∧h'=h) h):ur P f args h v:=Jh hm hf hl (by rw [he]; exact ht)
theorem F' {f : FuncId} {fn : Func} {e : Array Value → Sem Value} {args : Array Value} (hf : P.funcs[f]? = some fn) (hn : (fn.name == "runtime.NumGoroutine") = false) (hb : fn.body.isNone = true)
  (h1:Extern.findNext fn=none) (h2:Extern.find fn=some e) (hk:aD P (e args) h K):aD P (FO f args) h K:=by
 unfold FO;rw [aj];unfold callFunc;rw [dr,hf];simp only [hn,hb,h1,h2,Bool.false_eq_true,if_false,if_true];show aD P (do let v ← e args; pure (Next.value v)) h _;rw [aj];exact hk
theorem uJ (s:ByteArray) (c:Int):aD P (Extern.BytealgIndexByte.indexByte #[.string s,.int .u8 c]) h K=K (.int .i64 (Lib.indexByte s.data.toList c.toNat.toUInt8)) h:=by
 rw [← Lib.firstIdx_eq];unfold Extern.BytealgIndexByte.indexByte firstIdx;show aD P (match (List.range s.size).find? (fun i=>s[i]! == c.toNat.toUInt8) with | some i=>pure (goInt i) | none=>pure (goInt (-1))) h K=_
 all_goals (cases (List.range s.size).find? (fun i=>s[i]! == c.toNat.toUInt8) <;> rfl)
end rules
/-! Numbers. -/
theorem wrap_i64 {x:Int} (h1:-9223372036854775808≤x) (h2:x≤9223372036854775807):IntKind.wrap .i64 x=x:=by
 simp only [IntKind.wrap,IntKind.bits,IntKind.signed,Bool.true_and];split <;> rename_i hh
 ·have:=of_decide_eq_true hh; omega
 ·have:¬ _:=fun h=>hh (decide_eq_true h); omega
theorem wrap_u8 {x:Int} (h1:0≤x) (h2:x≤255):IntKind.wrap .u8 x=x:=by
 simp only [IntKind.wrap,IntKind.bits,IntKind.signed,Bool.false_and,Bool.false_eq_true,if_false];omega
theorem wrap_u32 {x:Int} (h1:0≤x) (h2:x≤4294967295):IntKind.wrap .u32 x=x:=by
 simp only [IntKind.wrap,IntKind.bits,IntKind.signed,Bool.false_and,Bool.false_eq_true,if_false];omega
theorem wrap_u64 {x:Int} (h1:0≤x) (h2:x≤18446744073709551615):IntKind.wrap .u64 x=x:=by
 simp only [IntKind.wrap,IntKind.bits,IntKind.signed,Bool.false_and,Bool.false_eq_true,if_false];omega
end Go.Sx
