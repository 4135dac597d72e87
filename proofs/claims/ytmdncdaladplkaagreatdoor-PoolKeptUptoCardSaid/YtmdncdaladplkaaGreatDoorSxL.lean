/- Part of the framework. No condition. -/
import Derived.Test.YtmdncdaladplkaaGreatDoorSxF
import Derived.Lib.Bytealg
import Derived.Lib.IndexAny
set_option linter.all false
set_option maxHeartbeats 4000000
namespace Go.Sx
section rules
variable {P:Program} {L:Lp} {K:Xab->Hp->Prop} {h:Hp}
def ug (P:Program) (f:FuncId) (args:List Xab) (h:Hp) (v:Xab):Prop:=HC P f args.toArray h λv' h'=>v'=v/\h'=h
variable {H:FuncId} {O:Bool}
def aG {args:List Xab} {cs:List ez} {k:Av (flat cs) T} {R:Xab->Hp->Prop} (hc:HC P H args.toArray h R)
  (hk:∀ v h',R v h'->∃ x,v=rv O cs (et _ x)/\E4 _ k x L K h'):T.call P H args O cs k L K h:=hc.mono hk
def Fv {args:List Xab} {cs:List ez} {k:Av (flat cs) T} {v:Xab} (hc:ug P H args h v) (x:qu (flat cs)) (a:v=rv O cs (et _ x))
  (hk:E4 _ k x L K h):T.call P H args O cs k L K h:=aG hc λv' h' ⟨h1,h2⟩=>⟨x,h1.trans a,by rw [h2]; exact hk⟩
variable {Y:IntKind} {Z:Int}
def jD {args:List Xab} {k:Int->T} (hc:ug P H args h (.int Y Z)) (hk:k Z L K h):T.call P H args false [(false,[.int Y])] k L K h :=
 Fv hc (Z,()) rfl hk
variable {a:Bool->T}
def aJ {args:List Xab} {b:Bool} (hc:ug P H args h (.bool b)) (hk:a b L K h):T.call P H args false [(false,[.bool])] a L K h :=
 Fv hc (b,()) rfl hk
def Rz {args:List Xab} {s:Xaa} {k:Xaa->T} (hc:ug P H args h (.string s)) (hk:k s L K h):T.call P H args false [(false,[.string])] k L K h :=
 Fv hc (s,()) rfl hk
def IF {args:List Xab} {c:Bool} {k:Int->Bool->Bool->T} (hc:ug P H args h (.tuple #[.int Y Z,.bool O,.bool c])) (hk:k Z O c L K h) :
  T.call P H args true [(false,[.int Y]),(false,[.bool]),(false,[.bool])] k L K h:=Fv hc (Z,O,c,()) rfl hk
def iQ {args:List Xab} {R:Hp->Prop} (hc:HC P H args.toArray h λv h'=>v=.bool O/\R h') (hk:∀ h',R h'->a O L K h'):T.call P H args false [(false,[.bool])] a L K h :=
 aG hc λv h' ⟨h1,h2⟩=>⟨(O,()),h1,hk h' h2⟩
def pO {cap args all:List Xab} {cs:List ez} {k:Av (flat cs) T} {R:Xab->Hp->Prop} (a:gC P H=true) (c:all=args++cap) (hc:HC P H all.toArray h R)
  (hk:∀ v h',R v h'->∃ x,v=rv O cs (et _ x)/\E4 _ k x L K h'):T.xk P (.func (.func H) #[] cap.toArray) args O cs k L K h:=by
 subst c;refine ⟨H,#[],cap.toArray,rfl,by simpa using aG hc hk,?_⟩;unfold gC at a;cases b:P.funcs[H]? with
 | none=>rw [b] at a; cases a
 | some fn =>
  rw [b] at a;exact ⟨fn,rfl,by simp_all,by simp_all⟩
variable {U V:T}
def cX {p:Prop} (a:p) (ht:U L K h):T.need p U L K h:=⟨a,ht⟩
def ao (ht:O=true->U L K h) (a:O=false->V L K h):(cond O U V) L K h:=by
 cases O
 ·exact a rfl
 ·exact ht rfl
def aI {p:Prop} [Decidable p] (ht:p->U L K h) (a:¬p->V L K h):cond (decide p) U V L K h:=ao (λq=>ht (ai9 q)) (λq=>a (aw9 q))
def bU (a:O=true) (ht:U L K h):(cond O U V) L K h:=by subst a; exact ht
def bX (a:O=false) (c:V L K h):(cond O U V) L K h:=by subst a; exact c
def Jl {cs:List ez} (I:qu (flat cs)->Nat->Hp->Prop) (n:Nat):List Xab->Hp->Prop:=λa h''=>∃ m,m<n/\∃ y,a=parts cs (et _ y)/\I y m h''
def aM {cs:List ez} {a:List Xab} {b:Av (flat cs) T} (I:qu (flat cs)->Nat->Hp->Prop) (c:qu (flat cs)) (d:Nat) (e:a=parts cs (et _ c)) (h0:I c d h)
  (f:∀ x n h',I x n h'->E4 _ b x (L++[Jl I n]) K h'):T.loop cs a b L K h:=⟨I,⟨c,d,e,h0⟩,f⟩
def aC {a:Nat} {b:List Xab} {cs:List ez} {I:qu (flat cs)->Nat->Hp->Prop} {n:Nat} (y:qu (flat cs)) (m:Nat) (c:L[a]?=some (Jl I n)) (d:m<n) (e:b=parts cs (et _ y)) (f:I y m h) :
  T.again a b L K h:=by
 unfold T.again;rw [c];exact ⟨m,d,y,e,f⟩
variable {b:Xax}
def ar {c:List TypeDesc} {k:Av c T} (x:qu c) (hc:aH h b 0 (et _ x)) (hk:E4 _ k x L K h):T.ah b c k L K h:=⟨x,hc,hk⟩
variable {c:Xac} {d:Xax->T}
def aF {a:Xax} (b:c=some a) (hk:d a L K h):T.bh c d L K h:=by subst b; exact hk
def eS {p q:Prop} (ht:U L K h) (a:p:=by first | omega) (b:q:=by first | omega):T.need (p/\q) U L K h:=⟨⟨a,b⟩,ht⟩
def bM {r q:Prop} (e:c=some b) (hk:d b L K h) (h1:r:=by first | omega) (h2:q:=by first | omega):T.need (r/\q) (T.bh c d) L K h:=⟨⟨h1,h2⟩,aF e hk⟩
def cg (n:Nat):Int.toNat (n:Int)=n:=rfl
abbrev cz:List ez:=[(false,[.int .i64])]
abbrev fV:List ez:=[(false,[.int .i64]),(false,[.int .i64])]
abbrev iv:List ez:=[(false,[.bool]),(false,[.int .i64])]
abbrev kX:List ez:=[(false,[.slice 0]),(false,[.int .i64])]
abbrev qd:List ez:=[(false,[.bool])]
abbrev A9:List ez:=[(false,[.slice 0]),(false,[.slice 0]),(false,[.int .i64])]
abbrev IA:List ez:=[(false,[.string]),(false,[.int .i64])]
abbrev UG:List ez:=[(false,[.bool]),(false,[.int .i64]),(false,[.int .i64])]
abbrev Tu:List ez:=[(false,[.bool]),(false,[.slice 0]),(false,[.int .i64])]
abbrev W4:List ez:=[(false,[.int .u32]),(false,[.int .i64])]
abbrev WN:List ez:=[(false,[.int .i64]),(false,[.string])]
abbrev Zi:List ez:=[(false,[.string]),(false,[.bool]),(false,[.slice 0]),(false,[.int .i64])]
abbrev YQ:List ez:=[(false,[.slice 0]),(false,[.string]),(false,[.bool]),(false,[.int .i64])]
def eW {fn:Func} {a:List Nat} {args:List Xab} {v:Xab} (b:P.follows .mixedOrders=true) (c:P.funcs[H]?=some fn) (hl:Nat.ble args.length fn.ntmps=true)
  (d:bP P a fn args=U) (ht:U [] (λv' h'=>v'=v/\h'=h) h):ug P H args h v:=Wk b c hl (by rw [d]; exact ht)
def Nw {args:List Xab} {v:Xab} (hc:∀ w:World,Calls P H args.toArray w λe w'=>e=.returned v/\w'=w):ug P H args h v :=
 λw a=>(hc w).mono λe w' ⟨h1,h2⟩=>⟨v,h1,by rw [h2]; exact dO.refl w,rfl,by rw [h2]; exact a⟩
def HV {fn : Func} {e : Array Xab -> Sem Xab} {args : Array Xab} (a : P.funcs[H]? = some fn) (hn : (fn.name == "runtime.NumGoroutine") = false) (b : fn.body.isNone = true)
  (h1:Extern.findNext fn=none) (h2:Extern.find fn=some e) (hk:aQ P (e args) h K):aQ P (Km H args) h K:=by
 unfold Km;rw [an];unfold callFunc;rw [fU,a];simp only [hn,b,h1,h2,Bool.false_eq_true,if_false,if_true];show aQ P (do let v <- e args; pure (Next.value v)) h _;rw [an];exact hk
def sK (s:Xaa) (c:Int):aQ P (Extern.BytealgIndexByte.indexByte #[.string s,.int .u8 c]) h K=K (.int .i64 (Lib.indexByte s.data.toList c.toNat.toUInt8)) h:=by
 rw [<- Lib.firstIdx_eq];unfold Extern.BytealgIndexByte.indexByte firstIdx;show aQ P (match (List.range s.size).find? (λi=>s[i]! == c.toNat.toUInt8) with | some i=>pure (goInt i) | none=>pure (goInt (-1))) h K=_
 all_goals (cases (List.range s.size).find? (λi=>s[i]! == c.toNat.toUInt8) <;> rfl)
end rules
def wrap_i64 {x:Int} (h1:-9223372036854775808<=x) (h2:x<=9223372036854775807):IntKind.wrap .i64 x=x:=by
 simp only [IntKind.wrap,IntKind.bits,IntKind.signed,Bool.true_and];split <;> rename_i a
 ·have:=ai9 a; omega
 ·have:¬ _:=λh=>a (ak9 h); omega
def gK (n:Nat) (h:(n:Int)+1<=9223372036854775807:=by first | omega):IntKind.wrap .i64 ((n:Int)+1)=((n+1:Nat):Int):=by
 rw [wrap_i64 ad ad]; omega
def wrap_u8 {x:Int} (h1:0<=x) (h2:x<=255):IntKind.wrap .u8 x=x:=by
 simp only [IntKind.wrap,IntKind.bits,IntKind.signed,Bool.false_and,Bool.false_eq_true,if_false];omega
def wrap_u64 {x:Int} (h1:0<=x) (h2:x<=18446744073709551615):IntKind.wrap .u64 x=x:=by
 simp only [IntKind.wrap,IntKind.bits,IntKind.signed,Bool.false_and,Bool.false_eq_true,if_false];omega
end Go.Sx
