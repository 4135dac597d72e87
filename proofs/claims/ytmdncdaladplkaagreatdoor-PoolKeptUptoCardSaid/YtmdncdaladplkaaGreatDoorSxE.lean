/- Part of the framework. No condition. -/
import Derived.Test.YtmdncdaladplkaaGreatDoorSxU
set_option linter.all false
set_option maxHeartbeats 4000000
namespace Go.Sx
section
variable {P:Program} {h:Hp}
def Z':Xab->Xab->Bool
 | .int _ a,.int _ b=>a==b
 | .string a,.string b=>a==b
 | .bool a,.bool b=>a==b
 | _,_=>false
def Vv (d:TypeDesc) (x y:Xab):Bool :=
 match d,x,y with
 | .int _,.int k _,.int k' _=>decide (k=k')
 | .string,.string _,.string _=>true
 | .bool,.bool _,.bool _=>true
 | _,_,_=>false
variable {H:TypeId}
def FV {d:Nat} {dd:TypeDesc} {x y:Xab} (ht:P.underlying H=some dd) (hc:Vv dd x y=true) (K:Bool->Hp->Prop):aQ P (Op.equalIn (d+1) H x y) h K=K (Z' x y) h:=by
 unfold Op.equalIn;rw [an,az ht];cases dd <;> cases x <;> cases y <;> first | (simp [Vv] at hc; done) | skip
 ·rfl
 ·simp only [Vv,decide_eq_true_eq] at hc;subst hc;simp only [if_true] <;> rfl
 ·rfl
def Ef (a:cO P H=some false) {cs:Array Xab} {off:Nat} {v:Xab} (hv:cs[off]?=some v) (K:Xab->Hp->Prop):aQ P (part H cs off) h K=K v h:=by
 unfold part;rw [an,kr a];simp only [Bool.false_eq_true,if_false,hv] <;> rfl
def okF (P:Program) (xs ys:Array Xab) (f:Field):Bool :=
 match P.underlying f.type,xs[f.offset]?,ys[f.offset]? with
 | some d, some x, some y => Vv d x y && (f.name != "_")
 | _,_,_=>false
def IB (xs ys:Array Xab) (f:Field):Bool:=Z' (xs[f.offset]?.getD .nilIface) (ys[f.offset]?.getD .nilIface)
def HB {xs ys : Array Xab} {f : Field} (h : okF P xs ys f = true) : ∃ dd x y, P.underlying f.type = some dd /\ xs[f.offset]? = some x /\ ys[f.offset]? = some y /\ Vv dd x y = true /\ f.name ≠ "_" /\ cO P f.type = some false := by
 unfold okF at h;split at h
 ·rename_i dd x y h1 h2 a;simp only [Bool.and_eq_true,bne_iff_ne] at h;refine ⟨dd,x,y,h1,h2,a,h.1,h.2,?_⟩;unfold cO;rw [h1]
  have:=h.1
  cases dd <;> first | rfl | (simp [Vv] at this)
 ·cases h
theorem sS {d:Nat} {xs ys:Array Xab}:∀ (l:List Field),l.all (okF P xs ys)=true->∀ (K:(Option Bool × Unit)->Hp->Prop),
  aQ P (forIn l ((none,()):Option Bool × Unit) λf __s =>
     if f.name ≠ "_" then do
        let __do_lift <- part f.type xs f.offset
        let __do_lift_1 <- part f.type ys f.offset
        let __do_lift <- Op.equalIn (d+1) f.type __do_lift __do_lift_1
        if (!__do_lift)=true then pure (ForInStep.done ((some false,()):Option Bool × Unit))
         else pure (ForInStep.yield (none,()))
     else pure (ForInStep.yield (none,()))) h K=K (if l.all (IB xs ys) then (none,()) else (some false,())) h
 | [],_,K=>rfl
 | f::l,hl,K=>by
  rw [fl9,bm9] at hl;obtain ⟨dd,x,y,h1,h2,a,c,e,b⟩:=HB hl.1;rw [List.forIn_cons,an,ag9 e,an,Ef b h2,an,Ef b a,an,FV h1 c];have g:IB xs ys f=Z' x y:=by unfold IB; rw [h2,a]; rfl
  rw [fl9,g];cases i:Z' x y with
  | false=>rfl
  | true =>
   simp only [Bool.not_true,Bool.false_eq_true,if_false,Bool.true_and];rw [NG];exact sS l hl.2 K
variable {O:Array Field}
def BH {d:Nat} {xs ys:Array Xab} (ht:P.underlying H=some (.struct O)) (a:P.stoodInHeld H=false) (b:O.all (okF P xs ys)=true) (K:Bool->Hp->Prop) :
  aQ P (Op.equalIn (d+2) H (.agg xs) (.agg ys)) h K=K (O.all (IB xs ys)) h:=by
 unfold Op.equalIn;rw [an,az ht];simp only;rw [fU];simp only [a,Bool.false_eq_true,if_false];rw [an,<- Array.forIn_toList,sS O.toList (by rw [df9]; exact b),df9]
 all_goals (cases O.all (IB xs ys) <;> rfl)
variable {U V:Operand}
def tL {op : BinOp} {xs ys : Array Xab} (a : P.eqGuardType P.depth H = false) (K : Unit -> Hp -> Prop) (hk : K () h) : aQ P (eqGuard op H U V (.agg xs) (.agg ys)) h K := by
  unfold eqGuard
  cases op <;> first
    | exact hk
    | (simp only [Bool.not_true, Bool.false_eq_true, if_false]
       show aQ P (program >>= _) h K;rw [fU, fU];simp only [a, Bool.not_false, if_true];exact hk)
def ij {xs ys:Array Xab} (ht:P.underlying H=some (.struct O)) (a:P.stoodInHeld H=false) (b:O.all (okF P xs ys)=true) (K:Bool->Hp->Prop) :
  aQ P (Op.equal H (.agg xs) (.agg ys)) h K=K (O.all (IB xs ys)) h:=BH (d:=9998) ht a b K
def AS {xs ys:Array Xab} (ht:P.underlying H=some (.struct O)) (a:P.stoodInHeld H=false) (c:P.eqGuardType P.depth H=false) (b:O.all (okF P xs ys)=true) (K:Xab->Hp->Prop) (hk:K (.bool !(O.all (IB xs ys))) h) :
  aQ P (vr .neq H U V (.agg xs) (.agg ys)) h K:=by
 unfold vr;rw [an];refine tL c _ ?_;unfold binOp;simp only
 first
  | (rw [an,ij ht a b]; exact hk)
  | trace_state
def G7 {xs ys:Array Xab} (ht:P.underlying H=some (.struct O)) (a:P.stoodInHeld H=false) (c:P.eqGuardType P.depth H=false) (b:O.all (okF P xs ys)=true) (K:Xab->Hp->Prop) (hk:K (.bool (O.all (IB xs ys))) h) :
  aQ P (vr .eql H U V (.agg xs) (.agg ys)) h K:=by
 unfold vr;rw [an];refine tL c _ ?_;unfold binOp;simp only
 first
  | (rw [an,ij ht a b]; exact hk)
  | trace_state
end
end Go.Sx
