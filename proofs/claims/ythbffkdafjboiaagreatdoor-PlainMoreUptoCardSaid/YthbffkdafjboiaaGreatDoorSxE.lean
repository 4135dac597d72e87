/- Part of the framework. No condition. -/
import Derived.Test.YthbffkdafjboiaaGreatDoorSxU
set_option linter.all false
set_option maxHeartbeats 4000000
namespace Go.Sx
section
variable {P:Program} {h:Hp}
def W5:Xab->Xab->Bool
 | .int _ a,.int _ b=>a==b
 | .string a,.string b=>a==b
 | .bool a,.bool b=>a==b
 | _,_=>false
def RQ (d:TypeDesc) (x y:Xab):Bool :=
 match d,x,y with
 | .int _,.int k _,.int k' _=>decide (k=k')
 | .string,.string _,.string _=>true
 | .bool,.bool _,.bool _=>true
 | _,_,_=>false
def DE {d:Nat} {t:TypeId} {dd:TypeDesc} {x y:Xab} (j:P.underlying t=some dd) (hc:RQ dd x y=true) (K:Bool->Hp->Prop):aS P (Op.equalIn (d+1) t x y) h K=K (W5 x y) h:=by
 unfold Op.equalIn;rw [ao,aF j];cases dd <;> cases x <;> cases y <;> first | (simp [RQ] at hc; done) | skip
 ·rfl
 ·simp only [RQ,decide_eq_true_eq] at hc;subst hc;simp only [if_true] <;> rfl
 ·rfl
def Cf {t:TypeId} (hb:cF P t=some false) {cs:Array Xab} {off:Nat} {v:Xab} (hv:cs[off]?=some v) (K:Xab->Hp->Prop):aS P (part t cs off) h K=K v h:=by
 unfold part;rw [ao,jF hb];simp only [Bool.false_eq_true,if_false,hv] <;> rfl
def okF (P:Program) (xs ys:Array Xab) (f:Field):Bool :=
 match P.underlying f.type,xs[f.offset]?,ys[f.offset]? with
 | some d, some x, some y => RQ d x y && (f.name != "_")
 | _,_,_=>false
def Gd (xs ys:Array Xab) (f:Field):Bool:=W5 (xs[f.offset]?.getD .nilIface) (ys[f.offset]?.getD .nilIface)
def Ff {xs ys : Array Xab} {f : Field} (h : okF P xs ys f = true) : ∃ dd x y, P.underlying f.type = some dd /\ xs[f.offset]? = some x /\ ys[f.offset]? = some y /\ RQ dd x y = true /\ f.name ≠ "_" /\ cF P f.type = some false := by
 unfold okF at h;split at h
 ·rename_i dd x y h1 h2 h3;simp only [Bool.and_eq_true,bne_iff_ne] at h;refine ⟨dd,x,y,h1,h2,h3,h.1,h.2,?_⟩;unfold cF;rw [h1]
  have:=h.1
  cases dd <;> first | rfl | (simp [RQ] at this)
 ·cases h
theorem qQ {d:Nat} {xs ys:Array Xab}:∀ (l:List Field),l.all (okF P xs ys)=true->∀ (K:(Option Bool × Unit)->Hp->Prop),
  aS P (forIn l ((none,()):Option Bool × Unit) fun f __s =>
     if f.name ≠ "_" then do
        let __do_lift <- part f.type xs f.offset
        let __do_lift_1 <- part f.type ys f.offset
        let __do_lift <- Op.equalIn (d+1) f.type __do_lift __do_lift_1
        if (!__do_lift)=true then pure (ForInStep.done ((some false,()):Option Bool × Unit))
         else pure (ForInStep.yield (none,()))
     else pure (ForInStep.yield (none,()))) h K=K (if l.all (Gd xs ys) then (none,()) else (some false,())) h
 | [],_,K=>rfl
 | f::l,hl,K=>by
  rw [cn9,Zz] at hl;obtain ⟨dd,x,y,h1,h2,h3,h4,h5,h6⟩:=Ff hl.1;rw [List.forIn_cons,ao,Y8 h5,ao,Cf h6 h2,ao,Cf h6 h3,ao,DE h1 h4];have j:Gd xs ys f=W5 x y:=by unfold Gd; rw [h2,h3]; rfl
  rw [cn9,j];cases u:W5 x y with
  | false=>rfl
  | true =>
   simp only [Bool.not_true,Bool.false_eq_true,if_false,Bool.true_and];rw [KA];exact qQ l hl.2 K
def zU {d:Nat} {t:TypeId} {fs:Array Field} {xs ys:Array Xab} (G:P.underlying t=some (.struct fs)) (j:P.stoodInHeld t=false) (u:fs.all (okF P xs ys)=true) (K:Bool->Hp->Prop) :
  aS P (Op.equalIn (d+2) t (.agg xs) (.agg ys)) h K=K (fs.all (Gd xs ys)) h:=by
 unfold Op.equalIn;rw [ao,aF G];simp only;rw [ft];simp only [j,Bool.false_eq_true,if_false];rw [ao,<- Array.forIn_toList,qQ fs.toList (by rw [ad9]; exact u),ad9]
 all_goals (cases fs.all (Gd xs ys) <;> rfl)
def rD {op : BinOp} {t : TypeId} {x y : Operand} {xs ys : Array Xab} (j : P.eqGuardType P.depth t = false) (K : Unit -> Hp -> Prop) (hk : K () h) : aS P (eqGuard op t x y (.agg xs) (.agg ys)) h K := by
  unfold eqGuard
  cases op <;> first
    | exact hk
    | (simp only [Bool.not_true, Bool.false_eq_true, if_false]
       show aS P (program >>= _) h K;rw [ft, ft];simp only [j, Bool.not_false, if_true];exact hk)
def pI {t:TypeId} {fs:Array Field} {xs ys:Array Xab} (G:P.underlying t=some (.struct fs)) (j:P.stoodInHeld t=false) (u:fs.all (okF P xs ys)=true) (K:Bool->Hp->Prop) :
  aS P (Op.equal t (.agg xs) (.agg ys)) h K=K (fs.all (Gd xs ys)) h:=zU (d:=9998) G j u K
def uy {t:TypeId} {x y:Operand} {fs:Array Field} {xs ys:Array Xab} (G:P.underlying t=some (.struct fs)) (j:P.stoodInHeld t=false) (J:P.eqGuardType P.depth t=false) (u:fs.all (okF P xs ys)=true) (K:Xab->Hp->Prop) (hk:K (.bool !(fs.all (Gd xs ys))) h) :
  aS P (jv .neq t x y (.agg xs) (.agg ys)) h K:=by
 unfold jv;rw [ao];refine rD J _ ?_;unfold binOp;simp only
 first
  | (rw [ao,pI G j u]; exact hk)
  | trace_state
def zL {t:TypeId} {x y:Operand} {fs:Array Field} {xs ys:Array Xab} (G:P.underlying t=some (.struct fs)) (j:P.stoodInHeld t=false) (J:P.eqGuardType P.depth t=false) (u:fs.all (okF P xs ys)=true) (K:Xab->Hp->Prop) (hk:K (.bool (fs.all (Gd xs ys))) h) :
  aS P (jv .eql t x y (.agg xs) (.agg ys)) h K:=by
 unfold jv;rw [ao];refine rD J _ ?_;unfold binOp;simp only
 first
  | (rw [ao,pI G j u]; exact hk)
  | trace_state
end
end Go.Sx
