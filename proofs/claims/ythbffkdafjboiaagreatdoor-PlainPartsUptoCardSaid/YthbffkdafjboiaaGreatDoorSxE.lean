/- Part of the framework. No condition. -/
import Derived.Test.YthbffkdafjboiaaGreatDoorSxU
set_option linter.all false
set_option maxHeartbeats 4000000
namespace Go.Sx
section
variable {P:Program} {h:Hp}
def Vr:ZB->ZB->Bool
 | .int _ a,.int _ b=>a==b
 | .string a,.string b=>a==b
 | .bool a,.bool b=>a==b
 | _,_=>false
def QF (d:TypeDesc) (x y:ZB):Bool :=
 match d,x,y with
 | .int _,.int k _,.int k' _=>decide (k=k')
 | .string,.string _,.string _=>true
 | .bool,.bool _,.bool _=>true
 | _,_,_=>false
def C5 {d:Nat} {t:TypeId} {dd:TypeDesc} {x y:ZB} (ht:P.underlying t=some dd) (hc:QF dd x y=true) (K:Bool->Hp->Prop):aS P (Op.equalIn (d+1) t x y) h K=K (Vr x y) h:=by
 unfold Op.equalIn;rw [ar,aF ht];cases dd <;> cases x <;> cases y <;> first | (simp [QF] at hc; done) | skip
 ·rfl
 ·simp only [QF,decide_eq_true_eq] at hc;subst hc;simp only [if_true] <;> rfl
 ·rfl
def BH {t:TypeId} (hb:cB P t=some false) {cs:Array ZB} {off:Nat} {v:ZB} (hv:cs[off]?=some v) (K:ZB->Hp->Prop):aS P (part t cs off) h K=K v h:=by
 unfold part;rw [ar,ju hb];simp only [Bool.false_eq_true,if_false,hv] <;> rfl
def okF (P:Program) (xs ys:Array ZB) (f:Field):Bool :=
 match P.underlying f.type,xs[f.offset]?,ys[f.offset]? with
 | some d, some x, some y => QF d x y && (f.name != "_")
 | _,_,_=>false
def FJ (xs ys:Array ZB) (f:Field):Bool:=Vr (xs[f.offset]?.getD .nilIface) (ys[f.offset]?.getD .nilIface)
def EA {xs ys : Array ZB} {f : Field} (h : okF P xs ys f = true) : ∃ dd x y, P.underlying f.type = some dd /\ xs[f.offset]? = some x /\ ys[f.offset]? = some y /\ QF dd x y = true /\ f.name ≠ "_" /\ cB P f.type = some false := by
 unfold okF at h;split at h
 ·rename_i dd x y h1 h2 h3;simp only [Bool.and_eq_true,bne_iff_ne] at h;refine ⟨dd,x,y,h1,h2,h3,h.1,h.2,?_⟩;unfold cB;rw [h1]
  have:=h.1
  cases dd <;> first | rfl | (simp [QF] at this)
 ·cases h
theorem qz {d:Nat} {xs ys:Array ZB}:∀ (l:List Field),l.all (okF P xs ys)=true->∀ (K:(Option Bool × Unit)->Hp->Prop),
  aS P (forIn l ((none,()):Option Bool × Unit) fun f __s =>
     if f.name ≠ "_" then do
        let __do_lift <- part f.type xs f.offset
        let __do_lift_1 <- part f.type ys f.offset
        let __do_lift <- Op.equalIn (d+1) f.type __do_lift __do_lift_1
        if (!__do_lift)=true then pure (ForInStep.done ((some false,()):Option Bool × Unit))
         else pure (ForInStep.yield (none,()))
     else pure (ForInStep.yield (none,()))) h K=K (if l.all (FJ xs ys) then (none,()) else (some false,())) h
 | [],_,K=>rfl
 | f::l,hl,K=>by
  rw [Zd,Xz] at hl;obtain ⟨dd,x,y,h1,h2,h3,h4,h5,h6⟩:=EA hl.1;rw [List.forIn_cons,ar,Xb h5,ar,BH h6 h2,ar,BH h6 h3,ar,C5 h1 h4];have he:FJ xs ys f=Vr x y:=by unfold FJ; rw [h2,h3]; rfl
  rw [Zd,he];cases hq:Vr x y with
  | false=>rfl
  | true =>
   simp only [Bool.not_true,Bool.false_eq_true,if_false,Bool.true_and];rw [JR];exact qz l hl.2 K
def zq {d:Nat} {t:TypeId} {fs:Array Field} {xs ys:Array ZB} (ht:P.underlying t=some (.struct fs)) (hst:P.stoodInHeld t=false) (hok:fs.all (okF P xs ys)=true) (K:Bool->Hp->Prop) :
  aS P (Op.equalIn (d+2) t (.agg xs) (.agg ys)) h K=K (fs.all (FJ xs ys)) h:=by
 unfold Op.equalIn;rw [ar,aF ht];simp only;rw [fj];simp only [hst,Bool.false_eq_true,if_false];rw [ar,<- Array.forIn_toList,qz fs.toList (by rw [Yj]; exact hok),Yj]
 all_goals (cases fs.all (FJ xs ys) <;> rfl)
def re {op : BinOp} {t : TypeId} {x y : Operand} {xs ys : Array ZB} (hg : P.eqGuardType P.depth t = false) (K : Unit -> Hp -> Prop) (hk : K () h) : aS P (eqGuard op t x y (.agg xs) (.agg ys)) h K := by
  unfold eqGuard
  cases op <;> first
    | exact hk
    | (simp only [Bool.not_true, Bool.false_eq_true, if_false]
       show aS P (program >>= _) h K;rw [fj, fj];simp only [hg, Bool.not_false, if_true];exact hk)
def pe {t:TypeId} {fs:Array Field} {xs ys:Array ZB} (ht:P.underlying t=some (.struct fs)) (hst:P.stoodInHeld t=false) (hok:fs.all (okF P xs ys)=true) (K:Bool->Hp->Prop) :
  aS P (Op.equal t (.agg xs) (.agg ys)) h K=K (fs.all (FJ xs ys)) h:=zq (d:=9998) ht hst hok K
def yC {t:TypeId} {x y:Operand} {fs:Array Field} {xs ys:Array ZB} (ht:P.underlying t=some (.struct fs)) (hst:P.stoodInHeld t=false) (hg:P.eqGuardType P.depth t=false) (hok:fs.all (okF P xs ys)=true) (K:ZB->Hp->Prop) (hk:K (.bool !(fs.all (FJ xs ys))) h) :
  aS P (ir .neq t x y (.agg xs) (.agg ys)) h K:=by
 unfold ir;rw [ar];refine re hg _ ?_;unfold binOp;simp only
 first
  | (rw [ar,pe ht hst hok]; exact hk)
  | trace_state
def zf {t:TypeId} {x y:Operand} {fs:Array Field} {xs ys:Array ZB} (ht:P.underlying t=some (.struct fs)) (hst:P.stoodInHeld t=false) (hg:P.eqGuardType P.depth t=false) (hok:fs.all (okF P xs ys)=true) (K:ZB->Hp->Prop) (hk:K (.bool (fs.all (FJ xs ys))) h) :
  aS P (ir .eql t x y (.agg xs) (.agg ys)) h K:=by
 unfold ir;rw [ar];refine re hg _ ?_;unfold binOp;simp only
 first
  | (rw [ar,pe ht hst hok]; exact hk)
  | trace_state
end
end Go.Sx
