/- Part of the framework. No condition. -/
import Derived.Test.YtfkjiiapldkoeaaGreatDoorSxU
set_option linter.all false
set_option maxHeartbeats 4000000
namespace Go.Sx
section
variable {P:Program} {h:Hp}
def Nt:XB->XB->Bool
 | .int _ a,.int _ b=>a==b
 | .string a,.string b=>a==b
 | .bool a,.bool b=>a==b
 | _,_=>false
def L6 (d:TypeDesc) (x y:XB):Bool :=
 match d,x,y with
 | .int _,.int k _,.int k' _=>decide (k=k')
 | .string,.string _,.string _=>true
 | .bool,.bool _,.bool _=>true
 | _,_,_=>false
def Bj {d:Nat} {t:TypeId} {dd:TypeDesc} {x y:XB} (ht:P.underlying t=some dd) (hc:L6 dd x y=true) (K:Bool->Hp->Prop):aV P (Op.equalIn (d+1) t x y) h K=K (Nt x y) h:=by
 unfold Op.equalIn;rw [aD,aL ht];cases dd <;> cases x <;> cases y <;> first | (simp [L6] at hc; done) | skip
 ·rfl
 ·simp only [L6,decide_eq_true_eq] at hc;subst hc;simp only [if_true] <;> rfl
 ·rfl
def Ad {t:TypeId} (hb:du P t=some false) {cs:Array XB} {off:Nat} {v:XB} (hv:cs[off]?=some v) (K:XB->Hp->Prop):aV P (part t cs off) h K=K v h:=by
 unfold part;rw [aD,iZ hb];simp only [Bool.false_eq_true,if_false,hv] <;> rfl
def okF (P:Program) (xs ys:Array XB) (f:Field):Bool :=
 match P.underlying f.type,xs[f.offset]?,ys[f.offset]? with
 | some d, some x, some y => L6 d x y && (f.name != "_")
 | _,_,_=>false
def Jc (xs ys:Array XB) (f:Field):Bool:=Nt (xs[f.offset]?.getD .nilIface) (ys[f.offset]?.getD .nilIface)
def H9 {xs ys : Array XB} {f : Field} (h : okF P xs ys f = true) : ∃ dd x y, P.underlying f.type = some dd /\ xs[f.offset]? = some x /\ ys[f.offset]? = some y /\ L6 dd x y = true /\ f.name ≠ "_" /\ du P f.type = some false := by
 unfold okF at h;split at h
 ·rename_i dd x y h1 h2 h3;simp only [Bool.and_eq_true,bne_iff_ne] at h;refine ⟨dd,x,y,h1,h2,h3,h.1,h.2,?_⟩;unfold du;rw [h1]
  have:=h.1
  cases dd <;> first | rfl | (simp [L6] at this)
 ·cases h
theorem qf {d:Nat} {xs ys:Array XB}:∀ (l:List Field),l.all (okF P xs ys)=true->∀ (K:(Option Bool × Unit)->Hp->Prop),
  aV P (forIn l ((none,()):Option Bool × Unit) fun f __s =>
     if f.name ≠ "_" then do
        let __do_lift <- part f.type xs f.offset
        let __do_lift_1 <- part f.type ys f.offset
        let __do_lift <- Op.equalIn (d+1) f.type __do_lift __do_lift_1
        if (!__do_lift)=true then pure (ForInStep.done ((some false,()):Option Bool × Unit))
         else pure (ForInStep.yield (none,()))
     else pure (ForInStep.yield (none,()))) h K=K (if l.all (Jc xs ys) then (none,()) else (some false,())) h
 | [],_,K=>rfl
 | f::l,hl,K=>by
  rw [List.all_cons,Py] at hl;obtain ⟨dd,x,y,h1,h2,h3,h4,h5,h6⟩:=H9 hl.1;rw [List.forIn_cons,aD,OH h5,aD,Ad h6 h2,aD,Ad h6 h3,aD,Bj h1 h4];have he:Jc xs ys f=Nt x y:=by unfold Jc; rw [h2,h3]; rfl
  rw [List.all_cons,he];cases hq:Nt x y with
  | false=>rfl
  | true =>
   simp only [Bool.not_true,Bool.false_eq_true,if_false,Bool.true_and];rw [F'];exact qf l hl.2 K
def xY {d:Nat} {t:TypeId} {fs:Array Field} {xs ys:Array XB} (ht:P.underlying t=some (.struct fs)) (hst:P.stoodInHeld t=false) (hok:fs.all (okF P xs ys)=true) (K:Bool->Hp->Prop) :
  aV P (Op.equalIn (d+2) t (.agg xs) (.agg ys)) h K=K (fs.all (Jc xs ys)) h:=by
 unfold Op.equalIn;rw [aD,aL ht];simp only;rw [eF];simp only [hst,Bool.false_eq_true,if_false];rw [aD,<- Array.forIn_toList,qf fs.toList (by rw [P5]; exact hok),P5]
 all_goals (cases fs.all (Jc xs ys) <;> rfl)
def qy {op : BinOp} {t : TypeId} {x y : Operand} {xs ys : Array XB} (hg : P.eqGuardType P.depth t = false) (K : Unit -> Hp -> Prop) (hk : K () h) : aV P (eqGuard op t x y (.agg xs) (.agg ys)) h K := by
  unfold eqGuard
  cases op <;> first
    | exact hk
    | (simp only [Bool.not_true, Bool.false_eq_true, if_false]
       show aV P (program >>= _) h K;rw [eF, eF];simp only [hg, Bool.not_false, if_true];exact hk)
def uv {t:TypeId} {fs:Array Field} {xs ys:Array XB} (ht:P.underlying t=some (.struct fs)) (hst:P.stoodInHeld t=false) (hok:fs.all (okF P xs ys)=true) (K:Bool->Hp->Prop) :
  aV P (Op.equal t (.agg xs) (.agg ys)) h K=K (fs.all (Jc xs ys)) h:=xY (d:=9998) ht hst hok K
def Bx {t:TypeId} {x y:Operand} {fs:Array Field} {xs ys:Array XB} (ht:P.underlying t=some (.struct fs)) (hst:P.stoodInHeld t=false) (hg:P.eqGuardType P.depth t=false) (hok:fs.all (okF P xs ys)=true) (K:XB->Hp->Prop) (hk:K (.bool !(fs.all (Jc xs ys))) h) :
  aV P (df .neq t x y (.agg xs) (.agg ys)) h K:=by
 unfold df;rw [aD];refine qy hg _ ?_;unfold binOp;simp only
 first
  | (rw [aD,uv ht hst hok]; exact hk)
  | trace_state
def Hx {t:TypeId} {x y:Operand} {fs:Array Field} {xs ys:Array XB} (ht:P.underlying t=some (.struct fs)) (hst:P.stoodInHeld t=false) (hg:P.eqGuardType P.depth t=false) (hok:fs.all (okF P xs ys)=true) (K:XB->Hp->Prop) (hk:K (.bool (fs.all (Jc xs ys))) h) :
  aV P (df .eql t x y (.agg xs) (.agg ys)) h K:=by
 unfold df;rw [aD];refine qy hg _ ?_;unfold binOp;simp only
 first
  | (rw [aD,uv ht hst hok]; exact hk)
  | trace_state
end
end Go.Sx
