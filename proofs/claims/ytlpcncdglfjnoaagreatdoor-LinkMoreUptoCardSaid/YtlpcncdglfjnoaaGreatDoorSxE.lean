/- A framework of our own, part E: equality of structs whose cells are numbers, strings and Bools. No condition. -/
import Derived.Test.YtlpcncdglfjnoaaGreatDoorSxU
set_option linter.all false
set_option maxHeartbeats 4000000
namespace Go.Sx
section
variable {P:Program} {h:Hp}
def UI:ZB->ZB->Bool
 | .int _ a,.int _ b=>a==b
 | .string a,.string b=>a==b
 | .bool a,.bool b=>a==b
 | _,_=>false
def QO (d:TypeDesc) (x y:ZB):Bool :=
 match d,x,y with
 | .int _,.int k _,.int k' _=>decide (k=k')
 | .string,.string _,.string _=>true
 | .bool,.bool _,.bool _=>true
 | _,_,_=>false
theorem Cg {d:Nat} {t:TypeId} {dd:TypeDesc} {x y:ZB} (ht:P.underlying t=some dd) (hc:QO dd x y=true) (K:Bool->Hp->Prop):aQ P (Op.equalIn (d+1) t x y) h K=K (UI x y) h:=by
 unfold Op.equalIn;rw [ar,aD ht];cases dd <;> cases x <;> cases y <;> first | (simp [QO] at hc; done) | skip
 ·rfl
 ·simp only [QO,decide_eq_true_eq] at hc;subst hc;simp only [if_true] <;> rfl
 ·rfl
theorem AK {t:TypeId} (hb:cv P t=some false) {cs:Array ZB} {off:Nat} {v:ZB} (hv:cs[off]?=some v) (K:ZB->Hp->Prop):aQ P (part t cs off) h K=K v h:=by
 unfold part;rw [ar,jm hb];simp only [Bool.false_eq_true,if_false,hv] <;> rfl
def okF (P:Program) (xs ys:Array ZB) (f:Field):Bool :=
 match P.underlying f.type,xs[f.offset]?,ys[f.offset]? with
 | some d, some x, some y => QO d x y && (f.name != "_")
 | _,_,_=>false
def FK (xs ys:Array ZB) (f:Field):Bool:=UI (xs[f.offset]?.getD .nilIface) (ys[f.offset]?.getD .nilIface)
theorem D2 {xs ys : Array ZB} {f : Field} (h : okF P xs ys f = true) : ∃ dd x y, P.underlying f.type = some dd /\ xs[f.offset]? = some x /\ ys[f.offset]? = some y /\ QO dd x y = true /\ f.name ≠ "_" /\ cv P f.type = some false := by
 unfold okF at h;split at h
 ·rename_i dd x y h1 h2 h3;simp only [Bool.and_eq_true,bne_iff_ne] at h;refine ⟨dd,x,y,h1,h2,h3,h.1,h.2,?_⟩;unfold cv;rw [h1]
  have:=h.1
  cases dd <;> first | rfl | (simp [QO] at this)
 ·cases h
theorem ql {d:Nat} {xs ys:Array ZB}:∀ (l:List Field),l.all (okF P xs ys)=true->∀ (K:(Option Bool × Unit)->Hp->Prop),
  aQ P (forIn l ((none,()):Option Bool × Unit) fun f __s =>
     if f.name ≠ "_" then do
        let __do_lift <- part f.type xs f.offset
        let __do_lift_1 <- part f.type ys f.offset
        let __do_lift <- Op.equalIn (d+1) f.type __do_lift __do_lift_1
        if (!__do_lift)=true then pure (ForInStep.done ((some false,()):Option Bool × Unit))
         else pure (ForInStep.yield (none,()))
     else pure (ForInStep.yield (none,()))) h K=K (if l.all (FK xs ys) then (none,()) else (some false,())) h
 | [],_,K=>rfl
 | f::l,hl,K=>by
  rw [List.all_cons,XO] at hl;obtain ⟨dd,x,y,h1,h2,h3,h4,h5,h6⟩:=D2 hl.1;rw [List.forIn_cons,ar,W2 h5,ar,AK h6 h2,ar,AK h6 h3,ar,Cg h1 h4];have he:FK xs ys f=UI x y:=by unfold FK; rw [h2,h3]; rfl
  rw [List.all_cons,he];cases hq:UI x y with
  | false=>rfl
  | true =>
   simp only [Bool.not_true,Bool.false_eq_true,if_false,Bool.true_and];rw [JG];exact ql l hl.2 K
theorem zB {d:Nat} {t:TypeId} {fs:Array Field} {xs ys:Array ZB} (ht:P.underlying t=some (.struct fs)) (hst:P.stoodInHeld t=false) (hok:fs.all (okF P xs ys)=true) (K:Bool->Hp->Prop) :
  aQ P (Op.equalIn (d+2) t (.agg xs) (.agg ys)) h K=K (fs.all (FK xs ys)) h:=by
 unfold Op.equalIn;rw [ar,aD ht];simp only;rw [eY];simp only [hst,Bool.false_eq_true,if_false];rw [ar,<- Array.forIn_toList,ql fs.toList (by rw [Yb]; exact hok),Yb]
 all_goals (cases fs.all (FK xs ys) <;> rfl)
theorem qR {op : BinOp} {t : TypeId} {x y : Operand} {xs ys : Array ZB} (hg : P.eqGuardType P.depth t = false) (K : Unit -> Hp -> Prop) (hk : K () h) : aQ P (eqGuard op t x y (.agg xs) (.agg ys)) h K := by
  unfold eqGuard
  cases op <;> first
    | exact hk
    | (simp only [Bool.not_true, Bool.false_eq_true, if_false]
       show aQ P (program >>= _) h K;rw [eY, eY];simp only [hg, Bool.not_false, if_true];exact hk)
theorem pt {t:TypeId} {fs:Array Field} {xs ys:Array ZB} (ht:P.underlying t=some (.struct fs)) (hst:P.stoodInHeld t=false) (hok:fs.all (okF P xs ys)=true) (K:Bool->Hp->Prop) :
  aQ P (Op.equal t (.agg xs) (.agg ys)) h K=K (fs.all (FK xs ys)) h:=zB (d:=9998) ht hst hok K
theorem uG {t:TypeId} {x y:Operand} {fs:Array Field} {xs ys:Array ZB} (ht:P.underlying t=some (.struct fs)) (hst:P.stoodInHeld t=false) (hg:P.eqGuardType P.depth t=false) (hok:fs.all (okF P xs ys)=true) (K:ZB->Hp->Prop) (hk:K (.bool !(fs.all (FK xs ys))) h) :
  aQ P (iF .neq t x y (.agg xs) (.agg ys)) h K:=by
 unfold iF;rw [ar];refine qR hg _ ?_;unfold binOp;simp only
 first
  | (rw [ar,pt ht hst hok]; exact hk)
  | trace_state
theorem Ec {t:TypeId} {x y:Operand} {fs:Array Field} {xs ys:Array ZB} (ht:P.underlying t=some (.struct fs)) (hst:P.stoodInHeld t=false) (hg:P.eqGuardType P.depth t=false) (hok:fs.all (okF P xs ys)=true) (K:ZB->Hp->Prop) (hk:K (.bool (fs.all (FK xs ys))) h) :
  aQ P (iF .eql t x y (.agg xs) (.agg ys)) h K:=by
 unfold iF;rw [ar];refine qR hg _ ?_;unfold binOp;simp only
 first
  | (rw [ar,pt ht hst hok]; exact hk)
  | trace_state
end
end Go.Sx
