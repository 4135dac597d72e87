/- A framework of our own, part E: equality of structs whose cells are numbers, strings and Bools. No condition. -/
import Derived.Test.YtlpcncdglfjnoaaGreatDoorSxU
set_option linter.all false
set_option maxHeartbeats 4000000
namespace Go.Sx
section
variable {P:Program} {h:Hp}
def T3:YB->YB->Bool
 | .int _ a,.int _ b=>a==b
 | .string a,.string b=>a==b
 | .bool a,.bool b=>a==b
 | _,_=>false
def Ru (d:TypeDesc) (x y:YB):Bool :=
 match d,x,y with
 | .int _,.int k _,.int k' _=>decide (k=k')
 | .string,.string _,.string _=>true
 | .bool,.bool _,.bool _=>true
 | _,_,_=>false
theorem Cy {d:Nat} {t:TypeId} {dd:TypeDesc} {x y:YB} (ht:P.underlying t=some dd) (hc:Ru dd x y=true) (K:Bool->Hp->Prop):aP P (Op.equalIn (d+1) t x y) h K=K (T3 x y) h:=by
 unfold Op.equalIn;rw [ar,aC ht];cases dd <;> cases x <;> cases y <;> first | (simp [Ru] at hc; done) | skip
 ·rfl
 ·simp only [Ru,decide_eq_true_eq] at hc;subst hc;simp only [if_true] <;> rfl
 ·rfl
theorem Br {t:TypeId} (hb:cw P t=some false) {cs:Array YB} {off:Nat} {v:YB} (hv:cs[off]?=some v) (K:YB->Hp->Prop):aP P (part t cs off) h K=K v h:=by
 unfold part;rw [ar,jd hb];simp only [Bool.false_eq_true,if_false,hv] <;> rfl
def okF (P:Program) (xs ys:Array YB) (f:Field):Bool :=
 match P.underlying f.type,xs[f.offset]?,ys[f.offset]? with
 | some d, some x, some y => Ru d x y && (f.name != "_")
 | _,_,_=>false
def FH (xs ys:Array YB) (f:Field):Bool:=T3 (xs[f.offset]?.getD .nilIface) (ys[f.offset]?.getD .nilIface)
theorem EZ {xs ys : Array YB} {f : Field} (h : okF P xs ys f = true) : ∃ dd x y, P.underlying f.type = some dd /\ xs[f.offset]? = some x /\ ys[f.offset]? = some y /\ Ru dd x y = true /\ f.name ≠ "_" /\ cw P f.type = some false := by
 unfold okF at h;split at h
 ·rename_i dd x y h1 h2 h3;simp only [Bool.and_eq_true,bne_iff_ne] at h;refine ⟨dd,x,y,h1,h2,h3,h.1,h.2,?_⟩;unfold cw;rw [h1]
  have:=h.1
  cases dd <;> first | rfl | (simp [Ru] at this)
 ·cases h
theorem qm {d:Nat} {xs ys:Array YB}:∀ (l:List Field),l.all (okF P xs ys)=true->∀ (K:(Option Bool × Unit)->Hp->Prop),
  aP P (forIn l ((none,()):Option Bool × Unit) fun f __s =>
     if f.name ≠ "_" then do
        let __do_lift <- part f.type xs f.offset
        let __do_lift_1 <- part f.type ys f.offset
        let __do_lift <- Op.equalIn (d+1) f.type __do_lift __do_lift_1
        if (!__do_lift)=true then pure (ForInStep.done ((some false,()):Option Bool × Unit))
         else pure (ForInStep.yield (none,()))
     else pure (ForInStep.yield (none,()))) h K=K (if l.all (FH xs ys) then (none,()) else (some false,())) h
 | [],_,K=>rfl
 | f::l,hl,K=>by
  rw [List.all_cons,Xt] at hl;obtain ⟨dd,x,y,h1,h2,h3,h4,h5,h6⟩:=EZ hl.1;rw [List.forIn_cons,ar,WC h5,ar,Br h6 h2,ar,Br h6 h3,ar,Cy h1 h4];have he:FH xs ys f=T3 x y:=by unfold FH; rw [h2,h3]; rfl
  rw [List.all_cons,he];cases hq:T3 x y with
  | false=>rfl
  | true =>
   simp only [Bool.not_true,Bool.false_eq_true,if_false,Bool.true_and];rw [IK];exact qm l hl.2 K
theorem yY {d:Nat} {t:TypeId} {fs:Array Field} {xs ys:Array YB} (ht:P.underlying t=some (.struct fs)) (hst:P.stoodInHeld t=false) (hok:fs.all (okF P xs ys)=true) (K:Bool->Hp->Prop) :
  aP P (Op.equalIn (d+2) t (.agg xs) (.agg ys)) h K=K (fs.all (FH xs ys)) h:=by
 unfold Op.equalIn;rw [ar,aC ht];simp only;rw [eW];simp only [hst,Bool.false_eq_true,if_false];rw [ar,<- Array.forIn_toList,qm fs.toList (by rw [XL]; exact hok),XL]
 all_goals (cases fs.all (FH xs ys) <;> rfl)
theorem qK {op : BinOp} {t : TypeId} {x y : Operand} {xs ys : Array YB} (hg : P.eqGuardType P.depth t = false) (K : Unit -> Hp -> Prop) (hk : K () h) : aP P (eqGuard op t x y (.agg xs) (.agg ys)) h K := by
  unfold eqGuard
  cases op <;> first
    | exact hk
    | (simp only [Bool.not_true, Bool.false_eq_true, if_false]
       show aP P (program >>= _) h K;rw [eW, eW];simp only [hg, Bool.not_false, if_true];exact hk)
theorem oX {t:TypeId} {fs:Array Field} {xs ys:Array YB} (ht:P.underlying t=some (.struct fs)) (hst:P.stoodInHeld t=false) (hok:fs.all (okF P xs ys)=true) (K:Bool->Hp->Prop) :
  aP P (Op.equal t (.agg xs) (.agg ys)) h K=K (fs.all (FH xs ys)) h:=yY (d:=9998) ht hst hok K
theorem uu {t:TypeId} {x y:Operand} {fs:Array Field} {xs ys:Array YB} (ht:P.underlying t=some (.struct fs)) (hst:P.stoodInHeld t=false) (hg:P.eqGuardType P.depth t=false) (hok:fs.all (okF P xs ys)=true) (K:YB->Hp->Prop) (hk:K (.bool !(fs.all (FH xs ys))) h) :
  aP P (iK .neq t x y (.agg xs) (.agg ys)) h K:=by
 unfold iK;rw [ar];refine qK hg _ ?_;unfold binOp;simp only
 first
  | (rw [ar,oX ht hst hok]; exact hk)
  | trace_state
theorem DT {t:TypeId} {x y:Operand} {fs:Array Field} {xs ys:Array YB} (ht:P.underlying t=some (.struct fs)) (hst:P.stoodInHeld t=false) (hg:P.eqGuardType P.depth t=false) (hok:fs.all (okF P xs ys)=true) (K:YB->Hp->Prop) (hk:K (.bool (fs.all (FH xs ys))) h) :
  aP P (iK .eql t x y (.agg xs) (.agg ys)) h K:=by
 unfold iK;rw [ar];refine qK hg _ ?_;unfold binOp;simp only
 first
  | (rw [ar,oX ht hst hok]; exact hk)
  | trace_state
end
end Go.Sx
