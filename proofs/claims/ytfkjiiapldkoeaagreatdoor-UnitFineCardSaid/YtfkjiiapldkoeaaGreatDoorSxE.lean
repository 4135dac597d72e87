/- A framework of our own, part E: equality of structs whose cells are numbers, strings and Bools. No condition. -/
import Derived.Test.YtfkjiiapldkoeaaGreatDoorSxU
set_option linter.unusedVariables false
set_option linter.unusedSimpArgs false
set_option linter.deprecated false
namespace Go.Sx
section
variable {P:Program} {h:Hp}
def LI:Value→Value→Bool
 | .int _ a,.int _ b=>a==b
 | .string a,.string b=>a==b
 | .bool a,.bool b=>a==b
 | _,_=>false
def Kj (d:TypeDesc) (x y:Value):Bool :=
 match d,x,y with
 | .int _,.int k _,.int k' _=>decide (k=k')
 | .string,.string _,.string _=>true
 | .bool,.bool _,.bool _=>true
 | _,_,_=>false
theorem yM {d:Nat} {t:TypeId} {dd:TypeDesc} {x y:Value} (ht:P.underlying t=some dd) (hc:Kj dd x y=true) (K:Bool→Hp→Prop):aD P (Op.equalIn (d+1) t x y) h K=K (LI x y) h:=by
 unfold Op.equalIn;rw [aj,ay ht];cases dd <;> cases x <;> cases y <;> first | (simp [Kj] at hc; done) | skip
 ·rfl
 ·simp only [Kj,decide_eq_true_eq] at hc;subst hc;simp only [if_true] <;> rfl
 ·rfl
theorem yA {t:TypeId} (hb:cj P t=some false) {cs:Array Value} {off:Nat} {v:Value} (hv:cs[off]?=some v) (K:Value→Hp→Prop):aD P (part t cs off) h K=K v h:=by
 unfold part;rw [aj,gF hb];simp only [Bool.false_eq_true,if_false,hv] <;> rfl
def okF (P:Program) (xs ys:Array Value) (f:Field):Bool :=
 match P.underlying f.type,xs[f.offset]?,ys[f.offset]? with
 | some d, some x, some y => Kj d x y && (f.name != "_")
 | _,_,_=>false
def FQ (xs ys:Array Value) (f:Field):Bool:=LI (xs[f.offset]?.getD .nilIface) (ys[f.offset]?.getD .nilIface)
theorem Hj {xs ys : Array Value} {f : Field} (h : okF P xs ys f = true) : ∃ dd x y, P.underlying f.type = some dd ∧ xs[f.offset]? = some x ∧ ys[f.offset]? = some y ∧ Kj dd x y = true ∧ f.name ≠ "_" ∧ cj P f.type = some false := by
 unfold okF at h;split at h
 ·rename_i dd x y h1 h2 h3;simp only [Bool.and_eq_true,bne_iff_ne] at h;refine ⟨dd,x,y,h1,h2,h3,h.1,h.2,?_⟩;unfold cj;rw [h1]
  have:=h.1
  cases dd <;> first | rfl | (simp [Kj] at this)
 ·cases h
theorem mV {d:Nat} {xs ys:Array Value}:∀ (l:List Field),l.all (okF P xs ys)=true→∀ (K:(Option Bool × Unit)→Hp→Prop),
  aD P (forIn l ((none,()):Option Bool × Unit) fun f __s =>
     if f.name ≠ "_" then do
        let __do_lift ← part f.type xs f.offset
        let __do_lift_1 ← part f.type ys f.offset
        let __do_lift ← Op.equalIn (d+1) f.type __do_lift __do_lift_1
        if (!__do_lift)=true then pure (ForInStep.done ((some false,()):Option Bool × Unit))
         else pure (ForInStep.yield (none,()))
     else pure (ForInStep.yield (none,()))) h K=K (if l.all (FQ xs ys) then (none,()) else (some false,())) h
 | [],_,K=>rfl
 | f::l,hl,K=>by
  rw [List.all_cons,Bool.and_eq_true] at hl;obtain ⟨dd,x,y,h1,h2,h3,h4,h5,h6⟩:=Hj hl.1;rw [List.forIn_cons,aj,if_pos h5,aj,yA h6 h2,aj,yA h6 h3,aj,yM h1 h4];have he:FQ xs ys f=LI x y:=by unfold FQ; rw [h2,h3]; rfl
  rw [List.all_cons,he];cases hq:LI x y with
  | false=>rfl
  | true =>
   simp only [Bool.not_true,Bool.false_eq_true,if_false,Bool.true_and];rw [DS];exact mV l hl.2 K
theorem uC {d:Nat} {t:TypeId} {fs:Array Field} {xs ys:Array Value} (ht:P.underlying t=some (.struct fs)) (hst:P.stoodInHeld t=false) (hok:fs.all (okF P xs ys)=true) (K:Bool→Hp→Prop) :
  aD P (Op.equalIn (d+2) t (.agg xs) (.agg ys)) h K=K (fs.all (FQ xs ys)) h:=by
 unfold Op.equalIn;rw [aj,ay ht];simp only;rw [dr];simp only [hst,Bool.false_eq_true,if_false];rw [aj,← Array.forIn_toList,mV fs.toList (by rw [Array.all_toList]; exact hok),Array.all_toList]
 all_goals (cases fs.all (FQ xs ys) <;> rfl)
theorem nC {op : BinOp} {t : TypeId} {x y : Operand} {xs ys : Array Value} (hg : P.eqGuardType P.depth t = false) (K : Unit → Hp → Prop) (hk : K () h) : aD P (eqGuard op t x y (.agg xs) (.agg ys)) h K := by
  unfold eqGuard
  cases op <;> first
    | exact hk
    | (simp only [Bool.not_true, Bool.false_eq_true, if_false]
       show aD P (program >>= _) h K;rw [dr, dr];simp only [hg, Bool.not_false, if_true];exact hk)
theorem qw {t:TypeId} {fs:Array Field} {xs ys:Array Value} (ht:P.underlying t=some (.struct fs)) (hst:P.stoodInHeld t=false) (hok:fs.all (okF P xs ys)=true) (K:Bool→Hp→Prop) :
  aD P (Op.equal t (.agg xs) (.agg ys)) h K=K (fs.all (FQ xs ys)) h:=uC (d:=9998) ht hst hok K
theorem zD {t:TypeId} {x y:Operand} {fs:Array Field} {xs ys:Array Value} (ht:P.underlying t=some (.struct fs)) (hst:P.stoodInHeld t=false) (hg:P.eqGuardType P.depth t=false) (hok:fs.all (okF P xs ys)=true) (K:Value→Hp→Prop) (hk:K (.bool !(fs.all (FQ xs ys))) h) :
  aD P (bM .neq t x y (.agg xs) (.agg ys)) h K:=by
 unfold bM;rw [aj];refine nC hg _ ?_;unfold binOp;simp only
 first
  | (rw [aj,qw ht hst hok]; exact hk)
  | trace_state
theorem Fo {t:TypeId} {x y:Operand} {fs:Array Field} {xs ys:Array Value} (ht:P.underlying t=some (.struct fs)) (hst:P.stoodInHeld t=false) (hg:P.eqGuardType P.depth t=false) (hok:fs.all (okF P xs ys)=true) (K:Value→Hp→Prop) (hk:K (.bool (fs.all (FQ xs ys))) h) :
  aD P (bM .eql t x y (.agg xs) (.agg ys)) h K:=by
 unfold bM;rw [aj];refine nC hg _ ?_;unfold binOp;simp only
 first
  | (rw [aj,qw ht hst hok]; exact hk)
  | trace_state
end
end Go.Sx
