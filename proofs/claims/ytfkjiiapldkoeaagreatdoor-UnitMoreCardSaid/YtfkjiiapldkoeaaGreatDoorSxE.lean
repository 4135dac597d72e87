/- A framework of our own, part E: equality of structs whose cells are numbers, strings and Bools. No condition. -/
import Derived.Test.YtfkjiiapldkoeaaGreatDoorSxU
set_option linter.unusedVariables false
set_option linter.unusedSimpArgs false
set_option linter.deprecated false
namespace Go.Sx
section
variable {P:Program} {h:Hp}
def KW:Value→Value→Bool
 | .int _ a,.int _ b=>a==b
 | .string a,.string b=>a==b
 | .bool a,.bool b=>a==b
 | _,_=>false
def JF (d:TypeDesc) (x y:Value):Bool :=
 match d,x,y with
 | .int _,.int k _,.int k' _=>decide (k=k')
 | .string,.string _,.string _=>true
 | .bool,.bool _,.bool _=>true
 | _,_,_=>false
theorem yG {d:Nat} {t:TypeId} {dd:TypeDesc} {x y:Value} (ht:P.underlying t=some dd) (hc:JF dd x y=true) (K:Bool→Hp→Prop):aE P (Op.equalIn (d+1) t x y) h K=K (KW x y) h:=by
 unfold Op.equalIn;rw [aj,az ht];cases dd <;> cases x <;> cases y <;> first | (simp [JF] at hc; done) | skip
 ·rfl
 ·simp only [JF,decide_eq_true_eq] at hc;subst hc;simp only [if_true] <;> rfl
 ·rfl
theorem xg {t:TypeId} (hb:bY P t=some false) {cs:Array Value} {off:Nat} {v:Value} (hv:cs[off]?=some v) (K:Value→Hp→Prop):aE P (part t cs off) h K=K v h:=by
 unfold part;rw [aj,gj hb];simp only [Bool.false_eq_true,if_false,hv] <;> rfl
def okF (P:Program) (xs ys:Array Value) (f:Field):Bool :=
 match P.underlying f.type,xs[f.offset]?,ys[f.offset]? with
 | some d, some x, some y => JF d x y && (f.name != "_")
 | _,_,_=>false
def F9 (xs ys:Array Value) (f:Field):Bool:=KW (xs[f.offset]?.getD .nilIface) (ys[f.offset]?.getD .nilIface)
theorem GB {xs ys : Array Value} {f : Field} (h : okF P xs ys f = true) : ∃ dd x y, P.underlying f.type = some dd ∧ xs[f.offset]? = some x ∧ ys[f.offset]? = some y ∧ JF dd x y = true ∧ f.name ≠ "_" ∧ bY P f.type = some false := by
 unfold okF at h;split at h
 ·rename_i dd x y h1 h2 h3;simp only [Bool.and_eq_true,bne_iff_ne] at h;refine ⟨dd,x,y,h1,h2,h3,h.1,h.2,?_⟩;unfold bY;rw [h1]
  have:=h.1
  cases dd <;> first | rfl | (simp [JF] at this)
 ·cases h
theorem me {d:Nat} {xs ys:Array Value}:∀ (l:List Field),l.all (okF P xs ys)=true→∀ (K:(Option Bool × Unit)→Hp→Prop),
  aE P (forIn l ((none,()):Option Bool × Unit) fun f __s =>
     if f.name ≠ "_" then do
        let __do_lift ← part f.type xs f.offset
        let __do_lift_1 ← part f.type ys f.offset
        let __do_lift ← Op.equalIn (d+1) f.type __do_lift __do_lift_1
        if (!__do_lift)=true then pure (ForInStep.done ((some false,()):Option Bool × Unit))
         else pure (ForInStep.yield (none,()))
     else pure (ForInStep.yield (none,()))) h K=K (if l.all (F9 xs ys) then (none,()) else (some false,())) h
 | [],_,K=>rfl
 | f::l,hl,K=>by
  rw [List.all_cons,Bool.and_eq_true] at hl;obtain ⟨dd,x,y,h1,h2,h3,h4,h5,h6⟩:=GB hl.1;rw [List.forIn_cons,aj,if_pos h5,aj,xg h6 h2,aj,xg h6 h3,aj,yG h1 h4];have he:F9 xs ys f=KW x y:=by unfold F9; rw [h2,h3]; rfl
  rw [List.all_cons,he];cases hq:KW x y with
  | false=>rfl
  | true =>
   simp only [Bool.not_true,Bool.false_eq_true,if_false,Bool.true_and];rw [Dp];exact me l hl.2 K
theorem ul {d:Nat} {t:TypeId} {fs:Array Field} {xs ys:Array Value} (ht:P.underlying t=some (.struct fs)) (hst:P.stoodInHeld t=false) (hok:fs.all (okF P xs ys)=true) (K:Bool→Hp→Prop) :
  aE P (Op.equalIn (d+2) t (.agg xs) (.agg ys)) h K=K (fs.all (F9 xs ys)) h:=by
 unfold Op.equalIn;rw [aj,az ht];simp only;rw [di];simp only [hst,Bool.false_eq_true,if_false];rw [aj,← Array.forIn_toList,me fs.toList (by rw [Array.all_toList]; exact hok),Array.all_toList]
 all_goals (cases fs.all (F9 xs ys) <;> rfl)
theorem mh {op : BinOp} {t : TypeId} {x y : Operand} {xs ys : Array Value} (hg : P.eqGuardType P.depth t = false) (K : Unit → Hp → Prop) (hk : K () h) : aE P (eqGuard op t x y (.agg xs) (.agg ys)) h K := by
  unfold eqGuard
  cases op <;> first
    | exact hk
    | (simp only [Bool.not_true, Bool.false_eq_true, if_false]
       show aE P (program >>= _) h K;rw [di, di];simp only [hg, Bool.not_false, if_true];exact hk)
theorem qZ {t:TypeId} {fs:Array Field} {xs ys:Array Value} (ht:P.underlying t=some (.struct fs)) (hst:P.stoodInHeld t=false) (hok:fs.all (okF P xs ys)=true) (K:Bool→Hp→Prop) :
  aE P (Op.equal t (.agg xs) (.agg ys)) h K=K (fs.all (F9 xs ys)) h:=ul (d:=9998) ht hst hok K
theorem AJ {t:TypeId} {x y:Operand} {fs:Array Field} {xs ys:Array Value} (ht:P.underlying t=some (.struct fs)) (hst:P.stoodInHeld t=false) (hg:P.eqGuardType P.depth t=false) (hok:fs.all (okF P xs ys)=true) (K:Value→Hp→Prop) (hk:K (.bool !(fs.all (F9 xs ys))) h) :
  aE P (bJ .neq t x y (.agg xs) (.agg ys)) h K:=by
 unfold bJ;rw [aj];refine mh hg _ ?_;unfold binOp;simp only
 first
  | (rw [aj,qZ ht hst hok]; exact hk)
  | trace_state
theorem GG {t:TypeId} {x y:Operand} {fs:Array Field} {xs ys:Array Value} (ht:P.underlying t=some (.struct fs)) (hst:P.stoodInHeld t=false) (hg:P.eqGuardType P.depth t=false) (hok:fs.all (okF P xs ys)=true) (K:Value→Hp→Prop) (hk:K (.bool (fs.all (F9 xs ys))) h) :
  aE P (bJ .eql t x y (.agg xs) (.agg ys)) h K:=by
 unfold bJ;rw [aj];refine mh hg _ ?_;unfold binOp;simp only
 first
  | (rw [aj,qZ ht hst hok]; exact hk)
  | trace_state
end
end Go.Sx
