/- Part of the framework. No condition. -/
import Derived.Test.YtmdncdaladplkaaGreatDoorSxU
set_option linter.all false
set_option maxHeartbeats 4000000
namespace Go.Sx
section
variable {P:Program} {h:Hp}
def Y6:Xab->Xab->Bool
 | .int _ a,.int _ b=>a==b
 | .string a,.string b=>a==b
 | .bool a,.bool b=>a==b
 | _,_=>false
def Us (d:TypeDesc) (x y:Xab):Bool :=
 match d,x,y with
 | .int _,.int k _,.int k' _=>decide (k=k')
 | .string,.string _,.string _=>true
 | .bool,.bool _,.bool _=>true
 | _,_,_=>false
variable {H:TypeId}
def Ff {d:Nat} {dd:TypeDesc} {x y:Xab} (ht:P.underlying H=some dd) (hc:Us dd x y=true) (K:Bool->Hp->Prop):aP P (Op.equalIn (d+1) H x y) h K=K (Y6 x y) h:=by
 unfold Op.equalIn;rw [an,az ht];cases dd <;> cases x <;> cases y <;> first | (simp [Us] at hc; done) | skip
 ·rfl
 ·simp only [Us,decide_eq_true_eq] at hc;subst hc;simp only [if_true] <;> rfl
 ·rfl
def DD (a:cK P H=some false) {cs:Array Xab} {off:Nat} {v:Xab} (hv:cs[off]?=some v) (K:Xab->Hp->Prop):aP P (part H cs off) h K=K v h:=by
 unfold part;rw [an,jV a];simp only [Bool.false_eq_true,if_false,hv] <;> rfl
def okF (P:Program) (xs ys:Array Xab) (f:Field):Bool :=
 match P.underlying f.type,xs[f.offset]?,ys[f.offset]? with
 | some d, some x, some y => Us d x y && (f.name != "_")
 | _,_,_=>false
def HW (xs ys:Array Xab) (f:Field):Bool:=Y6 (xs[f.offset]?.getD .nilIface) (ys[f.offset]?.getD .nilIface)
def GX {xs ys : Array Xab} {f : Field} (h : okF P xs ys f = true) : ∃ dd x y, P.underlying f.type = some dd /\ xs[f.offset]? = some x /\ ys[f.offset]? = some y /\ Us dd x y = true /\ f.name ≠ "_" /\ cK P f.type = some false := by
 unfold okF at h;split at h
 ·rename_i dd x y h1 h2 a;simp only [Bool.and_eq_true,bne_iff_ne] at h;refine ⟨dd,x,y,h1,h2,a,h.1,h.2,?_⟩;unfold cK;rw [h1]
  have:=h.1
  cases dd <;> first | rfl | (simp [Us] at this)
 ·cases h
theorem rZ {d:Nat} {xs ys:Array Xab}:∀ (l:List Field),l.all (okF P xs ys)=true->∀ (K:(Option Bool × Unit)->Hp->Prop),
  aP P (forIn l ((none,()):Option Bool × Unit) fun f __s =>
     if f.name ≠ "_" then do
        let __do_lift <- part f.type xs f.offset
        let __do_lift_1 <- part f.type ys f.offset
        let __do_lift <- Op.equalIn (d+1) f.type __do_lift __do_lift_1
        if (!__do_lift)=true then pure (ForInStep.done ((some false,()):Option Bool × Unit))
         else pure (ForInStep.yield (none,()))
     else pure (ForInStep.yield (none,()))) h K=K (if l.all (HW xs ys) then (none,()) else (some false,())) h
 | [],_,K=>rfl
 | f::l,hl,K=>by
  rw [fg9,bk9] at hl;obtain ⟨dd,x,y,h1,h2,a,c,e,b⟩:=GX hl.1;rw [List.forIn_cons,an,af9 e,an,DD b h2,an,DD b a,an,Ff h1 c];have g:HW xs ys f=Y6 x y:=by unfold HW; rw [h2,a]; rfl
  rw [fg9,g];cases i:Y6 x y with
  | false=>rfl
  | true =>
   simp only [Bool.not_true,Bool.false_eq_true,if_false,Bool.true_and];rw [ML];exact rZ l hl.2 K
variable {O:Array Field}
def Be {d:Nat} {xs ys:Array Xab} (ht:P.underlying H=some (.struct O)) (a:P.stoodInHeld H=false) (b:O.all (okF P xs ys)=true) (K:Bool->Hp->Prop) :
  aP P (Op.equalIn (d+2) H (.agg xs) (.agg ys)) h K=K (O.all (HW xs ys)) h:=by
 unfold Op.equalIn;rw [an,az ht];simp only;rw [fG];simp only [a,Bool.false_eq_true,if_false];rw [an,<- Array.forIn_toList,rZ O.toList (by rw [dd9]; exact b),dd9]
 all_goals (cases O.all (HW xs ys) <;> rfl)
variable {U V:Operand}
def sR {op : BinOp} {xs ys : Array Xab} (a : P.eqGuardType P.depth H = false) (K : Unit -> Hp -> Prop) (hk : K () h) : aP P (eqGuard op H U V (.agg xs) (.agg ys)) h K := by
  unfold eqGuard
  cases op <;> first
    | exact hk
    | (simp only [Bool.not_true, Bool.false_eq_true, if_false]
       show aP P (program >>= _) h K;rw [fG, fG];simp only [a, Bool.not_false, if_true];exact hk)
def gH {xs ys:Array Xab} (ht:P.underlying H=some (.struct O)) (a:P.stoodInHeld H=false) (b:O.all (okF P xs ys)=true) (K:Bool->Hp->Prop) :
  aP P (Op.equal H (.agg xs) (.agg ys)) h K=K (O.all (HW xs ys)) h:=Be (d:=9998) ht a b K
def Au {xs ys:Array Xab} (ht:P.underlying H=some (.struct O)) (a:P.stoodInHeld H=false) (c:P.eqGuardType P.depth H=false) (b:O.all (okF P xs ys)=true) (K:Xab->Hp->Prop) (hk:K (.bool !(O.all (HW xs ys))) h) :
  aP P (lX .neq H U V (.agg xs) (.agg ys)) h K:=by
 unfold lX;rw [an];refine sR c _ ?_;unfold binOp;simp only
 first
  | (rw [an,gH ht a b]; exact hk)
  | trace_state
def Gt {xs ys:Array Xab} (ht:P.underlying H=some (.struct O)) (a:P.stoodInHeld H=false) (c:P.eqGuardType P.depth H=false) (b:O.all (okF P xs ys)=true) (K:Xab->Hp->Prop) (hk:K (.bool (O.all (HW xs ys))) h) :
  aP P (lX .eql H U V (.agg xs) (.agg ys)) h K:=by
 unfold lX;rw [an];refine sR c _ ?_;unfold binOp;simp only
 first
  | (rw [an,gH ht a b]; exact hk)
  | trace_state
end
end Go.Sx
