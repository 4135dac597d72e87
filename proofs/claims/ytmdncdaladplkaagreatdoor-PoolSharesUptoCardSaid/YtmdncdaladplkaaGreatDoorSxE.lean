/- Part of the framework. No condition. -/
import Derived.Test.YtmdncdaladplkaaGreatDoorSxU
set_option linter.all false
set_option maxHeartbeats 4000000
namespace Go.Sx
section
variable {P:Program} {h:Hp}
def Ur:Xab->Xab->Bool
 | .int _ a,.int _ b=>a==b
 | .string a,.string b=>a==b
 | .bool a,.bool b=>a==b
 | _,_=>false
def RV (d:TypeDesc) (x y:Xab):Bool :=
 match d,x,y with
 | .int _,.int k _,.int k' _=>decide (k=k')
 | .string,.string _,.string _=>true
 | .bool,.bool _,.bool _=>true
 | _,_,_=>false
variable {H:TypeId}
def qJ {d:Nat} {dd:TypeDesc} {x y:Xab} (ht:P.underlying H=some dd) (hc:RV dd x y=true) (K:Bool->Hp->Prop):aS P (Op.equalIn (d+1) H x y) h K=K (Ur x y) h:=by
 unfold Op.equalIn;rw [av,aC ht];cases dd <;> cases x <;> cases y <;> first | (simp [RV] at hc; done) | skip
 ·rfl
 ·simp only [RV,decide_eq_true_eq] at hc;subst hc;simp only [if_true] <;> rfl
 ·rfl
def lR (a:cH P H=some false) {cs:Array Xab} {off:Nat} {v:Xab} (hv:cs[off]?=some v) (K:Xab->Hp->Prop):aS P (part H cs off) h K=K v h:=by
 unfold part;rw [av,jY a];simp only [Bool.false_eq_true,if_false,hv] <;> rfl
def okF (P:Program) (xs ys:Array Xab) (f:Field):Bool :=
 match P.underlying f.type,xs[f.offset]?,ys[f.offset]? with
 | some d, some x, some y => RV d x y && (f.name != "_")
 | _,_,_=>false
def HZ (xs ys:Array Xab) (f:Field):Bool:=Ur (xs[f.offset]?.getD .nilIface) (ys[f.offset]?.getD .nilIface)
def G2 {xs ys : Array Xab} {f : Field} (h : okF P xs ys f = true) : ∃ dd x y, P.underlying f.type = some dd /\ xs[f.offset]? = some x /\ ys[f.offset]? = some y /\ RV dd x y = true /\ f.name ≠ "_" /\ cH P f.type = some false := by
 unfold okF at h;split at h
 ·rename_i dd x y h1 h2 a;simp only [Bool.and_eq_true,bne_iff_ne] at h;refine ⟨dd,x,y,h1,h2,a,h.1,h.2,?_⟩;unfold cH;rw [h1]
  have:=h.1
  cases dd <;> first | rfl | (simp [RV] at this)
 ·cases h
theorem r7 {d:Nat} {xs ys:Array Xab}:∀ (l:List Field),l.all (okF P xs ys)=true->∀ (K:(Option Bool × Unit)->Hp->Prop),
  aS P (forIn l ((none,()):Option Bool × Unit) fun f __s =>
     if f.name ≠ "_" then do
        let __do_lift <- part f.type xs f.offset
        let __do_lift_1 <- part f.type ys f.offset
        let __do_lift <- Op.equalIn (d+1) f.type __do_lift __do_lift_1
        if (!__do_lift)=true then pure (ForInStep.done ((some false,()):Option Bool × Unit))
         else pure (ForInStep.yield (none,()))
     else pure (ForInStep.yield (none,()))) h K=K (if l.all (HZ xs ys) then (none,()) else (some false,())) h
 | [],_,K=>rfl
 | f::l,hl,K=>by
  rw [ff9,bm9] at hl;obtain ⟨dd,x,y,h1,h2,a,c,e,b⟩:=G2 hl.1;rw [List.forIn_cons,av,ag9 e,av,lR b h2,av,lR b a,av,qJ h1 c];have g:HZ xs ys f=Ur x y:=by unfold HZ; rw [h2,a]; rfl
  rw [ff9,g];cases i:Ur x y with
  | false=>rfl
  | true =>
   simp only [Bool.not_true,Bool.false_eq_true,if_false,Bool.true_and];rw [DV];exact r7 l hl.2 K
variable {O:Array Field}
def Bm {d:Nat} {xs ys:Array Xab} (ht:P.underlying H=some (.struct O)) (a:P.stoodInHeld H=false) (b:O.all (okF P xs ys)=true) (K:Bool->Hp->Prop) :
  aS P (Op.equalIn (d+2) H (.agg xs) (.agg ys)) h K=K (O.all (HZ xs ys)) h:=by
 unfold Op.equalIn;rw [av,aC ht];simp only;rw [fM];simp only [a,Bool.false_eq_true,if_false];rw [av,<- Array.forIn_toList,r7 O.toList (by rw [dd9]; exact b),dd9]
 all_goals (cases O.all (HZ xs ys) <;> rfl)
variable {U V:Operand}
def sV {op : BinOp} {xs ys : Array Xab} (a : P.eqGuardType P.depth H = false) (K : Unit -> Hp -> Prop) (hk : K () h) : aS P (eqGuard op H U V (.agg xs) (.agg ys)) h K := by
  unfold eqGuard
  cases op <;> first
    | exact hk
    | (simp only [Bool.not_true, Bool.false_eq_true, if_false]
       show aS P (program >>= _) h K;rw [fM, fM];simp only [a, Bool.not_false, if_true];exact hk)
def gW {xs ys:Array Xab} (ht:P.underlying H=some (.struct O)) (a:P.stoodInHeld H=false) (b:O.all (okF P xs ys)=true) (K:Bool->Hp->Prop) :
  aS P (Op.equal H (.agg xs) (.agg ys)) h K=K (O.all (HZ xs ys)) h:=Bm (d:=9998) ht a b K
def AB {xs ys:Array Xab} (ht:P.underlying H=some (.struct O)) (a:P.stoodInHeld H=false) (c:P.eqGuardType P.depth H=false) (b:O.all (okF P xs ys)=true) (K:Xab->Hp->Prop) (hk:K (.bool !(O.all (HZ xs ys))) h) :
  aS P (lW .neq H U V (.agg xs) (.agg ys)) h K:=by
 unfold lW;rw [av];refine sV c _ ?_;unfold binOp;simp only
 first
  | (rw [av,gW ht a b]; exact hk)
  | trace_state
def Gy {xs ys:Array Xab} (ht:P.underlying H=some (.struct O)) (a:P.stoodInHeld H=false) (c:P.eqGuardType P.depth H=false) (b:O.all (okF P xs ys)=true) (K:Xab->Hp->Prop) (hk:K (.bool (O.all (HZ xs ys))) h) :
  aS P (lW .eql H U V (.agg xs) (.agg ys)) h K:=by
 unfold lW;rw [av];refine sV c _ ?_;unfold binOp;simp only
 first
  | (rw [av,gW ht a b]; exact hk)
  | trace_state
end
end Go.Sx
