/- Part of the framework. No condition. -/
import Derived.Test.YtlpcncdglfjnoaaGreatDoorSxU
set_option linter.all false
set_option maxHeartbeats 4000000
namespace Go.Sx
section
variable {P:Program} {h:Hp}
def Xn:Xab->Xab->Bool
 | .int _ a,.int _ b=>a==b
 | .string a,.string b=>a==b
 | .bool a,.bool b=>a==b
 | _,_=>false
def S6 (d:TypeDesc) (x y:Xab):Bool :=
 match d,x,y with
 | .int _,.int k _,.int k' _=>decide (k=k')
 | .string,.string _,.string _=>true
 | .bool,.bool _,.bool _=>true
 | _,_,_=>false
variable {H:TypeId}
def EV {d:Nat} {dd:TypeDesc} {x y:Xab} (a:P.underlying H=some dd) (hc:S6 dd x y=true) (K:Bool->Hp->Prop):aZ P (Op.equalIn (d+1) H x y) h K=K (Xn x y) h:=by
 unfold Op.equalIn;rw [an,aE a];cases dd <;> cases x <;> cases y <;> first | (simp [S6] at hc; done) | skip
 ·rfl
 ·simp only [S6,decide_eq_true_eq] at hc;subst hc;simp only [if_true] <;> rfl
 ·rfl
def Ds (a:cP P H=some false) {cs:Array Xab} {off:Nat} {v:Xab} (hv:cs[off]?=some v) (K:Xab->Hp->Prop):aZ P (part H cs off) h K=K v h:=by
 unfold part;rw [an,j7 a];simp only [Bool.false_eq_true,if_false,hv] <;> rfl
def okF (P:Program) (a b:Array Xab) (f:Field):Bool :=
 match P.underlying f.type,a[f.offset]?,b[f.offset]? with
 | some d, some x, some y => S6 d x y && (f.name != "_")
 | _,_,_=>false
def HB (a b:Array Xab) (f:Field):Bool:=Xn (a[f.offset]?.getD .nilIface) (b[f.offset]?.getD .nilIface)
variable {I O:Array Xab}
def Gx {f : Field} (h : okF P I O f = true) : ∃ dd x y, P.underlying f.type = some dd /\ I[f.offset]? = some x /\ O[f.offset]? = some y /\ S6 dd x y = true /\ f.name ≠ "_" /\ cP P f.type = some false := by
 unfold okF at h;split at h
 ·rename_i dd x y h1 h2 a;simp only [Bool.and_eq_true,bne_iff_ne] at h;refine ⟨dd,x,y,h1,h2,a,h.1,h.2,?_⟩;unfold cP;rw [h1]
  have:=h.1
  cases dd <;> first | rfl | (simp [S6] at this)
 ·cases h
theorem sM {d:Nat} {a b:Array Xab}:∀ (l:List Field),l.all (okF P a b)=true->∀ (K:(Option Bool × Unit)->Hp->Prop),
  aZ P (forIn l ((none,()):Option Bool × Unit) fun f __s =>
     if f.name ≠ "_" then do
        let __do_lift <- part f.type a f.offset
        let __do_lift_1 <- part f.type b f.offset
        let __do_lift <- Op.equalIn (d+1) f.type __do_lift __do_lift_1
        if (!__do_lift)=true then pure (ForInStep.done ((some false,()):Option Bool × Unit))
         else pure (ForInStep.yield (none,()))
     else pure (ForInStep.yield (none,()))) h K=K (if l.all (HB a b) then (none,()) else (some false,())) h
 | [],_,K=>rfl
 | f::l,hl,K=>by
  rw [ct9,Zz] at hl;obtain ⟨dd,x,y,h1,h2,c,g,i,e⟩:=Gx hl.1;rw [List.forIn_cons,an,Y8 i,an,Ds e h2,an,Ds e c,an,EV h1 g];have j:HB a b f=Xn x y:=by unfold HB; rw [h2,c]; rfl
  rw [ct9,j];cases k:Xn x y with
  | false=>rfl
  | true =>
   simp only [Bool.not_true,Bool.false_eq_true,if_false,Bool.true_and];rw [LZ];exact sM l hl.2 K
variable {U:Array Field}
def A' {d:Nat} (c:P.underlying H=some (.struct U)) (a:P.stoodInHeld H=false) (b:U.all (okF P I O)=true) (K:Bool->Hp->Prop) :
  aZ P (Op.equalIn (d+2) H (.agg I) (.agg O)) h K=K (U.all (HB I O)) h:=by
 unfold Op.equalIn;rw [an,aE c];simp only;rw [fQ];simp only [a,Bool.false_eq_true,if_false];rw [an,<- Array.forIn_toList,sM U.toList (by rw [aj9]; exact b),aj9]
 all_goals (cases U.all (HB I O) <;> rfl)
variable {V Y:Operand}
def tB {op : BinOp} (a : P.eqGuardType P.depth H = false) (K : Unit -> Hp -> Prop) (hk : K () h) : aZ P (eqGuard op H V Y (.agg I) (.agg O)) h K := by
  unfold eqGuard
  cases op <;> first
    | exact hk
    | (simp only [Bool.not_true, Bool.false_eq_true, if_false]
       show aZ P (program >>= _) h K;rw [fQ, fQ];simp only [a, Bool.not_false, if_true];exact hk)
def qY (c:P.underlying H=some (.struct U)) (a:P.stoodInHeld H=false) (b:U.all (okF P I O)=true) (K:Bool->Hp->Prop) :
  aZ P (Op.equal H (.agg I) (.agg O)) h K=K (U.all (HB I O)) h:=A' (d:=9998) c a b K
def rZ (c:P.underlying H=some (.struct U)) (a:P.stoodInHeld H=false) (d:P.eqGuardType P.depth H=false) (b:U.all (okF P I O)=true) (K:Xab->Hp->Prop) (hk:K (.bool !(U.all (HB I O))) h) :
  aZ P (jk .neq H V Y (.agg I) (.agg O)) h K:=by
 unfold jk;rw [an];refine tB d _ ?_;unfold binOp;simp only
 first
  | (rw [an,qY c a b]; exact hk)
  | trace_state
def F6 (c:P.underlying H=some (.struct U)) (a:P.stoodInHeld H=false) (d:P.eqGuardType P.depth H=false) (b:U.all (okF P I O)=true) (K:Xab->Hp->Prop) (hk:K (.bool (U.all (HB I O))) h) :
  aZ P (jk .eql H V Y (.agg I) (.agg O)) h K:=by
 unfold jk;rw [an];refine tB d _ ?_;unfold binOp;simp only
 first
  | (rw [an,qY c a b]; exact hk)
  | trace_state
end
end Go.Sx
