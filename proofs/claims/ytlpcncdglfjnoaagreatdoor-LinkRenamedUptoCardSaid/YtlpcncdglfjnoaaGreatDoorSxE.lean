/- Part of the framework. No condition. -/
import Derived.Test.YtlpcncdglfjnoaaGreatDoorSxU
set_option linter.all false
set_option maxHeartbeats 4000000
namespace Go.Sx
section
variable {P:Program} {h:Hp}
def TQ:XB->XB->Bool
 | .int _ a,.int _ b=>a==b
 | .string a,.string b=>a==b
 | .bool a,.bool b=>a==b
 | _,_=>false
def Pz (d:TypeDesc) (x y:XB):Bool :=
 match d,x,y with
 | .int _,.int k _,.int k' _=>decide (k=k')
 | .string,.string _,.string _=>true
 | .bool,.bool _,.bool _=>true
 | _,_,_=>false
variable {H:TypeId}
def CQ {d:Nat} {dd:TypeDesc} {x y:XB} (a:P.underlying H=some dd) (hc:Pz dd x y=true) (K:Bool->Hp->Prop):aI P (Op.equalIn (d+1) H x y) h K=K (TQ x y) h:=by
 unfold Op.equalIn;rw [al,au a];cases dd <;> cases x <;> cases y <;> first | (simp [Pz] at hc; done) | skip
 ·rfl
 ·simp only [Pz,decide_eq_true_eq] at hc;subst hc;simp only [if_true] <;> rfl
 ·rfl
def Bu (a:cB P H=some false) {cs:Array XB} {off:Nat} {v:XB} (hv:cs[off]?=some v) (K:XB->Hp->Prop):aI P (part H cs off) h K=K v h:=by
 unfold part;rw [al,je a];simp only [Bool.false_eq_true,if_false,hv] <;> rfl
def okF (P:Program) (xs a:Array XB) (f:Field):Bool :=
 match P.underlying f.type,xs[f.offset]?,a[f.offset]? with
 | some d, some x, some y => Pz d x y && (f.name != "_")
 | _,_,_=>false
def GX (xs a:Array XB) (f:Field):Bool:=TQ (xs[f.offset]?.getD .nilIface) (a[f.offset]?.getD .nilIface)
variable {I:Array XB}
def Ee {xs:Array XB} {f : Field} (h : okF P xs I f = true) : ∃ dd x y, P.underlying f.type = some dd /\ xs[f.offset]? = some x /\ I[f.offset]? = some y /\ Pz dd x y = true /\ f.name ≠ "_" /\ cB P f.type = some false := by
 unfold okF at h;split at h
 ·rename_i dd x y h1 h2 a;simp only [Bool.and_eq_true,bne_iff_ne] at h;refine ⟨dd,x,y,h1,h2,a,h.1,h.2,?_⟩;unfold cB;rw [h1]
  have:=h.1
  cases dd <;> first | rfl | (simp [Pz] at this)
 ·cases h
theorem qj {d:Nat} {xs a:Array XB}:∀ (l:List Field),l.all (okF P xs a)=true->∀ (K:(Option Bool × Unit)->Hp->Prop),
  aI P (forIn l ((none,()):Option Bool × Unit) fun f __s =>
     if f.name ≠ "_" then do
        let __do_lift <- part f.type xs f.offset
        let __do_lift_1 <- part f.type a f.offset
        let __do_lift <- Op.equalIn (d+1) f.type __do_lift __do_lift_1
        if (!__do_lift)=true then pure (ForInStep.done ((some false,()):Option Bool × Unit))
         else pure (ForInStep.yield (none,()))
     else pure (ForInStep.yield (none,()))) h K=K (if l.all (GX xs a) then (none,()) else (some false,())) h
 | [],_,K=>rfl
 | f::l,hl,K=>by
  rw [W8,VJ] at hl;obtain ⟨dd,x,y,h1,h2,b,e,g,c⟩:=Ee hl.1;rw [List.forIn_cons,al,VE g,al,Bu c h2,al,Bu c b,al,CQ h1 e];have i:GX xs a f=TQ x y:=by unfold GX; rw [h2,b]; rfl
  rw [W8,i];cases j:TQ x y with
  | false=>rfl
  | true =>
   simp only [Bool.not_true,Bool.false_eq_true,if_false,Bool.true_and];rw [Jh];exact qj l hl.2 K
variable {O:Array Field}
def zn {d:Nat} {xs:Array XB} (c:P.underlying H=some (.struct O)) (a:P.stoodInHeld H=false) (b:O.all (okF P xs I)=true) (K:Bool->Hp->Prop) :
  aI P (Op.equalIn (d+2) H (.agg xs) (.agg I)) h K=K (O.all (GX xs I)) h:=by
 unfold Op.equalIn;rw [al,au c];simp only;rw [eY];simp only [a,Bool.false_eq_true,if_false];rw [al,<- Array.forIn_toList,qj O.toList (by rw [WK]; exact b),WK]
 all_goals (cases O.all (GX xs I) <;> rfl)
variable {U V:Operand}
def qQ {op : BinOp} {xs:Array XB} (a : P.eqGuardType P.depth H = false) (K : Unit -> Hp -> Prop) (hk : K () h) : aI P (eqGuard op H U V (.agg xs) (.agg I)) h K := by
  unfold eqGuard
  cases op <;> first
    | exact hk
    | (simp only [Bool.not_true, Bool.false_eq_true, if_false]
       show aI P (program >>= _) h K;rw [eY, eY];simp only [a, Bool.not_false, if_true];exact hk)
def oS {xs:Array XB} (c:P.underlying H=some (.struct O)) (a:P.stoodInHeld H=false) (b:O.all (okF P xs I)=true) (K:Bool->Hp->Prop) :
  aI P (Op.equal H (.agg xs) (.agg I)) h K=K (O.all (GX xs I)) h:=zn (d:=9998) c a b K
def yD {xs:Array XB} (c:P.underlying H=some (.struct O)) (a:P.stoodInHeld H=false) (d:P.eqGuardType P.depth H=false) (b:O.all (okF P xs I)=true) (K:XB->Hp->Prop) (hk:K (.bool !(O.all (GX xs I))) h) :
  aI P (j6 .neq H U V (.agg xs) (.agg I)) h K:=by
 unfold j6;rw [al];refine qQ d _ ?_;unfold binOp;simp only
 first
  | (rw [al,oS c a b]; exact hk)
  | trace_state
def DO {xs:Array XB} (c:P.underlying H=some (.struct O)) (a:P.stoodInHeld H=false) (d:P.eqGuardType P.depth H=false) (b:O.all (okF P xs I)=true) (K:XB->Hp->Prop) (hk:K (.bool (O.all (GX xs I))) h) :
  aI P (j6 .eql H U V (.agg xs) (.agg I)) h K:=by
 unfold j6;rw [al];refine qQ d _ ?_;unfold binOp;simp only
 first
  | (rw [al,oS c a b]; exact hk)
  | trace_state
end
end Go.Sx
