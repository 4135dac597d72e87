/- Part of the framework. No condition. -/
import Derived.Test.YthbffkdafjboiaaGreatDoorSxU
set_option linter.all false
set_option maxHeartbeats 4000000
namespace Go.Sx
section
variable {P:Program} {h:Hp}
def WR:Xab->Xab->Bool
 | .int _ a,.int _ b=>a==b
 | .string a,.string b=>a==b
 | .bool a,.bool b=>a==b
 | _,_=>false
def Sh (d:TypeDesc) (x y:Xab):Bool :=
 match d,x,y with
 | .int _,.int k _,.int k' _=>decide (k=k')
 | .string,.string _,.string _=>true
 | .bool,.bool _,.bool _=>true
 | _,_,_=>false
def DV {d:Nat} {t:TypeId} {dd:TypeDesc} {x y:Xab} (j:P.underlying t=some dd) (hc:Sh dd x y=true) (K:Bool->Hp->Prop):aU P (Op.equalIn (d+1) t x y) h K=K (WR x y) h:=by
 unfold Op.equalIn;rw [ao,aF j];cases dd <;> cases x <;> cases y <;> first | (simp [Sh] at hc; done) | skip
 ·rfl
 ·simp only [Sh,decide_eq_true_eq] at hc;subst hc;simp only [if_true] <;> rfl
 ·rfl
def CB {t:TypeId} (d:cH P t=some false) {cs:Array Xab} {off:Nat} {v:Xab} (hv:cs[off]?=some v) (K:Xab->Hp->Prop):aU P (part t cs off) h K=K v h:=by
 unfold part;rw [ao,jI d];simp only [Bool.false_eq_true,if_false,hv] <;> rfl
def okF (P:Program) (xs ys:Array Xab) (f:Field):Bool :=
 match P.underlying f.type,xs[f.offset]?,ys[f.offset]? with
 | some d, some x, some y => Sh d x y && (f.name != "_")
 | _,_,_=>false
def H4 (xs ys:Array Xab) (f:Field):Bool:=WR (xs[f.offset]?.getD .nilIface) (ys[f.offset]?.getD .nilIface)
def FB {xs ys : Array Xab} {f : Field} (h : okF P xs ys f = true) : ∃ dd x y, P.underlying f.type = some dd /\ xs[f.offset]? = some x /\ ys[f.offset]? = some y /\ Sh dd x y = true /\ f.name ≠ "_" /\ cH P f.type = some false := by
 unfold okF at h;split at h
 ·rename_i dd x y h1 h2 h3;simp only [Bool.and_eq_true,bne_iff_ne] at h;refine ⟨dd,x,y,h1,h2,h3,h.1,h.2,?_⟩;unfold cH;rw [h1]
  have:=h.1
  cases dd <;> first | rfl | (simp [Sh] at this)
 ·cases h
theorem rj {d:Nat} {xs ys:Array Xab}:∀ (l:List Field),l.all (okF P xs ys)=true->∀ (K:(Option Bool × Unit)->Hp->Prop),
  aU P (forIn l ((none,()):Option Bool × Unit) fun f __s =>
     if f.name ≠ "_" then do
        let __do_lift <- part f.type xs f.offset
        let __do_lift_1 <- part f.type ys f.offset
        let __do_lift <- Op.equalIn (d+1) f.type __do_lift __do_lift_1
        if (!__do_lift)=true then pure (ForInStep.done ((some false,()):Option Bool × Unit))
         else pure (ForInStep.yield (none,()))
     else pure (ForInStep.yield (none,()))) h K=K (if l.all (H4 xs ys) then (none,()) else (some false,())) h
 | [],_,K=>rfl
 | f::l,hl,K=>by
  rw [bd9,YZ] at hl;obtain ⟨dd,x,y,h1,h2,h3,h4,h5,h6⟩:=FB hl.1;rw [List.forIn_cons,ao,YC h5,ao,CB h6 h2,ao,CB h6 h3,ao,DV h1 h4];have j:H4 xs ys f=WR x y:=by unfold H4; rw [h2,h3]; rfl
  rw [bd9,j];cases u:WR x y with
  | false=>rfl
  | true =>
   simp only [Bool.not_true,Bool.false_eq_true,if_false,Bool.true_and];rw [KQ];exact rj l hl.2 K
def Ad {d:Nat} {t:TypeId} {fs:Array Field} {xs ys:Array Xab} (F:P.underlying t=some (.struct fs)) (j:P.stoodInHeld t=false) (u:fs.all (okF P xs ys)=true) (K:Bool->Hp->Prop) :
  aU P (Op.equalIn (d+2) t (.agg xs) (.agg ys)) h K=K (fs.all (H4 xs ys)) h:=by
 unfold Op.equalIn;rw [ao,aF F];simp only;rw [fp];simp only [j,Bool.false_eq_true,if_false];rw [ao,<- Array.forIn_toList,rj fs.toList (by rw [ZV]; exact u),ZV]
 all_goals (cases fs.all (H4 xs ys) <;> rfl)
def rS {op : BinOp} {t : TypeId} {x y : Operand} {xs ys : Array Xab} (d : P.eqGuardType P.depth t = false) (K : Unit -> Hp -> Prop) (hk : K () h) : aU P (eqGuard op t x y (.agg xs) (.agg ys)) h K := by
  unfold eqGuard
  cases op <;> first
    | exact hk
    | (simp only [Bool.not_true, Bool.false_eq_true, if_false]
       show aU P (program >>= _) h K;rw [fp, fp];simp only [d, Bool.not_false, if_true];exact hk)
def pX {t:TypeId} {fs:Array Field} {xs ys:Array Xab} (F:P.underlying t=some (.struct fs)) (j:P.stoodInHeld t=false) (u:fs.all (okF P xs ys)=true) (K:Bool->Hp->Prop) :
  aU P (Op.equal t (.agg xs) (.agg ys)) h K=K (fs.all (H4 xs ys)) h:=Ad (d:=9998) F j u K
def zm {t:TypeId} {x y:Operand} {fs:Array Field} {xs ys:Array Xab} (u:P.underlying t=some (.struct fs)) (d:P.stoodInHeld t=false) (F:P.eqGuardType P.depth t=false) (j:fs.all (okF P xs ys)=true) (K:Xab->Hp->Prop) (hk:K (.bool !(fs.all (H4 xs ys))) h) :
  aU P (kw .neq t x y (.agg xs) (.agg ys)) h K:=by
 unfold kw;rw [ao];refine rS F _ ?_;unfold binOp;simp only
 first
  | (rw [ao,pX u d j]; exact hk)
  | trace_state
def E1 {t:TypeId} {x y:Operand} {fs:Array Field} {xs ys:Array Xab} (u:P.underlying t=some (.struct fs)) (d:P.stoodInHeld t=false) (F:P.eqGuardType P.depth t=false) (j:fs.all (okF P xs ys)=true) (K:Xab->Hp->Prop) (hk:K (.bool (fs.all (H4 xs ys))) h) :
  aU P (kw .eql t x y (.agg xs) (.agg ys)) h K:=by
 unfold kw;rw [ao];refine rS F _ ?_;unfold binOp;simp only
 first
  | (rw [ao,pX u d j]; exact hk)
  | trace_state
end
end Go.Sx
