/- Part of the framework. No condition. -/
import Derived.Test.YtmdncdaladplkaaGreatDoorSxX
set_option linter.all false
set_option maxHeartbeats 4000000
namespace Go.Sx
section sems
variable {P:Program} {h:Hp}
def fU {α:Type} (f:Program->Sem α) (K:α->Hp->Prop):aQ P (program >>= f) h K=aQ P (f P) h K:=by
 rw [an]; rfl
variable {H:TypeId} {U:TypeDesc}
def az (a:P.underlying H=some U) (K:TypeDesc->Hp->Prop):aQ P (underlying H) h K=K U h:=by
 unfold underlying; rw [fU,a]; rfl
def info_of_underlying (a:P.underlying H=some U):∃ i,P.info? H=some i:=by
 unfold Program.underlying at a;cases hi:P.info? H with
 | none=>rw [hi] at a; simp at a
 | some i=>exact ⟨i,rfl⟩
variable {O:TypeInfo}
def iJ (hi:P.info? H=some O) (K:TypeInfo->Hp->Prop):aQ P (typeInfo H) h K=K O h:=by
 unfold typeInfo; rw [fU,hi]; rfl
def cJ (hi:P.info? H=some O):P.cellsOf H=O.size:=by
 simp [Program.cellsOf,hi]
def bT (hi:P.info? H=some O) (K:Nat->Hp->Prop):aQ P (sizeOf H) h K=K (P.cellsOf H) h:=by
 unfold sizeOf; rw [an,iJ hi,cJ hi]; rfl
def dI {z:Xab} (a:(P.info? H).bind (·.zero)=some z) (K:Xab->Hp->Prop):aQ P (zeroValue H) h K=K z h:=by
 cases hi:P.info? H with
 | none=>rw [hi] at a; simp at a
 | some i =>
  rw [hi] at a; simp at a;unfold zeroValue; rw [an,iJ hi,a]; rfl
def kr {b:Bool} (a:cO P H=some b) (K:Bool->Hp->Prop):aQ P (isAgg H) h K=K b h:=by
 unfold cO at a;cases c:P.underlying H with
 | none=>rw [c] at a; simp at a
 | some d =>
  rw [c] at a;unfold isAgg; rw [an,az c]
  all_goals (cases d <;> simp at a <;> subst a <;> rfl)
def uS {b:Bool} (a:cO P H=some b):∃ i,P.info? H=some i:=by
 unfold cO at a;cases c:P.underlying H with
 | none=>rw [c] at a; simp at a
 | some d=>exact info_of_underlying c
theorem nQ (a:Xax):∀ (c:List Xab) (i:Nat) (b:Array Xab) (K:Array Xab->Hp->Prop),aH h a i c->K (b++c.toArray) h ->
  aQ P (loadCellsFrom a i c.length b) h K
 | [],i,b,K,_,hk=>by
  have d:K b h:=by simpa using hk
  exact d
 | v::c,i,b,K,hc,hk=>by
  simp only [List.length_cons,loadCellsFrom];rw [an];refine ⟨v,hc.1,nQ a c (i+1) (b.push v) K hc.2 ?_⟩;have e:b.push v++c.toArray=b++(v::c).toArray:=by
   apply ca9.1; simp
  rw [e]; exact hk
def dK {a:Xax} {n:Nat} {b:List Xab} (hn:b.length=n) (hc:aH h a 0 b) (K:Array Xab->Hp->Prop) (hk:K b.toArray h):aQ P (loadCells a n) h K:=by
 subst hn;exact nQ a b 0 #[] K hc (by simpa using hk)
theorem gh (a:Xax):∀ (b:List Xab) (h:Hp) (i:Nat) (K:Unit->Hp->Prop),zQ h a i b->K () (tS h a i b)->aQ P (storeCells a b i) h K
 | [],h,i,K,_,hk=>hk
 | v::b,h,i,K,hc,hk=>by
  simp only [storeCells];rw [an];exact ⟨hc.1,hc.2.1,hc.2.2.1,gh a b _ (i+1) K hc.2.2.2 hk⟩
end sems
structure Nd where
 n:Nat
 d:List Deferred
instance:Coe Nd Nat:=⟨Nd.n⟩
structure iI (n:Nd) (e:Env) (a:Act):Prop where
 size:a.tmps.size=n.n
 defers:a.defers=n.d
 get:∀ s v,db e s=some v->a.tmps.getD s undef=v
def iI.ev {n:Nd} {e:Env} {a:Act} (g:iI n e a) {x:Operand} {v:Xab} (b:ev e x=some v):a.eval x=v:=by
 cases x with
 | tmp t=>exact g.get t v b
 | const w=>simpa [Sx.ev,Act.eval] using b
 | global i=>simpa [Sx.ev,Act.eval] using b
 | func f=>simpa [Sx.ev,Act.eval] using b
def dQ (e:Env) (s:Nat) (v:Option Xab) (t:Nat):db ((s,v)::e) t=if s=t then v else db e t:=by
 simp only [db]
 by_cases h:s=t
 ·subst h; simp
 ·have:Nat.beq s t=false:=by
   cases a:Nat.beq s t
   ·rfl
   ·exact (h (av9 a)).elim
  rw [this,ac9 h]; rfl
def iI.put {n:Nd} {e:Env} {a:Act} (g:iI n e a) (dst:Option Tmp) (v:Xab):iI n (eE n e dst v) (a.put dst v):=by
 cases dst with
 | none=>exact g
 | some d =>
  refine ⟨by simp [Act.put,g.size],by simp [Act.put,g.defers],λs u b=>?_⟩;simp only [eE] at b;cases f:Nat.blt d n with
  | true =>
   have h:d<n:=by simpa [Nat.blt_eq] using f
   rw [f] at b;simp only [cond_true,dQ] at b;simp only [Act.put,Array.getD_eq_getD_getElem?,Array.getElem?_setIfInBounds]
   by_cases i:d=s
   ·subst i;rw [ag9 rfl] at b;simp at b; subst b;simp [g.size,h]
   ·rw [ac9 i] at b;rw [ac9 i]
    have:=g.get s u b
    simpa [Array.getD_eq_getD_getElem?] using this
  | false =>
   rw [f] at b;have h:¬ d<n:=by intro j; rw [<- Nat.blt_eq] at j; rw [f] at j; cases j
   have c:a.put (some d) v=a:=by
    simp only [Act.put]
    have:a.tmps.setIfInBounds d v=a.tmps:=Array.setIfInBounds_eq_of_size_le (by rw [g.size]; exact Nat.le_of_not_lt h)
    rw [this]
   rw [c];exact g.get s u b
def iI.w7 {n:Nd} {e:Env} {a:Act} (g:iI n e a) {s:Nat} {v:Xab} (hv:db e s=some v) (w:Xab) (f:w=v):iI n (eE n e (some s) w) a:=by
 subst f;refine ⟨g.size,g.defers,λt u b=>?_⟩;simp only [eE] at b;cases c:Nat.blt s n with
 | true =>
  rw [c] at b;simp only [cond_true,dQ] at b
  by_cases d:s=t
  ·subst d; rw [ag9 rfl] at b; simp at b; subst b; exact g.get s w hv
  ·rw [ac9 d] at b; exact g.get t u b
 | false=>rw [c] at b; exact g.get t u b
section trees
variable {L:Lp} {K:Xab->Hp->Prop} {h:Hp}
def bF {e:Env} {x:Operand} {k:Xab->T} (ht:cd e x k L K h):∃ v,ev e x=some v/\k v L K h:=by
 unfold cd at ht;cases a:ev e x with
 | none=>rw [a] at ht; exact ht.elim
 | some v=>rw [a] at ht; exact ⟨v,rfl,ht⟩
theorem jw {e:Env}:∀ {xs:List Operand} {k:List Xab->T},jh e xs k L K h->∃ a,xs.map (ev e)=a.map some/\k a L K h
 | [],k,ht=>⟨[],rfl,ht⟩
 | x::xs,k,ht=>by
  obtain ⟨v,hv,ht⟩:=bF ht;obtain ⟨a,et,ht⟩:=jw ht;exact ⟨v::a,by simp [hv,et],ht⟩
theorem iI.Ug {n:Nd} {e:Env} {a:Act} (g:iI n e a):∀ {xs:List Operand} {c:List Xab},xs.map (Sx.ev e)=c.map some->xs.map a.eval=c
 | [],[],_=>rfl
 | x::xs,v::c,b=>by
  simp only [List.map_cons,List.cons.injEq] at b;simp only [List.map_cons,g.ev b.1,g.Ug b.2]
 | [],v::c,b=>by simp at b
 | x::xs,[],b=>by simp at b
def gZ {p:Xac} {k:Xax->T} (ht:T.bh p k L K h):∃ a,p=some a/\k a L K h:=by
 cases p with
 | none=>exact ht.elim
 | some a=>exact ⟨a,rfl,ht⟩
def gH {b:Bool} {t u:T} (ht:(cond b t u) L K h):(b=true/\t L K h)\/(b=false/\u L K h):=by
 cases b
 ·exact .inr ⟨rfl,ht⟩
 ·exact .inl ⟨rfl,ht⟩
end trees
section ops
variable {P:Program} {L:Lp} {K:Xab->Hp->Prop} {h:Hp}
def uP {s:Sem Xab} {R:Xab->Hp->Prop}:aQ P (do pure (Next.value (<- s))) h (En P R)=aQ P s h R:=by
 rw [an]; rfl
def opU {s:Sem Unit} {R:Xab->Hp->Prop}:aQ P (do s; pure Next.skip) h (En P R)=aQ P s h (λ_ h'=>R undef h'):=by
 rw [an]; rfl
variable {V:Bool}
def oR {s:Sem Xab} {cs:List ez} {a:Xab->T} (ht:T.dP P s V cs (j7 _ λl=>a (rv V cs l)) L K h) :
  aQ P s h (λv h'=>a v L K h'):=by
 refine ec _ _ _ _ ?_ ht;rintro v h' ⟨x,rfl,b⟩;rw [dX] at b;exact b
variable {H O:TypeId}
def nT {s:Sem Xab} {a:Xab->T} (ht:T.dP P s false [(false,[.slice H])] (λp l c=>a (.slice p l c)) L K h) :
  aQ P s h (λv h'=>a v L K h'):=by
 refine ec _ _ _ _ ?_ ht;rintro v h' ⟨x,rfl,b⟩;exact b
def UU {s:Sem Xab} {a:Xab->T} (ht:T.dP P s false [(false,[.bool])] (λb=>a (.bool b)) L K h):aQ P s h (λv h'=>a v L K h'):=by
 refine ec _ _ _ _ ?_ ht;rintro v h' ⟨x,rfl,c⟩;exact c
def Fc {s:Sem Xab} {a:Xab->T} (ht:T.dP P s false [(false,[.int .i64])] (λb=>a (.int .i64 b)) L K h):aQ P s h (λv h'=>a v L K h'):=by
 refine ec _ _ _ _ ?_ ht;rintro v h' ⟨x,rfl,c⟩;exact c
def TI {s:Sem Xab} {a:Xab->T} (ht:T.dP P s false [(false,[.string])] (λb=>a (.string b)) L K h):aQ P s h (λv h'=>a v L K h'):=by
 refine ec _ _ _ _ ?_ ht;rintro v h' ⟨x,rfl,c⟩;exact c
def UC {s:Sem Xab} {c:Xab->T} (ht:T.dP P s false [(false,[.map H O])] (λO=>c (.map O)) L K h):aQ P s h (λv h'=>c v L K h'):=by
 refine ec _ _ _ _ ?_ ht;rintro v h' ⟨x,rfl,d⟩;exact d
def Us {s:Sem Xab} {c:Xab->T} (ht:T.dP P s false [(false,[.pointer H])] (λb=>c (.pointer b)) L K h):aQ P s h (λv h'=>c v L K h'):=by
 refine ec _ _ _ _ ?_ ht;rintro v h' ⟨x,rfl,d⟩;exact d
def S5 {s:Sem Xab} {a:T} (ht:T.dP P s true [] a L K h):aQ P s h (λv h'=>v=.tuple #[]/\a L K h'):=by
 refine ec _ _ _ _ ?_ ht;rintro v h' ⟨x,rfl,b⟩;exact ⟨rfl,b⟩
variable {Y:IntKind} {Z d:Int}
def Tj {op : BinOp} {a : Xab -> T} (b : oc op = false) (t : TypeId) (ht : Ki op Y Z d a L K h) :
    aQ P (binOp op t (.int Y Z) (.int Y d)) h (λv h' => a v L K h') := by
  cases op <;> simp only [oc, Bool.true_eq_false] at b <;> simp only [Ki] at ht <;>
    first
    | exact ht.elim
    | (simp only [binOp, Op.intArith, Op.intDiv, Op.intBits, Op.intCmp, ne_eq, not_true_eq_false, if_false]; exact ht)
    | (obtain ⟨h0, ht⟩ := ht
       simp only [binOp, Op.intDiv, ne_eq, not_true_eq_false, if_false, if_neg h0]; exact ht)
def N2 {op:BinOp} {k':IntKind} {a:Xab->T} (b:oc op=true) (t:TypeId) (ht:Bo op Y Z d a L K h) :
  aQ P (binOp op t (.int Y Z) (.int k' d)) h (λv h'=>a v L K h'):=by
 cases op <;> simp only [oc,Bool.false_eq_true] at b <;> simp only [Bo] at ht <;> obtain ⟨h0,ht⟩:=ht <;>
  simp only [binOp,Op.shift,if_neg (Int.not_lt.2 h0)] <;> exact ht
def Vp {op : BinOp} {m n : Xaa} {a : Xab -> T} (t : TypeId) (ht : Kb op m n a L K h) :
    aQ P (binOp op t (.string m) (.string n)) h (λv h' => a v L K h') := by
  cases op <;> simp only [Kb] at ht <;>
    first
    | exact ht.elim
    | (simp only [binOp, Op.stringOp]; exact ht)
    | (obtain ⟨h0, ht⟩ := ht
       simp only [binOp, Op.stringOp, if_neg (Int.not_lt.2 h0)]; exact ht)
def Dw:Xab->Bool
 | .nilIface=>false
 | .agg _=>false
 | _=>true
variable {U a:Operand}
def hY {op:BinOp} {c b:Xab} (d:Dw c=true) {R:Xab->Hp->Prop} :
  aQ P (do eqGuard op H U a c b; binOp op H c b) h R=aQ P (binOp op H c b) h R:=by
 rw [an]
 have:∀ K:Unit->Hp->Prop,aQ P (eqGuard op H U a c b) h K=K () h:=by
  intro K;cases op <;> first | rfl | (cases c <;> first | (simp [Dw] at d; done) | rfl)
 rw [this]
def JQ (a:P.underlying H=some .bool) (m n:Bool) (R:Bool->Hp->Prop):aQ P (Op.equal H (.bool m) (.bool n)) h R=R (m==n) h:=by
 show aQ P (Op.equalIn (9999+1) H (.bool m) (.bool n)) h R=_;unfold Op.equalIn;rw [an,az a]; rfl
def Dd (a:P.underlying H=some (.pointer O)) (p:Xac) (R:Bool->Hp->Prop):aQ P (Op.equal H (.pointer p) (.pointer none)) h R=R p.isNone h:=by
 show aQ P (Op.equalIn (9999+1) H (.pointer p) (.pointer none)) h R=_;unfold Op.equalIn;rw [an,az a]; cases p <;> rfl
def Ad (a:P.underlying H=some (.slice O)) (p:Xac) (l c:Nat) (R:Bool->Hp->Prop):aQ P (Op.equal H (.slice p l c) (.slice none 0 0)) h R=R p.isNone h:=by
 show aQ P (Op.equalIn (9999+1) H (.slice p l c) (.slice none 0 0)) h R=_;unfold Op.equalIn;rw [an,az a]; cases p <;> rfl
def C7 {b:TypeId} (c:P.underlying H=some (.map O b)) (p:Option Nat) (R:Bool->Hp->Prop):aQ P (Op.equal H (.map p) (.map none)) h R=R p.isNone h:=by
 show aQ P (Op.equalIn (9999+1) H (.map p) (.map none)) h R=_;unfold Op.equalIn;rw [an,az c]; cases p <;> rfl
def wU {op:BinOp} {a b:Xab} {c:Xab->T}
  (d:∀ R:Bool->Hp->Prop,aQ P (Op.equal H a b) h R=R V h)
  (h1:binOp .eql H a b=(do pure (.bool (<- Op.equal H a b)))) (h2:binOp .neq H a b=(do pure (.bool (!(<- Op.equal H a b)))))
  (ht:asked op V c T.fail L K h):aQ P (binOp op H a b) h (λv h'=>c v L K h'):=by
 cases op <;> simp only [asked] at ht <;> first
  | exact ht.elim
  | (rw [h1,an,d]; exact ht)
  | (rw [h2,an,d]; exact ht)
def Vr {op:BinOp} {c b:Xab} {d:Xab->T} (ht:S4 P op H U a c b d L K h) :
  aQ P (do eqGuard op H U a c b; binOp op H c b) h (λv h'=>d v L K h'):=UU ht
variable {b:Env}
def Uv {op:BinOp} {g f:Xab} {A:Xab->T} (s:ev b a=some f)
  (ht:FB P op H U a g f A L K h):aQ P (do eqGuard op H U a g f; binOp op H g f) h (λv h'=>A v L K h'):=by
 have u:∀ q,f=.pointer q->isNil a=true->q=none:=by
  intro q w hn;cases a <;> simp only [isNil,Bool.false_eq_true] at hn;rename_i c;simp only [Sx.ev,Option.some.injEq] at s;subst s; subst w;cases q with
  | none=>rfl
  | some g=>simp [isNil] at hn
 have o:∀ q l c,f=.slice q l c->isNil a=true->q=none/\l=0/\c=0:=by
  intro q l c w hn;cases a <;> simp only [isNil,Bool.false_eq_true] at hn;rename_i c;simp only [Sx.ev,Option.some.injEq] at s;subst s; subst w;cases q with
  | none =>
   cases l <;> cases c <;> simp [isNil] at hn <;> exact ⟨rfl,rfl,rfl⟩
  | some g=>simp [isNil] at hn
 have r:∀ q,f=.map q->isNil a=true->q=none:=by
  intro q w hn;cases a <;> simp only [isNil,Bool.false_eq_true] at hn;rename_i c;simp only [Sx.ev,Option.some.injEq] at s;subst s; subst w;cases q with
  | none=>rfl
  | some g=>simp [isNil] at hn
 unfold FB at ht;cases j:tJ P H U a with
 | false=>simp only [j] at ht; exact Vr ht
 | true =>
 simp only [j] at ht;unfold uQ at ht;split at ht
 ·rename_i k m k' n;rw [hY rfl];cases z:oc op with
  | true=>simp only [z] at ht; exact N2 z H ht
  | false =>
   simp only [z] at ht
   by_cases hk:k=k'
   ·subst hk;simp only [decide_true] at ht;exact Tj z H ht
   ·simp only [hk,decide_false] at ht;exact ht.elim
 ·rw [hY rfl]; exact Vp H ht
 ·rename_i m n;rw [hY rfl];cases i:P.underlying H with
  | none=>simp only [i] at ht; exact ht.elim
  | some d =>
   cases d <;> simp only [i] at ht <;> first
    | exact ht.elim
    | exact wU (λR=>JQ i m n R) rfl rfl ht
 ·rename_i p q;cases i:P.underlying H with
  | none=>simp only [i] at ht; exact ht.elim
  | some d =>
   cases d <;> simp only [i] at ht <;> first
    | exact ht.elim
    | skip
   have hn:isNil a=true:=by simpa [tJ,i] using j
   obtain rfl:=u q rfl hn;rw [hY rfl]; exact wU (λR=>Dd i p R) rfl rfl ht
 ·rename_i p l c q l' c';cases i:P.underlying H with
  | none=>simp only [i] at ht; exact ht.elim
  | some d =>
   cases d <;> simp only [i] at ht <;> first
    | exact ht.elim
    | skip
   have hn:isNil a=true:=by simpa [tJ,i] using j
   obtain ⟨rfl,rfl,rfl⟩:=o q _ _ rfl hn;rw [hY rfl]; exact wU (λR=>Ad i p l c R) rfl rfl ht
 ·rename_i p q;cases i:P.underlying H with
  | none=>simp only [i] at ht; exact ht.elim
  | some d =>
   cases d <;> simp only [i] at ht <;> first
    | exact ht.elim
    | skip
   have hn:isNil a=true:=by simpa [tJ,i] using j
   obtain rfl:=r q rfl hn;rw [hY rfl]; exact wU (λR=>C7 i p R) rfl rfl ht
 ·exact ht.elim
def WU {op:UnOp} {a:Xab} {b:Xab->T} (ht:Yl op a b L K h):aQ P (Op.unary op a) h (λv h'=>b v L K h'):=by
 unfold Yl at ht;split at ht
 ·exact ht
 ·exact ht
 ·exact ht
 ·exact ht.elim
def Q8 {a:Xab} {b:Xab->T} (ht:zh P H O a b L K h):aQ P (convert H O a) h (λv h'=>b v L K h'):=by
 unfold zh at ht;generalize c:P.underlying H=us at ht;generalize e:P.underlying O=f at ht;split at ht
 ·unfold convert;rw [an,az c,an,az e];exact ht
 ·unfold convert;rw [an,az c,an,az e];exact ht
 ·exact ht.elim
 ·exact nT ht
 ·exact TI ht
 ·exact ht.elim
def fe (y:Nat) (a:BoundsCode) {v:Xab} (hv:v=.int Y Z) (h0:0<=Z) (h1:Z<=y) (R:Nat->Hp->Prop) :
  aQ P (Instr.sliceBound v y a) h R=R Z.toNat h:=by
 subst hv;unfold Instr.sliceBound;rw [an];show aQ P (if 0<=Z/\Z<=↑y then pure Z.toNat else boundsPanic Y Z ↑y a) h R=_;rw [ag9 ⟨h0,h1⟩]; rfl
def sL {v:Xab} (hv:eV (some v)=true):∃ k i,v=.int k i:=by
 cases v <;> simp only [eV,Bool.false_eq_true] at hv;exact ⟨_,_,rfl⟩
def j8 (isSlice:Bool) (len cap:Nat) {lo hi:Option Xab} (f:eV lo=true) (g:eV hi=true)
  (h0:0<=lI lo) (h1:lI lo<=lX len hi) (h2:lX len hi<=cap) (R:Nat × Nat × Nat->Hp->Prop) :
  aQ P (Instr.sliceBounds isSlice len cap lo hi none) h R=R ((lI lo).toNat,(lX len hi).toNat,cap) h:=by
 unfold Instr.sliceBounds;cases hi with
 | none =>
  cases lo with
  | none=>rfl
  | some v =>
   obtain ⟨k,i,rfl⟩:=sL f;have a:0<=i:=h0;have b:i<=len:=h1;show aQ P (Instr.sliceBound (.int k i) len _ >>= λl=>pure (l,len,cap)) h R=_;rw [an,fe len _ rfl a b]; rfl
 | some u =>
  obtain ⟨ku,iu,rfl⟩:=sL g;have c:(0:Int)<=iu:=Int.le_trans h0 h1;cases lo with
  | none =>
   show aQ P (Instr.sliceBound (.int ku iu) cap _ >>= λe=>pure (0,e,cap)) h R=_;have d:iu<=cap:=h2;rw [an,fe cap _ rfl c d]; rfl
  | some v =>
   obtain ⟨k,i,rfl⟩:=sL f;show aQ P (Instr.sliceBound (.int ku iu) cap _ >>= λe=>Instr.sliceBound (.int k i) e _ >>= λl=>pure (l,e,cap)) h R=_;have a:0<=i:=h0;have b:i<=iu:=h1;have d:iu<=cap:=h2;rw [an,fe cap _ rfl c d,an,fe _ _ rfl a (by rw [Int.toNat_of_nonneg c]; exact b)]; rfl
def Mm {a:Xab} {lo hi c:Option Xab} {g:Xab->T} (ht:jy P H a lo hi c g L K h) :
  aQ P (Instr.sliceAt H a lo hi c) h (λv h'=>g v L K h'):=by
 unfold jy at ht;cases hint:eV lo && eV hi && eV c with
 | false=>simp only [hint] at ht; exact ht.elim
 | true =>
  simp only [hint] at ht;simp only [Bool.and_eq_true] at hint;obtain ⟨⟨j,k⟩,n⟩:=hint;cases b:P.underlying H with
  | none=>simp only [b] at ht; exact nT ht
  | some d =>
   cases d <;> simp only [b] at ht <;> first | exact nT ht | skip
   case string =>
    cases c with
    | some m=>cases a <;> exact ht.elim
    | none =>
    cases a <;> first | exact ht.elim | skip
    rename_i s;obtain ⟨⟨h0,h1,h2⟩,ht⟩:=ht;unfold Instr.sliceAt;rw [an,az b];show aQ P (Instr.slice H (.string s) lo hi none) h _;unfold Instr.slice;rw [an,az b];show aQ P (Instr.sliceBounds false s.size s.size lo hi none >>= λx=>(pure (Value.string (s.extract x.1 x.2.1)):Sem Xab)) h _;rw [an,j8 false _ _ j k h0 h1 h2];exact ht
   case slice l =>
    cases c with
    | some m=>exact nT ht
    | none =>
    cases a <;> first | exact ht.elim | skip
    rename_i p len cap;simp only at ht;cases e:oQ P l with
    | false=>simp only [e] at ht; exact ht.elim
    | true =>
     simp only [e] at ht;obtain ⟨⟨h0,h1,h2⟩,ht⟩:=ht;obtain ⟨i,f⟩:=cq9.1 e;unfold Instr.sliceAt;rw [an,az b];show aQ P (Instr.slice H (.slice p len cap) lo hi none) h _;unfold Instr.slice;rw [an,az b];show aQ P (Instr.sliceBounds true len cap lo hi none >>= λx=>sizeOf l >>= λsize=>(pure (Value.slice (if x.2.2=x.1 then p else p.map (·.add (x.1*size))) (x.2.1-x.1) (x.2.2-x.1)):Sem Xab)) h _;rw [an,j8 true _ _ j k h0 h1 h2,an,bT f];exact ht
def OM {cs:Array Xab} {off:Nat} {c:Xab->T} (ht:uU P H cs.toList off c L K h) :
  aQ P (part H cs off) h (λv h'=>c v L K h'):=by
 have e:∀ n,((cs.toList.drop off).take n).toArray=cs.extract off (off+n):=by
  intro n;apply ca9.1;simp [Array.toList_extract,List.extract_eq_drop_take]
 unfold uU at ht;generalize a:P.underlying H=j at ht;split at ht
 ·obtain ⟨i,hi⟩:=info_of_underlying a;unfold part;rw [an,kr (b:=true) (by simp [cO,a])];show aQ P (sizeOf H >>= λn=>(pure (Value.agg (cs.extract off (off+n))):Sem Xab)) h _;rw [an,bT hi,<- e];exact ht
 ·obtain ⟨i,hi⟩:=info_of_underlying a;unfold part;rw [an,kr (b:=true) (by simp [cO,a])];show aQ P (sizeOf H >>= λn=>(pure (Value.agg (cs.extract off (off+n))):Sem Xab)) h _;rw [an,bT hi,<- e];exact ht
 ·rename_i d f g;unfold part;rw [an,kr (b:=false) (by simp only [cO,a])];show aQ P (match cs[off]? with | some v => pure v | none => stuck "part: no such cell") h _
  rw [<- dq9];cases hv:cs.toList[off]? with
  | none=>simp only [hv] at ht; exact ht.elim
  | some v=>simp only [hv] at ht; exact ht
 ·exact ht.elim
variable {e:FuncId}
def xQ (a:gC P e=true) (args:Array Xab) (R:Next->Hp->Prop):aQ P (callFunc e args) h R=R (.enter e args) h:=by
 unfold gC at a;unfold callFunc;rw [fU];cases b:P.funcs[e]? with
 | none=>rw [b] at a; simp at a
 | some fn =>
  rw [b] at a;simp only [Bool.and_eq_true,Bool.not_eq_true'] at a;obtain ⟨h1,h2⟩:=a;have c:fn.body.isNone=false:=by cases d:fn.body <;> simp_all
  simp only [h2,c]; rfl
def Qy {args:List Xab} {c:Xab->T} (ht:Et P e args H c L K h) :
  aQ P (callFunc e args.toArray) h (En P λv h'=>c v L K h'):=by
 unfold Et at ht;cases b:gC P e with
 | false =>
  simp only [b] at ht
  have:=oR ht
  unfold Km at this;rw [an] at this;refine ec _ _ _ _ ?_ this;intro x h' a;cases x <;> first | exact a | exact a.elim
 | true =>
  simp only [b] at ht;rw [xQ b];refine HC.mono ht ?_;rintro v h' ⟨x,rfl,a⟩;rw [dX] at a;exact a
variable {c:Call}
def TM {args:List Xab} {f:Xab->T} (ht:A' P c H args f L K h) :
  aQ P (Builtin.len_ c.argTypes H args.toArray) h (λv h'=>f v L K h'):=by
 unfold A' at ht;cases e:(c.argTypes[0]?).bind P.underlying with
 | none=>simp only [e] at ht; exact Fc ht
 | some d =>
  obtain ⟨g,a,b⟩:=aa9.1 e;cases d <;> simp only [e] at ht <;> first | exact Fc ht | skip
  case string =>
   split at ht
   ·unfold Builtin.len_;simp only [a];show aQ P (underlying g >>= _) h _;rw [an,az b];exact ht
   ·exact ht.elim
  case slice i =>
   split at ht
   ·unfold Builtin.len_;simp only [a];show aQ P (underlying g >>= _) h _;rw [an,az b];exact ht
   ·exact ht.elim
def Ty {args:List Xab} {f:Xab->T} (ht:MN P c args f L K h) :
  aQ P (Builtin.cap_ c.argTypes H args.toArray) h (λv h'=>f v L K h'):=by
 unfold MN at ht;cases a:(c.argTypes[0]?).bind P.underlying with
 | none=>simp only [a] at ht; exact ht.elim
 | some d =>
  obtain ⟨g,b,e⟩:=aa9.1 a;cases d <;> simp only [a] at ht <;> first | exact ht.elim | skip
  split at ht
  ·unfold Builtin.cap_;simp only [b];show aQ P (underlying g >>= _) h _;rw [an,az e];exact ht
  ·exact ht.elim
inductive mz:List (Nat × Xab)->List (Nat × List Xab)->Prop
 | nil:mz [] []
 | cons {i:Nat} {v:Xab} {l:List Xab} {ps:List (Nat × Xab)} {r:List (Nat × List Xab)} (h:v.cells.toList=l) (t:mz ps r):mz ((i,v)::ps) ((i,l)::r)
def Nl {v:Xab} (h:fx v=true):v.cells.toList=kC v:=by
 cases v <;> first | rfl | (simp [fx] at h)
def zG {v:Xab} (h:fx v=false):v.cells.toList=[v]:=by
 cases v <;> first | rfl | (simp [fx] at h)
theorem ua {agg:Nat->Option Bool}:∀ {ps:List (Nat × Xab)} {k:List (Nat × List Xab)->T},fP agg ps k L K h->∃ r,mz ps r/\k r L K h
 | [],k,ht=>⟨[],.nil,ht⟩
 | (i,v)::l,k,ht=>by
  simp only [fP] at ht;cases c:agg i with
  | none=>rw [c] at ht; exact ht.elim
  | some b =>
   rw [c] at ht;cases b with
   | true =>
    rcases gH ht with ⟨hv,ht⟩ | ⟨_,ht⟩
    ·obtain ⟨r,a,hk⟩:=ua ht;exact ⟨_,.cons (Nl hv) a,hk⟩
    ·exact ht.elim
   | false =>
    rcases gH ht with ⟨_,ht⟩ | ⟨hv,ht⟩
    ·exact ht.elim
    ·obtain ⟨r,a,hk⟩:=ua ht;exact ⟨_,.cons (zG hv) a,hk⟩
theorem A8:∀ (l:List Xab) (off k:Nat) (cs:Array Xab),((l.zipIdx k).foldl (λ(cs:Array Xab) (x:Xab × Nat)=>cs.setIfInBounds (off+x.2) x.1) cs)=(uI cs.toList (off+k) l).toArray
 | [],off,k,cs=>by simp [uI]
 | v::l,off,k,cs=>by
  rw [List.zipIdx_cons,bt9,A8 l off (k+1)];simp only [uI,Array.toList_setIfInBounds] <;> rfl
def Fe {place:Nat->Option (Nat × Nat)} {ps:List (Nat × Xab)} {r:List (Nat × List Xab)} (hc:mz ps r):∀ {c cs:List Xab},fZ place c r=some cs->Instr.fill place c.toArray ps=some cs.toArray:=by
 induction hc with
 | nil=>intro c cs h; simp [fZ] at h; subst h; rfl
 | @cons i v l ps r hv _ d =>
  intro c cs h;unfold fZ at h;unfold Instr.fill;split at h
  ·cases h
  ·rename_i off size f;rw [f];simp only;have g:v.cells.size=l.length:=by rw [<- hv,de9]
   cases a:!(Nat.beq l.length size) || Nat.blt c.length (off+l.length) with
   | true=>rw [a] at h; cases h
   | false =>
    rw [a] at h;simp only [Bool.or_eq_false_iff,Bool.not_eq_false'] at a;have h1:l.length=size:=av9 a.1;have h2:¬ c.length<off+l.length:=λb=>by
     have:=Nat.ble_eq_true_of_le b
     rw [show Nat.blt c.length (off+l.length)=Nat.ble (c.length+1) (off+l.length) from rfl,this] at a;exact absurd a.2 ai
    rw [ac9 (by simp [g,h1]; omega)];have e:v.cells.zipIdx.foldl (λcs (x:Xab × Nat)=>cs.setIfInBounds (off+x.2) x.1) c.toArray=(uI c off l).toArray:=by
     rw [<- Array.foldl_toList,Array.toList_zipIdx,hv];exact A8 l off 0 c.toArray
    have:=d h
    rw [<- e] at this;exact this
def H2 {b:Builtin} {args:List Xab} {a:Array Bool} {d:Xab->T} (ht:tC P b c H args d L K h) :
  aQ P (builtin b c.argTypes H a args.toArray) h (En P λv h'=>d v L K h'):=by
 unfold tC at ht;split at ht
 ·show aQ P (do pure (Next.value (<- Builtin.len_ c.argTypes H args.toArray))) h _;rw [uP]; exact TM ht
 ·show aQ P (do pure (Next.value (<- Builtin.cap_ c.argTypes H args.toArray))) h _;rw [uP]; exact Ty ht
 ·show aQ P (do pure (Next.value (<- Builtin.append_ c.argTypes H args.toArray))) h _;rw [uP]; exact nT ht
 ·show aQ P (do pure (Next.value (<- Builtin.copy_ c.argTypes H args.toArray))) h _;rw [uP]; exact Fc ht
 ·show aQ P (do pure (Next.value (<- Builtin.min_ c.argTypes H args.toArray))) h _;rw [uP]; exact oR ht
 ·show aQ P (do pure (Next.value (<- Builtin.max_ c.argTypes H args.toArray))) h _;rw [uP]; exact oR ht
 ·show aQ P (do pure (Next.value (<- Builtin.delete_ c.argTypes H args.toArray))) h _;rw [uP];exact ec _ _ _ _ (λv h' ⟨e,hk⟩=>by subst e; exact hk) (S5 ht)
 ·show aQ P (do pure (Next.value (<- Builtin.unsafeString_ c.argTypes H args.toArray))) h _;rw [uP]; exact oR ht
 ·show aQ P (do pure (Next.value (<- Builtin.unsafeSliceData_ c.argTypes H args.toArray))) h _;rw [uP]; exact oR ht
 ·exact ht.elim
def Sr {b:List Xab} {c:Xab->T} (ht:T.new b H (λa=>c (.pointer (some a))) L K h) {cs:Array Xab} (hv:cs=b.toArray) :
  aQ P (do pure (Value.pointer (some (<- newRow H cs)))) h (λv h'=>c v L K h'):=by
 subst hv;exact ht
def DN {n:Nat} {t:TypeId} {p:Xac} {kk:Xax->List Xab->Xab->T} (e:cO P t=some V)
  (ht:(match V with
   | true=>(bif (fD P 9 t).length==P.cellsOf t then T.bh p λa=>T.ah a (fD P 9 t) (j7 _ λl=>kk a l (.agg l.toArray)) else T.fail)
   | false=>T.bh p λa=>T.ah a (cM P t).2 (j7 _ λl=>kk a l (l.headD undef))) L K h) :
  ∃ a l v,p=some a/\aH h a 0 l/\kk a l v L K h/\∀ h' (R:Xab->Hp->Prop),aH h' a 0 l->R v h'->aQ P (Instr.loadAt t (.pointer p)) h' R:=by
 obtain ⟨i,hi⟩:=uS e;cases V with
 | true =>
  simp only at ht;cases hl:(fD P 9 t).length==P.cellsOf t with
  | false=>rw [hl] at ht; exact ht.elim
  | true =>
   rw [hl] at ht;have g:(fD P 9 t).length=P.cellsOf t:=by simpa using hl
   obtain ⟨a,rfl,ht⟩:=gZ ht;obtain ⟨x,hc,ht⟩:=ht;rw [dX] at ht;refine ⟨a,et _ x,_,rfl,hc,ht,λh' R c hk=>?_⟩;unfold Instr.loadAt;show aQ P (loadVar t a) h' R;unfold loadVar;rw [an,kr e];show aQ P (sizeOf t >>= λn=>loadCells a n >>= λcs=>(pure (Value.agg cs):Sem Xab)) h' R;rw [an,bT hi,an];exact dK (by rw [wc,g]) c _ hk
 | false =>
  simp only at ht;obtain ⟨a,rfl,ht⟩:=gZ ht;obtain ⟨x,hc,ht⟩:=ht;rw [dX] at ht;have h1:∃ d,(cM P t).2=[d]:=by
   unfold cO at e;unfold cM;cases f:P.underlying t with
   | none=>rw [f] at e; simp at e
   | some d=>rw [f] at e; cases d <;> simp at e <;> exact ⟨_,rfl⟩
  obtain ⟨d,f⟩:=h1;refine ⟨a,et _ x,_,rfl,hc,ht,λh' R c hk=>?_⟩;revert x;rw [f];intro x hc ht c hk;unfold Instr.loadAt;show aQ P (loadVar t a) h' R;unfold loadVar;rw [an,kr e];have hc0:=c.1
  have:a.add 0=a:=by simp [Addr.add]
  rw [this] at hc0;exact ⟨_,hc0,hk⟩
variable {f:Nd} {g:Act}
def Pq (d : iI f b g) {j : Xax -> List Xab -> Xab -> T} (ht : th P H U b j L K h) :
    ∃ p l v, ev b U = some (.pointer (some p)) /\ aH h p 0 l /\ j p l v L K h /\ ∀ h' (R : Xab -> Hp -> Prop), aH h' p 0 l -> R v h' -> aQ P (Instr.loadAt H (.pointer (some p))) h' R := by
  unfold th at ht;obtain ⟨v, hv, ht⟩ := bF ht;cases k : cO P H with
  | none => cases v <;> simp only [k] at ht <;> exact ht.elim
  | some c =>
    cases v <;> first
      | (cases c <;> simp only [k] at ht <;> exact ht.elim)
      | (rename_i p
         have m : (match c with
            | true => (bif (fD P 9 H).length == P.cellsOf H then T.bh p λg => T.ah g (fD P 9 H) (j7 _ λl => j g l (.agg l.toArray)) else T.fail)
            | false => T.bh p λg => T.ah g (cM P H).2 (j7 _ λl => j g l (l.headD undef))) L K h := by
            cases c <;> simp only [k] at ht <;> exact ht
         obtain ⟨q, l, v, rfl, hc, hk, i⟩ := DN (n := f) k m;exact ⟨q, l, v, hv, hc, hk, i⟩)
def JH {o : Oper} (j : iI f b g) {kk : Xab -> T} (ht : wy P o b kk L K h) :
    opW P o g.eval h (λv h' => kk v L K h') := by
  obtain ⟨dst, op, W, pos, after, guard⟩ := o;unfold opW;cases op <;> simp only [wy] at ht <;> unfold execOp <;> simp only
  case move x => obtain ⟨v, hv, ht⟩ := bF ht; rw [j.ev hv]; exact ht
  case assign x => obtain ⟨v, hv, ht⟩ := bF ht; rw [j.ev hv]; exact ht
  case pick c x y =>
    obtain ⟨v, hv, ht⟩ := bF ht;rw [j.ev hv]
    cases v <;> simp only at ht <;> first
      | exact ht.elim
      | (rename_i B
         rw [an];show aQ P (pure B) h _;cases B
         · obtain ⟨w, Q, ht⟩ := bF (show cd b y kk L K h from ht); rw [j.ev Q]; exact ht
         · obtain ⟨w, Q, ht⟩ := bF (show cd b x kk L K h from ht); rw [j.ev Q]; exact ht)
  case alloc t =>
    cases X : (P.info? t).bind (·.zero) with
    | none => simp only [X] at ht; exact ht.elim
    | some z =>
      simp only [X] at ht;rw [uP];unfold Instr.alloc;rw [an, dI X];exact Sr ht ai
  case box t x =>
    obtain ⟨v, hv, ht⟩ := bF ht;rw [j.ev hv, uP];unfold Instr.box newVar;cases H : cO P t with
    | none => simp only [H] at ht; exact ht.elim
    | some B =>
      cases B <;> simp only [H] at ht <;> rcases gH ht with ⟨hv, ht⟩ | ⟨hv, ht⟩ <;> first
        | exact ht.elim
        | (refine Sr ht ?_
           cases v <;> first | (simp [fx] at hv; done) | simp [Value.cells, kC])
  case build t ps =>
    obtain ⟨vs, et, ht⟩ := jw ht;have et := j.Ug et
    have S : (ps.map λx => (x.1, g.eval x.2)).toList = (ps.toList.map (·.1)).zip vs := by
      rw [<- et];simp only [Array.toList_map];generalize ps.toList = l
      induction l with
      | nil => rfl
      | cons p l ih => simp [ih]
    rw [uP];unfold Instr.build;rw [an];cases X : (P.info? t).bind (·.zero) with
    | none =>
      generalize P.underlying t = ud at ht;cases ud with
      | none => simp only [X] at ht; exact ht.elim
      | some d => cases d <;> simp only [X] at ht <;> exact ht.elim
    | some z =>
      rw [dI X];show aQ P (underlying t >>= _) h _;cases C : P.underlying t with
      | none => simp only [C] at ht; exact ht.elim
      | some d =>
        rw [an, az C];cases d <;> simp only [C, X] at ht <;> first | exact ht.elim | skip
        case array len U =>
          rcases gH ht with ⟨_, ht⟩ | ⟨I, ht⟩
          · exact ht.elim
          · have I : oQ P U = true := by simpa using I
            obtain ⟨i, hi⟩ := cq9.1 I;simp only;rw [an, bT hi];have G : (Array.map (λx => (x.1, g.eval x.2)) ps).toList = (ps.toList.map (·.1)).zip vs := S;obtain ⟨ls, Y, ht⟩ := ua ht;cases F : fZ (λi => some (i * P.cellsOf U, P.cellsOf U)) z.cells.toList ls with
            | none => simp only [F] at ht; exact ht.elim
            | some cs =>
              simp only [F] at ht;rw [G, Fe Y F];exact ht
        case struct V =>
          rcases gH ht with ⟨_, ht⟩ | ⟨I, ht⟩
          · exact ht.elim
          · have I : (V.all λA => oQ P A.type) = true := by simpa using I
            simp only;rw [an]
            have hm : ∀ R : Array (Nat × Nat) -> Hp -> Prop, aQ P (V.mapM λA => do pure (A.offset, <- sizeOf A.type)) h R = R (V.map λA => (A.offset, P.cellsOf A.type)) h := by
              intro R;rw [Array.mapM_eq_mapM_toList]
              have hT' : ∀ A ∈ V.toList, oQ P A.type = true := by
                intro A F; exact (Array.all_eq_true_iff_forall_mem.1 I) A (by simpa using F)
              have : ∀ (l : List Field) (R : List (Nat × Nat) -> Hp -> Prop), (∀ A ∈ l, oQ P A.type = true) ->
                  aQ P (l.mapM λA => (do pure (A.offset, <- sizeOf A.type) : Sem (Nat × Nat))) h R = R (l.map λA => (A.offset, P.cellsOf A.type)) h := by
                intro l
                induction l with
                | nil => intro R _; rfl
                | cons A l ih =>
                  intro R hl;obtain ⟨i, hi⟩ := cq9.1 (hl A ai);rw [List.mapM_cons, an, an, bT hi];show aQ P ((l.mapM λA => (do pure (A.offset, <- sizeOf A.type) : Sem (Nat × Nat))) >>= _) h R = _;rw [an, ih _ (λA F => hl A (by simp [F]))] <;> rfl
              show aQ P (List.toArray <$> _) h R = _;rw [map_eq_pure_bind, an, this _ _ hT'];show R (List.toArray _) h = _
              congr 1
              apply ca9.1
              simp
            rw [hm];obtain ⟨ls, Y, ht⟩ := ua ht;cases F : fZ (λi => (V.map λA => (A.offset, P.cellsOf A.type))[i]?) z.cells.toList ls with
            | none => simp only [F] at ht; exact ht.elim
            | some cs =>
              simp only [F] at ht;have G : (Array.map (λx => (x.1, g.eval x.2)) ps).toList = (ps.toList.map (·.1)).zip vs := S;rw [G, Fe Y F];exact ht
  case buildSlice t len ps =>
    obtain ⟨vs, et, ht⟩ := jw ht;have et := j.Ug et
    have S : (ps.map λx => (x.1, g.eval x.2)) = ((ps.toList.map (·.1)).zip vs).toArray := by
      apply ca9.1;rw [<- et];simp only [Array.toList_map];generalize ps.toList = l
      induction l with
      | nil => rfl
      | cons p l ih => simpa using ih
    rw [uP];have G : (Array.map (λx => (x.1, g.eval x.2)) ps) = ((ps.toList.map (·.1)).zip vs).toArray := S;rw [G];exact nT ht
  case load t x =>
    have ht' : th P t x b (λ_ _ v => kk v) L K h := ht;obtain ⟨p, l, v, hv, hc, hk, hall⟩ := Pq j ht';rw [j.ev hv, uP];exact hall h _ hc hk
  case store t x y =>
    obtain ⟨v, hv, ht⟩ := bF ht;obtain ⟨u, E, ht⟩ := bF ht;rw [j.ev hv, j.ev E, opU];cases H : cO P t with
    | none => cases v <;> simp only [H] at ht <;> exact ht.elim
    | some B =>
      obtain ⟨i, hi⟩ := uS H
      cases v <;> first
        | (cases B <;> simp only [H] at ht <;> exact ht.elim)
        | skip
      rename_i p;cases B <;> simp only [H] at ht
      · rcases gH ht with ⟨hl, ht⟩ | ⟨hl, ht⟩
        · rcases gH ht with ⟨N, ht⟩ | ⟨N, ht⟩
          · exact ht.elim
          · obtain ⟨q, rfl, ht⟩ := gZ ht
            obtain ⟨hc, ht⟩ := ht;unfold Instr.storeAt storeVar;show aQ P (sizeOf t >>= _) h _;rw [an, bT hi];have hcl : u.cells = #[u] := by cases u <;> first | (simp [fx] at N; done) | rfl
            have h1 : P.cellsOf t = 1 := by simpa using hl
            rw [hcl, h1];exact gh q [u] h 0 _ hc ht
        · exact ht.elim
      · rcases gH ht with ⟨N, ht⟩ | ⟨N, ht⟩
        · rcases gH ht with ⟨hl, ht⟩ | ⟨hl, ht⟩
          · obtain ⟨q, rfl, ht⟩ := gZ ht
            obtain ⟨hc, ht⟩ := ht;unfold Instr.storeAt storeVar;show aQ P (sizeOf t >>= _) h _;rw [an, bT hi];obtain ⟨cs, rfl⟩ : ∃ cs, u = .agg cs := by cases u <;> first | (simp [fx] at N; done) | exact ⟨_, rfl⟩
            have h1 : cs.size = P.cellsOf t := by simpa [kC] using hl
            show aQ P (if cs.size ≠ P.cellsOf t then _ else storeCells q cs.toList 0) h _;rw [ac9 (by simp [h1])];exact gh q cs.toList h 0 _ hc ht
          · exact ht.elim
        · exact ht.elim
  case nilCheck x =>
    obtain ⟨v, hv, ht⟩ := bF ht;rw [j.ev hv];cases v with
    | pointer p => obtain ⟨q, rfl, ht⟩ := gZ ht; exact ht
    | func fn J ca => cases fn <;> first | exact ht.elim | exact ht
    | iface t w => exact ht
    | _ => exact ht.elim
  case binOp op t x y yt =>
    obtain ⟨v, hv, ht⟩ := bF ht;obtain ⟨u, E, ht⟩ := bF ht;rw [j.ev hv, j.ev E, uP];exact Uv E ht
  case unOp op t x => obtain ⟨v, hv, ht⟩ := bF ht; rw [j.ev hv, uP]; exact WU ht
  case convert s d x => obtain ⟨v, hv, ht⟩ := bF ht; rw [j.ev hv, uP]; exact Q8 ht
  case makeInterface t x =>
    obtain ⟨v, hv, ht⟩ := bF ht;rw [j.ev hv, uP];unfold Instr.makeInterface;cases C : P.underlying t with
    | none => simp only [C] at ht; exact ht.elim
    | some d =>
      rw [an, az C];cases d <;> simp only [C] at ht <;> first | exact ht.elim | exact ht
  case makeFunc fn J ca =>
    obtain ⟨vs, et, ht⟩ := jw ht;obtain ⟨us, hus, ht⟩ := jw ht;rw [uP];have Z : J.map g.eval = vs.toArray := by apply ca9.1; simpa using j.Ug et
    have e2 : ca.map g.eval = us.toArray := by apply ca9.1; simpa using j.Ug hus
    rw [Z, e2];exact ht
  case makeMap t r =>
    cases r with
    | none => rw [uP]; exact UC ht
    | some r => exact ht.elim
  case makeSlice t l c =>
    obtain ⟨v, hv, ht⟩ := bF ht;obtain ⟨u, E, ht⟩ := bF ht;rw [j.ev hv, j.ev E, uP];exact nT ht
  case slice t x lo hi mx =>
    obtain ⟨v, hv, ht⟩ := bF ht;obtain ⟨vs, et, ht⟩ := jw ht;have et := j.Ug et;rw [j.ev hv, uP];unfold Yr at ht
    cases lo <;> cases hi <;> cases mx <;> simp only [Option.toList, List.nil_append, List.append_nil, List.map_cons, List.map_nil, List.cons_append] at et <;> subst et <;>
      first | exact ht.elim | exact Mm ht
  case fieldAddr s x A =>
    obtain ⟨v, hv, ht⟩ := bF ht;rw [j.ev hv, uP];cases C : P.underlying s with
    | none => cases v <;> simp only [C] at ht <;> exact ht.elim
    | some d =>
      cases v <;> first
        | (cases d <;> simp only [C] at ht <;> exact ht.elim)
        | skip
      rename_i p;cases d <;> simp only [C] at ht <;> first | exact ht.elim | skip
      rename_i V;cases F : V[A]? with
      | none => simp only [F] at ht; exact ht.elim
      | some fd =>
        simp only [F] at ht;cases hc : P.cellsOf fd.type with
        | zero => simp only [hc] at ht; exact ht.elim
        | succ m =>
          simp only [hc] at ht;obtain ⟨q, rfl, ht⟩ := gZ ht
          have hi : ∃ i, P.info? fd.type = some i := by
            cases hi : P.info? fd.type with
            | none => simp [Program.cellsOf, hi] at hc
            | some i => exact ⟨i, rfl⟩
          obtain ⟨i, hi⟩ := hi;unfold Instr.fieldAt;rw [an, az C];simp only [F];show aQ P (fieldPlace q fd >>= λy => (pure (Value.pointer (some y)) : Sem Xab)) h _;unfold fieldPlace;rw [an, an, bT hi, hc];exact ht
  case field s x A =>
    obtain ⟨v, hv, ht⟩ := bF ht;rw [j.ev hv, uP];cases C : P.underlying s with
    | none => cases v <;> simp only [C] at ht <;> exact ht.elim
    | some d =>
      cases v <;> first
        | (cases d <;> simp only [C] at ht <;> exact ht.elim)
        | skip
      rename_i cs;cases d <;> simp only [C] at ht <;> first | exact ht.elim | skip
      rename_i V;cases F : V[A]? with
      | none => simp only [F] at ht; exact ht.elim
      | some fd =>
        simp only [F] at ht;unfold Instr.field;rw [an, az C];simp only [F];show aQ P (part fd.type cs fd.offset) h _;exact OM ht
  case indexAddr t x i =>
    obtain ⟨v, hv, O⟩ := bF ht;obtain ⟨u, E, D⟩ := bF O;clear ht O;rw [j.ev hv, j.ev E, uP];clear hv E;unfold zK at D;generalize C : P.underlying t = ud at D;split at D
    · rename_i p len cp k m U
      rcases gH D with ⟨_, ht⟩ | ⟨I, ht⟩
      · exact ht.elim
      · have I : oQ P U = true := by simpa using I
        obtain ⟨i, hi⟩ := cq9.1 I;obtain ⟨H, ht⟩ := ht;obtain ⟨q, rfl, ht⟩ := gZ ht;unfold Instr.indexAt;show aQ P (underlying t >>= _) h _;rw [an, az C];show aQ P (underlying t >>= _) h _;rw [an, az C];show aQ P (if 0 <= m /\ m < len then (sizeOf U >>= λz => (pure (Value.pointer (some (q.add (m.toNat * z)))) : Sem Xab)) else _) h _;rw [ag9 H, an, bT hi];exact ht
    · rename_i p k m len U
      rcases gH D with ⟨_, ht⟩ | ⟨I, ht⟩
      · exact ht.elim
      · have I : oQ P U = true := by simpa using I
        obtain ⟨i, hi⟩ := cq9.1 I;obtain ⟨H, ht⟩ := ht;obtain ⟨q, rfl, ht⟩ := gZ ht;unfold Instr.indexAt;show aQ P (underlying t >>= _) h _;rw [an, az C];show aQ P (underlying t >>= _) h _;rw [an, az C];show aQ P (if 0 <= m /\ m < len then (sizeOf U >>= λz => (pure (Value.pointer (some (q.add (m.toNat * z)))) : Sem Xab)) else _) h _;rw [ag9 H, an, bT hi];exact ht
    · exact D.elim
  case index t x i =>
    obtain ⟨v, hv, O⟩ := bF ht;obtain ⟨u, E, D⟩ := bF O;clear ht O;rw [j.ev hv, j.ev E, uP];clear hv E;unfold Je at D;generalize C : P.underlying t = ud at D;split at D
    · rename_i s k m
      obtain ⟨H, ht⟩ := D;unfold Instr.index;show aQ P (underlying t >>= _) h _;rw [an, az C]
      have hs : s[m.toNat]? = some (s.data.toList.getD m.toNat 0) := by
        have hlt : m.toNat < s.size :=ad
        have : s[m.toNat]? = some s[m.toNat] := by simp [hlt]
        rw [this]
        congr 1
        have h2 : m.toNat < s.data.toList.length := by simpa using hlt
        rw [cg9, ad9 h2] <;> rfl
      show aQ P (match (if 0 <= m then s[m.toNat]? else none) with | some B => (pure (Value.int .u8 B.toNat) : Sem Xab) | none => boundsPanic k m s.size .index) h _;rw [ag9 H.1, hs];exact ht
    · exact oR D
    · exact D.elim
  case lookup t m x ok =>
    obtain ⟨v, hv, ht⟩ := bF ht;obtain ⟨u, E, ht⟩ := bF ht;rw [j.ev hv, j.ev E, uP];generalize C : P.underlying t = ud at ht;split at ht
    · cases ok <;> simp only at ht <;> exact oR ht
    · exact ht.elim
  case mapUpdate t m x y =>
    obtain ⟨v, hv, ht⟩ := bF ht;obtain ⟨u, E, ht⟩ := bF ht;obtain ⟨w, Q, ht⟩ := bF ht;rw [j.ev hv, j.ev E, j.ev Q, opU];exact ht
  case insert t m x y =>
    obtain ⟨v, hv, ht⟩ := bF ht;obtain ⟨u, E, ht⟩ := bF ht;obtain ⟨w, Q, ht⟩ := bF ht;rw [j.ev hv, j.ev E, j.ev Q, opU];exact ht
  case mapEntry t m x =>
    obtain ⟨v, hv, ht⟩ := bF ht;obtain ⟨u, E, ht⟩ := bF ht;rw [j.ev hv, j.ev E, uP];generalize C : P.underlying t = ud at ht;split at ht
    · exact oR ht
    · exact ht.elim
  case entryStore t m x y =>
    obtain ⟨v, hv, ht⟩ := bF ht;obtain ⟨u, E, ht⟩ := bF ht;obtain ⟨w, Q, ht⟩ := bF ht;rw [j.ev hv, j.ev E, j.ev Q, opU];exact ht
  case range t x =>
    obtain ⟨v, hv, ht⟩ := bF ht;rw [j.ev hv, uP];exact Us ht
  case next it B =>
    obtain ⟨v, hv, ht⟩ := bF ht;rw [j.ev hv, uP];generalize C : P.underlying W = ud at ht;split at ht
    · rename_i ts
      generalize hts : ts.toList = tl at ht;cases tl with
      | nil =>
        refine ec _ _ _ _ ?_ ht;rintro v h' (⟨rfl, M⟩ | ⟨x, rfl, M⟩)
        · exact M
        · rw [dX] at M; exact M
      | cons t0 ts =>
        refine ec _ _ _ _ ?_ ht;rintro v h' (⟨rfl, M⟩ | ⟨x, rfl, M⟩)
        · exact M
        · rw [dX] at M; exact M
    · exact ht.elim
  case entry it =>
    obtain ⟨v, hv, ht⟩ := bF ht;rw [j.ev hv, uP];exact oR ht
  case typeAssert x t d ok =>
    obtain ⟨v, hv, ht⟩ := bF ht;rw [j.ev hv, uP];cases ok <;> simp only at ht <;> exact oR ht
  case extract x i =>
    obtain ⟨v, hv, ht⟩ := bF ht;rw [j.ev hv, uP];cases v with
    | tuple vs =>
      unfold Instr.extract;show aQ P (match vs[i]? with | some v => pure v | none => stuck "Extract: no such component") h _
      rw [<- dq9];cases hi : vs.toList[i]? with
      | none => simp only [hi] at ht; exact ht.elim
      | some w => simp only [hi] at ht; exact ht
    | _ => exact ht.elim
  case call c =>
    rw [an];unfold resolve;cases hc : c.callee with
    | builtin B =>
      simp only [hc] at ht;obtain ⟨vs, et, ht⟩ := jw ht;have Z : c.args.map g.eval = vs.toArray := by apply ca9.1; simpa using j.Ug et
      simp only [Z];exact H2 ht
    | invoke r m => simp only [hc] at ht; exact ht.elim
    | value A =>
      simp only [hc] at ht;cases htm : Hi A with
      | true =>
        simp only [htm] at ht;obtain ⟨gv, hg, ht⟩ := bF ht;obtain ⟨vs, et, ht⟩ := jw ht;have Z : c.args.map g.eval = vs.toArray := by apply ca9.1; simpa using j.Ug et
        simp only [Z, j.ev hg];obtain ⟨f', J, ca, rfl, ht, fn, hfn, H, hn⟩ := ht
        have hbd : gC P f' = true := by
          unfold gC;rw [hfn];simp [H, hn]
        show aQ P (callFunc f' (J ++ vs.toArray ++ ca)) h _
        have e2 : (J.toList ++ vs ++ ca.toList).toArray = J ++ vs.toArray ++ ca := by
          apply ca9.1; simp
        rw [<- e2, xQ hbd];refine HC.mono ht ?_;rintro v h' ⟨x, rfl, M⟩;rw [dX] at M;exact M
      | false =>
        simp only [htm] at ht;obtain ⟨gv, hg, ht⟩ := bF ht;obtain ⟨vs, et, ht⟩ := jw ht;have Z : c.args.map g.eval = vs.toArray := by apply ca9.1; simpa using j.Ug et
        simp only [Z, j.ev hg]
        obtain ⟨A, J, ca, rfl⟩ : ∃ A J ca, gv = .func (.func A) J ca := by
          cases gv with
          | func fn J ca => cases fn <;> first | exact ht.elim | exact ⟨_, _, _, rfl⟩
          | _ => exact ht.elim
        have := Qy (show Et P A (J.toList ++ vs ++ ca.toList) W kk L K h from ht);show aQ P (callFunc A (J ++ vs.toArray ++ ca)) h _
        have e2 : (J.toList ++ vs ++ ca.toList).toArray = J ++ vs.toArray ++ ca := by
          apply ca9.1; simp
        rw [<- e2];exact this
  all_goals exact ht.elim
end ops
end Go.Sx
