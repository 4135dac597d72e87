/- Part of the framework. No condition. -/
import Derived.Test.YtmdncdaladplkaaGreatDoorSxX
set_option linter.all false
set_option maxHeartbeats 4000000
namespace Go.Sx
section sems
variable {P:Program} {h:Hp}
def fG {α:Type} (f:Program->Sem α) (K:α->Hp->Prop):aP P (program >>= f) h K=aP P (f P) h K:=by
 rw [an]; rfl
variable {H:TypeId} {U:TypeDesc}
def az (a:P.underlying H=some U) (K:TypeDesc->Hp->Prop):aP P (underlying H) h K=K U h:=by
 unfold underlying; rw [fG,a]; rfl
def info_of_underlying (a:P.underlying H=some U):∃ i,P.info? H=some i:=by
 unfold Program.underlying at a;cases hi:P.info? H with
 | none=>rw [hi] at a; simp at a
 | some i=>exact ⟨i,rfl⟩
variable {O:TypeInfo}
def hZ (hi:P.info? H=some O) (K:TypeInfo->Hp->Prop):aP P (typeInfo H) h K=K O h:=by
 unfold typeInfo; rw [fG,hi]; rfl
def cP (hi:P.info? H=some O):P.cellsOf H=O.size:=by
 simp [Program.cellsOf,hi]
def bY (hi:P.info? H=some O) (K:Nat->Hp->Prop):aP P (sizeOf H) h K=K (P.cellsOf H) h:=by
 unfold sizeOf; rw [an,hZ hi,cP hi]; rfl
def dC {z:Xab} (a:(P.info? H).bind (·.zero)=some z) (K:Xab->Hp->Prop):aP P (zeroValue H) h K=K z h:=by
 cases hi:P.info? H with
 | none=>rw [hi] at a; simp at a
 | some i =>
  rw [hi] at a; simp at a;unfold zeroValue; rw [an,hZ hi,a]; rfl
def jV {b:Bool} (a:cK P H=some b) (K:Bool->Hp->Prop):aP P (isAgg H) h K=K b h:=by
 unfold cK at a;cases c:P.underlying H with
 | none=>rw [c] at a; simp at a
 | some d =>
  rw [c] at a;unfold isAgg; rw [an,az c]
  all_goals (cases d <;> simp at a <;> subst a <;> rfl)
def uf {b:Bool} (a:cK P H=some b):∃ i,P.info? H=some i:=by
 unfold cK at a;cases c:P.underlying H with
 | none=>rw [c] at a; simp at a
 | some d=>exact info_of_underlying c
theorem nk (a:Xax):∀ (c:List Xab) (i:Nat) (b:Array Xab) (K:Array Xab->Hp->Prop),aF h a i c->K (b++c.toArray) h ->
  aP P (loadCellsFrom a i c.length b) h K
 | [],i,b,K,_,hk=>by
  have d:K b h:=by simpa using hk
  exact d
 | v::c,i,b,K,hc,hk=>by
  simp only [List.length_cons,loadCellsFrom];rw [an];refine ⟨v,hc.1,nk a c (i+1) (b.push v) K hc.2 ?_⟩;have e:b.push v++c.toArray=b++(v::c).toArray:=by
   apply by9.1; simp
  rw [e]; exact hk
def dF {a:Xax} {n:Nat} {b:List Xab} (hn:b.length=n) (hc:aF h a 0 b) (K:Array Xab->Hp->Prop) (hk:K b.toArray h):aP P (loadCells a n) h K:=by
 subst hn;exact nk a b 0 #[] K hc (by simpa using hk)
theorem fP (a:Xax):∀ (b:List Xab) (h:Hp) (i:Nat) (K:Unit->Hp->Prop),zg h a i b->K () (sY h a i b)->aP P (storeCells a b i) h K
 | [],h,i,K,_,hk=>hk
 | v::b,h,i,K,hc,hk=>by
  simp only [storeCells];rw [an];exact ⟨hc.1,hc.2.1,hc.2.2.1,fP a b _ (i+1) K hc.2.2.2 hk⟩
end sems
structure Nd where
 n:Nat
 d:List Deferred
instance:Coe Nd Nat:=⟨Nd.n⟩
structure hQ (n:Nd) (e:Env) (a:Act):Prop where
 size:a.tmps.size=n.n
 defers:a.defers=n.d
 get:∀ s v,cX e s=some v->a.tmps.getD s undef=v
def hQ.ev {n:Nd} {e:Env} {a:Act} (g:hQ n e a) {x:Operand} {v:Xab} (b:ev e x=some v):a.eval x=v:=by
 cases x with
 | tmp t=>exact g.get t v b
 | const w=>simpa [Sx.ev,Act.eval] using b
 | global i=>simpa [Sx.ev,Act.eval] using b
 | func f=>simpa [Sx.ev,Act.eval] using b
def dJ (e:Env) (s:Nat) (v:Option Xab) (t:Nat):cX ((s,v)::e) t=if s=t then v else cX e t:=by
 simp only [cX]
 by_cases h:s=t
 ·subst h; simp
 ·have:Nat.beq s t=false:=by
   cases a:Nat.beq s t
   ·rfl
   ·exact (h (av9 a)).elim
  rw [this,ac9 h]; rfl
def hQ.put {n:Nd} {e:Env} {a:Act} (g:hQ n e a) (dst:Option Tmp) (v:Xab):hQ n (ez n e dst v) (a.put dst v):=by
 cases dst with
 | none=>exact g
 | some d =>
  refine ⟨by simp [Act.put,g.size],by simp [Act.put,g.defers],fun s u b=>?_⟩;simp only [ez] at b;cases f:Nat.blt d n with
  | true =>
   have h:d<n:=by simpa [Nat.blt_eq] using f
   rw [f] at b;simp only [cond_true,dJ] at b;simp only [Act.put,Array.getD_eq_getD_getElem?,Array.getElem?_setIfInBounds]
   by_cases i:d=s
   ·subst i;rw [af9 rfl] at b;simp at b; subst b;simp [g.size,h]
   ·rw [ac9 i] at b;rw [ac9 i]
    have:=g.get s u b
    simpa [Array.getD_eq_getD_getElem?] using this
  | false =>
   rw [f] at b;have h:¬ d<n:=by intro j; rw [<- Nat.blt_eq] at j; rw [f] at j; cases j
   have c:a.put (some d) v=a:=by
    simp only [Act.put]
    have:a.tmps.setIfInBounds d v=a.tmps:=Array.setIfInBounds_eq_of_size_le (by rw [g.size]; exact Nat.le_of_not_lt h)
    rw [this]
   rw [c];exact g.get s u b
def hQ.wh {n:Nd} {e:Env} {a:Act} (g:hQ n e a) {s:Nat} {v:Xab} (hv:cX e s=some v) (w:Xab) (f:w=v):hQ n (ez n e (some s) w) a:=by
 subst f;refine ⟨g.size,g.defers,fun t u b=>?_⟩;simp only [ez] at b;cases c:Nat.blt s n with
 | true =>
  rw [c] at b;simp only [cond_true,dJ] at b
  by_cases d:s=t
  ·subst d; rw [af9 rfl] at b; simp at b; subst b; exact g.get s w hv
  ·rw [ac9 d] at b; exact g.get t u b
 | false=>rw [c] at b; exact g.get t u b
section trees
variable {L:Lp} {K:Xab->Hp->Prop} {h:Hp}
def bz {e:Env} {x:Operand} {k:Xab->T} (ht:cd e x k L K h):∃ v,ev e x=some v/\k v L K h:=by
 unfold cd at ht;cases a:ev e x with
 | none=>rw [a] at ht; exact ht.elim
 | some v=>rw [a] at ht; exact ⟨v,rfl,ht⟩
theorem iZ {e:Env}:∀ {xs:List Operand} {k:List Xab->T},iK e xs k L K h->∃ a,xs.map (ev e)=a.map some/\k a L K h
 | [],k,ht=>⟨[],rfl,ht⟩
 | x::xs,k,ht=>by
  obtain ⟨v,hv,ht⟩:=bz ht;obtain ⟨a,ep,ht⟩:=iZ ht;exact ⟨v::a,by simp [hv,ep],ht⟩
theorem hQ.Tc {n:Nd} {e:Env} {a:Act} (g:hQ n e a):∀ {xs:List Operand} {c:List Xab},xs.map (Sx.ev e)=c.map some->xs.map a.eval=c
 | [],[],_=>rfl
 | x::xs,v::c,b=>by
  simp only [List.map_cons,List.cons.injEq] at b;simp only [List.map_cons,g.ev b.1,g.Tc b.2]
 | [],v::c,b=>by simp at b
 | x::xs,[],b=>by simp at b
def gu {p:Xac} {k:Xax->T} (ht:T.bi p k L K h):∃ a,p=some a/\k a L K h:=by
 cases p with
 | none=>exact ht.elim
 | some a=>exact ⟨a,rfl,ht⟩
def fZ {b:Bool} {t u:T} (ht:(cond b t u) L K h):(b=true/\t L K h)\/(b=false/\u L K h):=by
 cases b
 ·exact .inr ⟨rfl,ht⟩
 ·exact .inl ⟨rfl,ht⟩
end trees
section ops
variable {P:Program} {L:Lp} {K:Xab->Hp->Prop} {h:Hp}
def ub {s:Sem Xab} {R:Xab->Hp->Prop}:aP P (do pure (Next.value (<- s))) h (DL P R)=aP P s h R:=by
 rw [an]; rfl
def Zh {s:Sem Unit} {R:Xab->Hp->Prop}:aP P (do s; pure Next.skip) h (DL P R)=aP P s h (fun _ h'=>R undef h'):=by
 rw [an]; rfl
variable {V:Bool}
def ou {s:Sem Xab} {cs:List ee} {a:Xab->T} (ht:T.ef P s V cs (jJ _ fun l=>a (rv V cs l)) L K h) :
  aP P s h (fun v h'=>a v L K h'):=by
 refine dW _ _ _ _ ?_ ht;rintro v h' ⟨x,rfl,b⟩;rw [dP] at b;exact b
variable {H O:TypeId}
def np {s:Sem Xab} {a:Xab->T} (ht:T.ef P s false [(false,[.slice H])] (fun p l c=>a (.slice p l c)) L K h) :
  aP P s h (fun v h'=>a v L K h'):=by
 refine dW _ _ _ _ ?_ ht;rintro v h' ⟨x,rfl,b⟩;exact b
def TT {s:Sem Xab} {a:Xab->T} (ht:T.ef P s false [(false,[.bool])] (fun b=>a (.bool b)) L K h):aP P s h (fun v h'=>a v L K h'):=by
 refine dW _ _ _ _ ?_ ht;rintro v h' ⟨x,rfl,c⟩;exact c
def Ew {s:Sem Xab} {a:Xab->T} (ht:T.ef P s false [(false,[.int .i64])] (fun b=>a (.int .i64 b)) L K h):aP P s h (fun v h'=>a v L K h'):=by
 refine dW _ _ _ _ ?_ ht;rintro v h' ⟨x,rfl,c⟩;exact c
def Sz {s:Sem Xab} {a:Xab->T} (ht:T.ef P s false [(false,[.string])] (fun b=>a (.string b)) L K h):aP P s h (fun v h'=>a v L K h'):=by
 refine dW _ _ _ _ ?_ ht;rintro v h' ⟨x,rfl,c⟩;exact c
def Tz {s:Sem Xab} {c:Xab->T} (ht:T.ef P s false [(false,[.map H O])] (fun O=>c (.map O)) L K h):aP P s h (fun v h'=>c v L K h'):=by
 refine dW _ _ _ _ ?_ ht;rintro v h' ⟨x,rfl,d⟩;exact d
def Tp {s:Sem Xab} {c:Xab->T} (ht:T.ef P s false [(false,[.pointer H])] (fun b=>c (.pointer b)) L K h):aP P s h (fun v h'=>c v L K h'):=by
 refine dW _ _ _ _ ?_ ht;rintro v h' ⟨x,rfl,d⟩;exact d
def RU {s:Sem Xab} {a:T} (ht:T.ef P s true [] a L K h):aP P s h (fun v h'=>v=.tuple #[]/\a L K h'):=by
 refine dW _ _ _ _ ?_ ht;rintro v h' ⟨x,rfl,b⟩;exact ⟨rfl,b⟩
variable {Y:IntKind} {Z d:Int}
def R8 {op : BinOp} {a : Xab -> T} (b : nD op = false) (t : TypeId) (ht : JA op Y Z d a L K h) :
    aP P (binOp op t (.int Y Z) (.int Y d)) h (fun v h' => a v L K h') := by
  cases op <;> simp only [nD, Bool.true_eq_false] at b <;> simp only [JA] at ht <;>
    first
    | exact ht.elim
    | (simp only [binOp, Op.intArith, Op.intDiv, Op.intBits, Op.intCmp, ne_eq, not_true_eq_false, if_false]; exact ht)
    | (obtain ⟨h0, ht⟩ := ht
       simp only [binOp, Op.intDiv, ne_eq, not_true_eq_false, if_false, if_neg h0]; exact ht)
def M8 {op:BinOp} {k':IntKind} {a:Xab->T} (b:nD op=true) (t:TypeId) (ht:AZ op Y Z d a L K h) :
  aP P (binOp op t (.int Y Z) (.int k' d)) h (fun v h'=>a v L K h'):=by
 cases op <;> simp only [nD,Bool.false_eq_true] at b <;> simp only [AZ] at ht <;> obtain ⟨h0,ht⟩:=ht <;>
  simp only [binOp,Op.shift,if_neg (Int.not_lt.2 h0)] <;> exact ht
def Um {op : BinOp} {m n : Xaa} {a : Xab -> T} (t : TypeId) (ht : Jt op m n a L K h) :
    aP P (binOp op t (.string m) (.string n)) h (fun v h' => a v L K h') := by
  cases op <;> simp only [Jt] at ht <;>
    first
    | exact ht.elim
    | (simp only [binOp, Op.stringOp]; exact ht)
    | (obtain ⟨h0, ht⟩ := ht
       simp only [binOp, Op.stringOp, if_neg (Int.not_lt.2 h0)]; exact ht)
def CV:Xab->Bool
 | .nilIface=>false
 | .agg _=>false
 | _=>true
variable {U a:Operand}
def gy {op:BinOp} {c b:Xab} (d:CV c=true) {R:Xab->Hp->Prop} :
  aP P (do eqGuard op H U a c b; binOp op H c b) h R=aP P (binOp op H c b) h R:=by
 rw [an]
 have:∀ K:Unit->Hp->Prop,aP P (eqGuard op H U a c b) h K=K () h:=by
  intro K;cases op <;> first | rfl | (cases c <;> first | (simp [CV] at d; done) | rfl)
 rw [this]
def I9 (a:P.underlying H=some .bool) (m n:Bool) (R:Bool->Hp->Prop):aP P (Op.equal H (.bool m) (.bool n)) h R=R (m==n) h:=by
 show aP P (Op.equalIn (9999+1) H (.bool m) (.bool n)) h R=_;unfold Op.equalIn;rw [an,az a]; rfl
def CC (a:P.underlying H=some (.pointer O)) (p:Xac) (R:Bool->Hp->Prop):aP P (Op.equal H (.pointer p) (.pointer none)) h R=R p.isNone h:=by
 show aP P (Op.equalIn (9999+1) H (.pointer p) (.pointer none)) h R=_;unfold Op.equalIn;rw [an,az a]; cases p <;> rfl
def zz (a:P.underlying H=some (.slice O)) (p:Xac) (l c:Nat) (R:Bool->Hp->Prop):aP P (Op.equal H (.slice p l c) (.slice none 0 0)) h R=R p.isNone h:=by
 show aP P (Op.equalIn (9999+1) H (.slice p l c) (.slice none 0 0)) h R=_;unfold Op.equalIn;rw [an,az a]; cases p <;> rfl
def Cw {b:TypeId} (c:P.underlying H=some (.map O b)) (p:Option Nat) (R:Bool->Hp->Prop):aP P (Op.equal H (.map p) (.map none)) h R=R p.isNone h:=by
 show aP P (Op.equalIn (9999+1) H (.map p) (.map none)) h R=_;unfold Op.equalIn;rw [an,az c]; cases p <;> rfl
def vZ {op:BinOp} {a b:Xab} {c:Xab->T}
  (d:∀ R:Bool->Hp->Prop,aP P (Op.equal H a b) h R=R V h)
  (h1:binOp .eql H a b=(do pure (.bool (<- Op.equal H a b)))) (h2:binOp .neq H a b=(do pure (.bool (!(<- Op.equal H a b)))))
  (ht:asked op V c T.fail L K h):aP P (binOp op H a b) h (fun v h'=>c v L K h'):=by
 cases op <;> simp only [asked] at ht <;> first
  | exact ht.elim
  | (rw [h1,an,d]; exact ht)
  | (rw [h2,an,d]; exact ht)
def Uo {op:BinOp} {c b:Xab} {d:Xab->T} (ht:RT P op H U a c b d L K h) :
  aP P (do eqGuard op H U a c b; binOp op H c b) h (fun v h'=>d v L K h'):=TT ht
variable {b:Env}
def Ts {op:BinOp} {g f:Xab} {A:Xab->T} (s:ev b a=some f)
  (ht:EQ P op H U a g f A L K h):aP P (do eqGuard op H U a g f; binOp op H g f) h (fun v h'=>A v L K h'):=by
 have u:∀ q,f=.pointer q->isNil a=true->q=none:=by
  intro q w hn;cases a <;> simp only [isNil,Bool.false_eq_true] at hn;rename_i c;simp only [Sx.ev,Option.some.injEq] at s;subst s; subst w;cases q with
  | none=>rfl
  | some g=>simp [isNil] at hn
 have o:∀ q l c,f=.slice q l c->isNil a=true->q=none/\l=0/\c=0:=by
  intro q l c w hn;cases a <;> simp only [isNil,Bool.false_eq_true] at hn;rename_i c;simp only [Sx.ev,Option.some.injEq] at s;subst s; subst w;cases q with
  | none =>
   cases l <;> cases c <;> simp [isNil] at hn <;> exact ⟨rfl,rfl,rfl⟩
  | some g=>simp [isNil] at hn
 have r:∀ q,f=.map q->isNil a=true->q=none:=by
  intro q w hn;cases a <;> simp only [isNil,Bool.false_eq_true] at hn;rename_i c;simp only [Sx.ev,Option.some.injEq] at s;subst s; subst w;cases q with
  | none=>rfl
  | some g=>simp [isNil] at hn
 unfold EQ at ht;cases j:sP P H U a with
 | false=>simp only [j] at ht; exact Uo ht
 | true =>
 simp only [j] at ht;unfold uc at ht;split at ht
 ·rename_i k m k' n;rw [gy rfl];cases z:nD op with
  | true=>simp only [z] at ht; exact M8 z H ht
  | false =>
   simp only [z] at ht
   by_cases hk:k=k'
   ·subst hk;simp only [decide_true] at ht;exact R8 z H ht
   ·simp only [hk,decide_false] at ht;exact ht.elim
 ·rw [gy rfl]; exact Um H ht
 ·rename_i m n;rw [gy rfl];cases i:P.underlying H with
  | none=>simp only [i] at ht; exact ht.elim
  | some d =>
   cases d <;> simp only [i] at ht <;> first
    | exact ht.elim
    | exact vZ (fun R=>I9 i m n R) rfl rfl ht
 ·rename_i p q;cases i:P.underlying H with
  | none=>simp only [i] at ht; exact ht.elim
  | some d =>
   cases d <;> simp only [i] at ht <;> first
    | exact ht.elim
    | skip
   have hn:isNil a=true:=by simpa [sP,i] using j
   obtain rfl:=u q rfl hn;rw [gy rfl]; exact vZ (fun R=>CC i p R) rfl rfl ht
 ·rename_i p l c q l' c';cases i:P.underlying H with
  | none=>simp only [i] at ht; exact ht.elim
  | some d =>
   cases d <;> simp only [i] at ht <;> first
    | exact ht.elim
    | skip
   have hn:isNil a=true:=by simpa [sP,i] using j
   obtain ⟨rfl,rfl,rfl⟩:=o q _ _ rfl hn;rw [gy rfl]; exact vZ (fun R=>zz i p l c R) rfl rfl ht
 ·rename_i p q;cases i:P.underlying H with
  | none=>simp only [i] at ht; exact ht.elim
  | some d =>
   cases d <;> simp only [i] at ht <;> first
    | exact ht.elim
    | skip
   have hn:isNil a=true:=by simpa [sP,i] using j
   obtain rfl:=r q rfl hn;rw [gy rfl]; exact vZ (fun R=>Cw i p R) rfl rfl ht
 ·exact ht.elim
def VO {op:UnOp} {a:Xab} {b:Xab->T} (ht:Xi op a b L K h):aP P (Op.unary op a) h (fun v h'=>b v L K h'):=by
 unfold Xi at ht;split at ht
 ·exact ht
 ·exact ht
 ·exact ht
 ·exact ht.elim
def Qa {a:Xab} {b:Xab->T} (ht:yB P H O a b L K h):aP P (convert H O a) h (fun v h'=>b v L K h'):=by
 unfold yB at ht;generalize c:P.underlying H=us at ht;generalize e:P.underlying O=f at ht;split at ht
 ·unfold convert;rw [an,az c,an,az e];exact ht
 ·unfold convert;rw [an,az c,an,az e];exact ht
 ·exact ht.elim
 ·exact np ht
 ·exact Sz ht
 ·exact ht.elim
def eR (y:Nat) (a:BoundsCode) {v:Xab} (hv:v=.int Y Z) (h0:0<=Z) (h1:Z<=y) (R:Nat->Hp->Prop) :
  aP P (Instr.sliceBound v y a) h R=R Z.toNat h:=by
 subst hv;unfold Instr.sliceBound;rw [an];show aP P (if 0<=Z/\Z<=↑y then pure Z.toNat else boundsPanic Y Z ↑y a) h R=_;rw [af9 ⟨h0,h1⟩]; rfl
def rS {v:Xab} (hv:eO (some v)=true):∃ k i,v=.int k i:=by
 cases v <;> simp only [eO,Bool.false_eq_true] at hv;exact ⟨_,_,rfl⟩
def jK (isSlice:Bool) (len cap:Nat) {lo hi:Option Xab} (f:eO lo=true) (g:eO hi=true)
  (h0:0<=kT lo) (h1:kT lo<=lA len hi) (h2:lA len hi<=cap) (R:Nat × Nat × Nat->Hp->Prop) :
  aP P (Instr.sliceBounds isSlice len cap lo hi none) h R=R ((kT lo).toNat,(lA len hi).toNat,cap) h:=by
 unfold Instr.sliceBounds;cases hi with
 | none =>
  cases lo with
  | none=>rfl
  | some v =>
   obtain ⟨k,i,rfl⟩:=rS f;have a:0<=i:=h0;have b:i<=len:=h1;show aP P (Instr.sliceBound (.int k i) len _ >>= fun l=>pure (l,len,cap)) h R=_;rw [an,eR len _ rfl a b]; rfl
 | some u =>
  obtain ⟨ku,iu,rfl⟩:=rS g;have c:(0:Int)<=iu:=Int.le_trans h0 h1;cases lo with
  | none =>
   show aP P (Instr.sliceBound (.int ku iu) cap _ >>= fun e=>pure (0,e,cap)) h R=_;have d:iu<=cap:=h2;rw [an,eR cap _ rfl c d]; rfl
  | some v =>
   obtain ⟨k,i,rfl⟩:=rS f;show aP P (Instr.sliceBound (.int ku iu) cap _ >>= fun e=>Instr.sliceBound (.int k i) e _ >>= fun l=>pure (l,e,cap)) h R=_;have a:0<=i:=h0;have b:i<=iu:=h1;have d:iu<=cap:=h2;rw [an,eR cap _ rfl c d,an,eR _ _ rfl a (by rw [Int.toNat_of_nonneg c]; exact b)]; rfl
def Lt {a:Xab} {lo hi c:Option Xab} {g:Xab->T} (ht:jb P H a lo hi c g L K h) :
  aP P (Instr.sliceAt H a lo hi c) h (fun v h'=>g v L K h'):=by
 unfold jb at ht;cases hint:eO lo && eO hi && eO c with
 | false=>simp only [hint] at ht; exact ht.elim
 | true =>
  simp only [hint] at ht;simp only [Bool.and_eq_true] at hint;obtain ⟨⟨j,k⟩,n⟩:=hint;cases b:P.underlying H with
  | none=>simp only [b] at ht; exact np ht
  | some d =>
   cases d <;> simp only [b] at ht <;> first | exact np ht | skip
   case string =>
    cases c with
    | some m=>cases a <;> exact ht.elim
    | none =>
    cases a <;> first | exact ht.elim | skip
    rename_i s;obtain ⟨⟨h0,h1,h2⟩,ht⟩:=ht;unfold Instr.sliceAt;rw [an,az b];show aP P (Instr.slice H (.string s) lo hi none) h _;unfold Instr.slice;rw [an,az b];show aP P (Instr.sliceBounds false s.size s.size lo hi none >>= fun x=>(pure (Value.string (s.extract x.1 x.2.1)):Sem Xab)) h _;rw [an,jK false _ _ j k h0 h1 h2];exact ht
   case slice l =>
    cases c with
    | some m=>exact np ht
    | none =>
    cases a <;> first | exact ht.elim | skip
    rename_i p len cap;simp only at ht;cases e:ot P l with
    | false=>simp only [e] at ht; exact ht.elim
    | true =>
     simp only [e] at ht;obtain ⟨⟨h0,h1,h2⟩,ht⟩:=ht;obtain ⟨i,f⟩:=cl9.1 e;unfold Instr.sliceAt;rw [an,az b];show aP P (Instr.slice H (.slice p len cap) lo hi none) h _;unfold Instr.slice;rw [an,az b];show aP P (Instr.sliceBounds true len cap lo hi none >>= fun x=>sizeOf l >>= fun size=>(pure (Value.slice (if x.2.2=x.1 then p else p.map (·.add (x.1*size))) (x.2.1-x.1) (x.2.2-x.1)):Sem Xab)) h _;rw [an,jK true _ _ j k h0 h1 h2,an,bY f];exact ht
def NU {cs:Array Xab} {off:Nat} {c:Xab->T} (ht:uh P H cs.toList off c L K h) :
  aP P (part H cs off) h (fun v h'=>c v L K h'):=by
 have e:∀ n,((cs.toList.drop off).take n).toArray=cs.extract off (off+n):=by
  intro n;apply by9.1;simp [Array.toList_extract,List.extract_eq_drop_take]
 unfold uh at ht;generalize a:P.underlying H=j at ht;split at ht
 ·obtain ⟨i,hi⟩:=info_of_underlying a;unfold part;rw [an,jV (b:=true) (by simp [cK,a])];show aP P (sizeOf H >>= fun n=>(pure (Value.agg (cs.extract off (off+n))):Sem Xab)) h _;rw [an,bY hi,<- e];exact ht
 ·obtain ⟨i,hi⟩:=info_of_underlying a;unfold part;rw [an,jV (b:=true) (by simp [cK,a])];show aP P (sizeOf H >>= fun n=>(pure (Value.agg (cs.extract off (off+n))):Sem Xab)) h _;rw [an,bY hi,<- e];exact ht
 ·rename_i d f g;unfold part;rw [an,jV (b:=false) (by simp only [cK,a])];show aP P (match cs[off]? with | some v => pure v | none => stuck "part: no such cell") h _
  rw [<- dm9];cases hv:cs.toList[off]? with
  | none=>simp only [hv] at ht; exact ht.elim
  | some v=>simp only [hv] at ht; exact ht
 ·exact ht.elim
variable {e:FuncId}
def xh (a:fX P e=true) (args:Array Xab) (R:Next->Hp->Prop):aP P (callFunc e args) h R=R (.enter e args) h:=by
 unfold fX at a;unfold callFunc;rw [fG];cases b:P.funcs[e]? with
 | none=>rw [b] at a; simp at a
 | some fn =>
  rw [b] at a;simp only [Bool.and_eq_true,Bool.not_eq_true'] at a;obtain ⟨h1,h2⟩:=a;have c:fn.body.isNone=false:=by cases d:fn.body <;> simp_all
  simp only [h2,c]; rfl
def PE {args:List Xab} {c:Xab->T} (ht:DQ P e args H c L K h) :
  aP P (callFunc e args.toArray) h (DL P fun v h'=>c v L K h'):=by
 unfold DQ at ht;cases b:fX P e with
 | false =>
  simp only [b] at ht
  have:=ou ht
  unfold JE at this;rw [an] at this;refine dW _ _ _ _ ?_ this;intro x h' a;cases x <;> first | exact a | exact a.elim
 | true =>
  simp only [b] at ht;rw [xh b];refine HC.mono ht ?_;rintro v h' ⟨x,rfl,a⟩;rw [dP] at a;exact a
variable {c:Call}
def SD {args:List Xab} {f:Xab->T} (ht:AK P c H args f L K h) :
  aP P (Builtin.len_ c.argTypes H args.toArray) h (fun v h'=>f v L K h'):=by
 unfold AK at ht;cases e:(c.argTypes[0]?).bind P.underlying with
 | none=>simp only [e] at ht; exact Ew ht
 | some d =>
  obtain ⟨g,a,b⟩:=aa9.1 e;cases d <;> simp only [e] at ht <;> first | exact Ew ht | skip
  case string =>
   split at ht
   ·unfold Builtin.len_;simp only [a];show aP P (underlying g >>= _) h _;rw [an,az b];exact ht
   ·exact ht.elim
  case slice i =>
   split at ht
   ·unfold Builtin.len_;simp only [a];show aP P (underlying g >>= _) h _;rw [an,az b];exact ht
   ·exact ht.elim
def Sp {args:List Xab} {f:Xab->T} (ht:LX P c args f L K h) :
  aP P (Builtin.cap_ c.argTypes H args.toArray) h (fun v h'=>f v L K h'):=by
 unfold LX at ht;cases a:(c.argTypes[0]?).bind P.underlying with
 | none=>simp only [a] at ht; exact ht.elim
 | some d =>
  obtain ⟨g,b,e⟩:=aa9.1 a;cases d <;> simp only [a] at ht <;> first | exact ht.elim | skip
  split at ht
  ·unfold Builtin.cap_;simp only [b];show aP P (underlying g >>= _) h _;rw [an,az e];exact ht
  ·exact ht.elim
inductive lQ:List (Nat × Xab)->List (Nat × List Xab)->Prop
 | nil:lQ [] []
 | cons {i:Nat} {v:Xab} {l:List Xab} {ps:List (Nat × Xab)} {r:List (Nat × List Xab)} (h:v.cells.toList=l) (t:lQ ps r):lQ ((i,v)::ps) ((i,l)::r)
def Ms {v:Xab} (h:fk v=true):v.cells.toList=j2 v:=by
 cases v <;> first | rfl | (simp [fk] at h)
def yZ {v:Xab} (h:fk v=false):v.cells.toList=[v]:=by
 cases v <;> first | rfl | (simp [fk] at h)
theorem tn {agg:Nat->Option Bool}:∀ {ps:List (Nat × Xab)} {k:List (Nat × List Xab)->T},fC agg ps k L K h->∃ r,lQ ps r/\k r L K h
 | [],k,ht=>⟨[],.nil,ht⟩
 | (i,v)::l,k,ht=>by
  simp only [fC] at ht;cases c:agg i with
  | none=>rw [c] at ht; exact ht.elim
  | some b =>
   rw [c] at ht;cases b with
   | true =>
    rcases fZ ht with ⟨hv,ht⟩ | ⟨_,ht⟩
    ·obtain ⟨r,a,hk⟩:=tn ht;exact ⟨_,.cons (Ms hv) a,hk⟩
    ·exact ht.elim
   | false =>
    rcases fZ ht with ⟨_,ht⟩ | ⟨hv,ht⟩
    ·exact ht.elim
    ·obtain ⟨r,a,hk⟩:=tn ht;exact ⟨_,.cons (yZ hv) a,hk⟩
theorem AI:∀ (l:List Xab) (off k:Nat) (cs:Array Xab),((l.zipIdx k).foldl (fun (cs:Array Xab) (x:Xab × Nat)=>cs.setIfInBounds (off+x.2) x.1) cs)=(tU cs.toList (off+k) l).toArray
 | [],off,k,cs=>by simp [tU]
 | v::l,off,k,cs=>by
  rw [List.zipIdx_cons,br9,AI l off (k+1)];simp only [tU,Array.toList_setIfInBounds] <;> rfl
def Ex {place:Nat->Option (Nat × Nat)} {ps:List (Nat × Xab)} {r:List (Nat × List Xab)} (hc:lQ ps r):∀ {c cs:List Xab},fM place c r=some cs->Instr.fill place c.toArray ps=some cs.toArray:=by
 induction hc with
 | nil=>intro c cs h; simp [fM] at h; subst h; rfl
 | @cons i v l ps r hv _ d =>
  intro c cs h;unfold fM at h;unfold Instr.fill;split at h
  ·cases h
  ·rename_i off size f;rw [f];simp only;have g:v.cells.size=l.length:=by rw [<- hv,da9]
   cases a:!(Nat.beq l.length size) || Nat.blt c.length (off+l.length) with
   | true=>rw [a] at h; cases h
   | false =>
    rw [a] at h;simp only [Bool.or_eq_false_iff,Bool.not_eq_false'] at a;have h1:l.length=size:=av9 a.1;have h2:¬ c.length<off+l.length:=fun b=>by
     have:=Nat.ble_eq_true_of_le b
     rw [show Nat.blt c.length (off+l.length)=Nat.ble (c.length+1) (off+l.length) from rfl,this] at a;exact absurd a.2 ai
    rw [ac9 (by simp [g,h1]; omega)];have e:v.cells.zipIdx.foldl (fun cs (x:Xab × Nat)=>cs.setIfInBounds (off+x.2) x.1) c.toArray=(tU c off l).toArray:=by
     rw [<- Array.foldl_toList,Array.toList_zipIdx,hv];exact AI l off 0 c.toArray
    have:=d h
    rw [<- e] at this;exact this
def Hm {b:Builtin} {args:List Xab} {a:Array Bool} {d:Xab->T} (ht:sI P b c H args d L K h) :
  aP P (builtin b c.argTypes H a args.toArray) h (DL P fun v h'=>d v L K h'):=by
 unfold sI at ht;split at ht
 ·show aP P (do pure (Next.value (<- Builtin.len_ c.argTypes H args.toArray))) h _;rw [ub]; exact SD ht
 ·show aP P (do pure (Next.value (<- Builtin.cap_ c.argTypes H args.toArray))) h _;rw [ub]; exact Sp ht
 ·show aP P (do pure (Next.value (<- Builtin.append_ c.argTypes H args.toArray))) h _;rw [ub]; exact np ht
 ·show aP P (do pure (Next.value (<- Builtin.copy_ c.argTypes H args.toArray))) h _;rw [ub]; exact Ew ht
 ·show aP P (do pure (Next.value (<- Builtin.min_ c.argTypes H args.toArray))) h _;rw [ub]; exact ou ht
 ·show aP P (do pure (Next.value (<- Builtin.max_ c.argTypes H args.toArray))) h _;rw [ub]; exact ou ht
 ·show aP P (do pure (Next.value (<- Builtin.delete_ c.argTypes H args.toArray))) h _;rw [ub];exact dW _ _ _ _ (fun v h' ⟨e,hk⟩=>by subst e; exact hk) (RU ht)
 ·show aP P (do pure (Next.value (<- Builtin.unsafeString_ c.argTypes H args.toArray))) h _;rw [ub]; exact ou ht
 ·show aP P (do pure (Next.value (<- Builtin.unsafeSliceData_ c.argTypes H args.toArray))) h _;rw [ub]; exact ou ht
 ·exact ht.elim
def Rp {b:List Xab} {c:Xab->T} (ht:T.new b H (fun a=>c (.pointer (some a))) L K h) {cs:Array Xab} (hv:cs=b.toArray) :
  aP P (do pure (Value.pointer (some (<- newRow H cs)))) h (fun v h'=>c v L K h'):=by
 subst hv;exact ht
def Dc {n:Nat} {t:TypeId} {p:Xac} {kk:Xax->List Xab->Xab->T} (e:cK P t=some V)
  (ht:(match V with
   | true=>(bif (fv P 9 t).length==P.cellsOf t then T.bi p fun a=>T.af a (fv P 9 t) (jJ _ fun l=>kk a l (.agg l.toArray)) else T.fail)
   | false=>T.bi p fun a=>T.af a (cJ P t).2 (jJ _ fun l=>kk a l (l.headD undef))) L K h) :
  ∃ a l v,p=some a/\aF h a 0 l/\kk a l v L K h/\∀ h' (R:Xab->Hp->Prop),aF h' a 0 l->R v h'->aP P (Instr.loadAt t (.pointer p)) h' R:=by
 obtain ⟨i,hi⟩:=uf e;cases V with
 | true =>
  simp only at ht;cases hl:(fv P 9 t).length==P.cellsOf t with
  | false=>rw [hl] at ht; exact ht.elim
  | true =>
   rw [hl] at ht;have g:(fv P 9 t).length=P.cellsOf t:=by simpa using hl
   obtain ⟨a,rfl,ht⟩:=gu ht;obtain ⟨x,hc,ht⟩:=ht;rw [dP] at ht;refine ⟨a,ep _ x,_,rfl,hc,ht,fun h' R c hk=>?_⟩;unfold Instr.loadAt;show aP P (loadVar t a) h' R;unfold loadVar;rw [an,jV e];show aP P (sizeOf t >>= fun n=>loadCells a n >>= fun cs=>(pure (Value.agg cs):Sem Xab)) h' R;rw [an,bY hi,an];exact dF (by rw [vk,g]) c _ hk
 | false =>
  simp only at ht;obtain ⟨a,rfl,ht⟩:=gu ht;obtain ⟨x,hc,ht⟩:=ht;rw [dP] at ht;have h1:∃ d,(cJ P t).2=[d]:=by
   unfold cK at e;unfold cJ;cases f:P.underlying t with
   | none=>rw [f] at e; simp at e
   | some d=>rw [f] at e; cases d <;> simp at e <;> exact ⟨_,rfl⟩
  obtain ⟨d,f⟩:=h1;refine ⟨a,ep _ x,_,rfl,hc,ht,fun h' R c hk=>?_⟩;revert x;rw [f];intro x hc ht c hk;unfold Instr.loadAt;show aP P (loadVar t a) h' R;unfold loadVar;rw [an,jV e];have hc0:=c.1
  have:a.add 0=a:=by simp [Addr.add]
  rw [this] at hc0;exact ⟨_,hc0,hk⟩
variable {f:Nd} {g:Act}
def Oy (d : hQ f b g) {j : Xax -> List Xab -> Xab -> T} (ht : sr P H U b j L K h) :
    ∃ p l v, ev b U = some (.pointer (some p)) /\ aF h p 0 l /\ j p l v L K h /\ ∀ h' (R : Xab -> Hp -> Prop), aF h' p 0 l -> R v h' -> aP P (Instr.loadAt H (.pointer (some p))) h' R := by
  unfold sr at ht;obtain ⟨v, hv, ht⟩ := bz ht;cases k : cK P H with
  | none => cases v <;> simp only [k] at ht <;> exact ht.elim
  | some c =>
    cases v <;> first
      | (cases c <;> simp only [k] at ht <;> exact ht.elim)
      | (rename_i p
         have m : (match c with
            | true => (bif (fv P 9 H).length == P.cellsOf H then T.bi p fun g => T.af g (fv P 9 H) (jJ _ fun l => j g l (.agg l.toArray)) else T.fail)
            | false => T.bi p fun g => T.af g (cJ P H).2 (jJ _ fun l => j g l (l.headD undef))) L K h := by
            cases c <;> simp only [k] at ht <;> exact ht
         obtain ⟨q, l, v, rfl, hc, hk, i⟩ := Dc (n := f) k m;exact ⟨q, l, v, hv, hc, hk, i⟩)
def IW {o : Oper} (j : hQ f b g) {kk : Xab -> T} (ht : vD P o b kk L K h) :
    Ze P o g.eval h (fun v h' => kk v L K h') := by
  obtain ⟨dst, op, W, pos, after, guard⟩ := o;unfold Ze;cases op <;> simp only [vD] at ht <;> unfold execOp <;> simp only
  case move x => obtain ⟨v, hv, ht⟩ := bz ht; rw [j.ev hv]; exact ht
  case assign x => obtain ⟨v, hv, ht⟩ := bz ht; rw [j.ev hv]; exact ht
  case pick c x y =>
    obtain ⟨v, hv, ht⟩ := bz ht;rw [j.ev hv]
    cases v <;> simp only at ht <;> first
      | exact ht.elim
      | (rename_i B
         rw [an];show aP P (pure B) h _;cases B
         · obtain ⟨w, Q, ht⟩ := bz (show cd b y kk L K h from ht); rw [j.ev Q]; exact ht
         · obtain ⟨w, Q, ht⟩ := bz (show cd b x kk L K h from ht); rw [j.ev Q]; exact ht)
  case alloc t =>
    cases X : (P.info? t).bind (·.zero) with
    | none => simp only [X] at ht; exact ht.elim
    | some z =>
      simp only [X] at ht;rw [ub];unfold Instr.alloc;rw [an, dC X];exact Rp ht ai
  case box t x =>
    obtain ⟨v, hv, ht⟩ := bz ht;rw [j.ev hv, ub];unfold Instr.box newVar;cases H : cK P t with
    | none => simp only [H] at ht; exact ht.elim
    | some B =>
      cases B <;> simp only [H] at ht <;> rcases fZ ht with ⟨hv, ht⟩ | ⟨hv, ht⟩ <;> first
        | exact ht.elim
        | (refine Rp ht ?_
           cases v <;> first | (simp [fk] at hv; done) | simp [Value.cells, j2])
  case build t ps =>
    obtain ⟨vs, ep, ht⟩ := iZ ht;have ep := j.Tc ep
    have S : (ps.map fun x => (x.1, g.eval x.2)).toList = (ps.toList.map (·.1)).zip vs := by
      rw [<- ep];simp only [Array.toList_map];generalize ps.toList = l
      induction l with
      | nil => rfl
      | cons p l ih => simp [ih]
    rw [ub];unfold Instr.build;rw [an];cases X : (P.info? t).bind (·.zero) with
    | none =>
      generalize P.underlying t = ud at ht;cases ud with
      | none => simp only [X] at ht; exact ht.elim
      | some d => cases d <;> simp only [X] at ht <;> exact ht.elim
    | some z =>
      rw [dC X];show aP P (underlying t >>= _) h _;cases C : P.underlying t with
      | none => simp only [C] at ht; exact ht.elim
      | some d =>
        rw [an, az C];cases d <;> simp only [C, X] at ht <;> first | exact ht.elim | skip
        case array len U =>
          rcases fZ ht with ⟨_, ht⟩ | ⟨I, ht⟩
          · exact ht.elim
          · have I : ot P U = true := by simpa using I
            obtain ⟨i, hi⟩ := cl9.1 I;simp only;rw [an, bY hi];have G : (Array.map (fun x => (x.1, g.eval x.2)) ps).toList = (ps.toList.map (·.1)).zip vs := S;obtain ⟨ls, Y, ht⟩ := tn ht;cases F : fM (fun i => some (i * P.cellsOf U, P.cellsOf U)) z.cells.toList ls with
            | none => simp only [F] at ht; exact ht.elim
            | some cs =>
              simp only [F] at ht;rw [G, Ex Y F];exact ht
        case struct V =>
          rcases fZ ht with ⟨_, ht⟩ | ⟨I, ht⟩
          · exact ht.elim
          · have I : (V.all fun A => ot P A.type) = true := by simpa using I
            simp only;rw [an]
            have hm : ∀ R : Array (Nat × Nat) -> Hp -> Prop, aP P (V.mapM fun A => do pure (A.offset, <- sizeOf A.type)) h R = R (V.map fun A => (A.offset, P.cellsOf A.type)) h := by
              intro R;rw [Array.mapM_eq_mapM_toList]
              have hT' : ∀ A ∈ V.toList, ot P A.type = true := by
                intro A F; exact (Array.all_eq_true_iff_forall_mem.1 I) A (by simpa using F)
              have : ∀ (l : List Field) (R : List (Nat × Nat) -> Hp -> Prop), (∀ A ∈ l, ot P A.type = true) ->
                  aP P (l.mapM fun A => (do pure (A.offset, <- sizeOf A.type) : Sem (Nat × Nat))) h R = R (l.map fun A => (A.offset, P.cellsOf A.type)) h := by
                intro l
                induction l with
                | nil => intro R _; rfl
                | cons A l ih =>
                  intro R hl;obtain ⟨i, hi⟩ := cl9.1 (hl A ai);rw [List.mapM_cons, an, an, bY hi];show aP P ((l.mapM fun A => (do pure (A.offset, <- sizeOf A.type) : Sem (Nat × Nat))) >>= _) h R = _;rw [an, ih _ (fun A F => hl A (by simp [F]))] <;> rfl
              show aP P (List.toArray <$> _) h R = _;rw [map_eq_pure_bind, an, this _ _ hT'];show R (List.toArray _) h = _
              congr 1
              apply by9.1
              simp
            rw [hm];obtain ⟨ls, Y, ht⟩ := tn ht;cases F : fM (fun i => (V.map fun A => (A.offset, P.cellsOf A.type))[i]?) z.cells.toList ls with
            | none => simp only [F] at ht; exact ht.elim
            | some cs =>
              simp only [F] at ht;have G : (Array.map (fun x => (x.1, g.eval x.2)) ps).toList = (ps.toList.map (·.1)).zip vs := S;rw [G, Ex Y F];exact ht
  case buildSlice t len ps =>
    obtain ⟨vs, ep, ht⟩ := iZ ht;have ep := j.Tc ep
    have S : (ps.map fun x => (x.1, g.eval x.2)) = ((ps.toList.map (·.1)).zip vs).toArray := by
      apply by9.1;rw [<- ep];simp only [Array.toList_map];generalize ps.toList = l
      induction l with
      | nil => rfl
      | cons p l ih => simpa using ih
    rw [ub];have G : (Array.map (fun x => (x.1, g.eval x.2)) ps) = ((ps.toList.map (·.1)).zip vs).toArray := S;rw [G];exact np ht
  case load t x =>
    have ht' : sr P t x b (fun _ _ v => kk v) L K h := ht;obtain ⟨p, l, v, hv, hc, hk, hall⟩ := Oy j ht';rw [j.ev hv, ub];exact hall h _ hc hk
  case store t x y =>
    obtain ⟨v, hv, ht⟩ := bz ht;obtain ⟨u, E, ht⟩ := bz ht;rw [j.ev hv, j.ev E, Zh];cases H : cK P t with
    | none => cases v <;> simp only [H] at ht <;> exact ht.elim
    | some B =>
      obtain ⟨i, hi⟩ := uf H
      cases v <;> first
        | (cases B <;> simp only [H] at ht <;> exact ht.elim)
        | skip
      rename_i p;cases B <;> simp only [H] at ht
      · rcases fZ ht with ⟨hl, ht⟩ | ⟨hl, ht⟩
        · rcases fZ ht with ⟨N, ht⟩ | ⟨N, ht⟩
          · exact ht.elim
          · obtain ⟨q, rfl, ht⟩ := gu ht
            obtain ⟨hc, ht⟩ := ht;unfold Instr.storeAt storeVar;show aP P (sizeOf t >>= _) h _;rw [an, bY hi];have hcl : u.cells = #[u] := by cases u <;> first | (simp [fk] at N; done) | rfl
            have h1 : P.cellsOf t = 1 := by simpa using hl
            rw [hcl, h1];exact fP q [u] h 0 _ hc ht
        · exact ht.elim
      · rcases fZ ht with ⟨N, ht⟩ | ⟨N, ht⟩
        · rcases fZ ht with ⟨hl, ht⟩ | ⟨hl, ht⟩
          · obtain ⟨q, rfl, ht⟩ := gu ht
            obtain ⟨hc, ht⟩ := ht;unfold Instr.storeAt storeVar;show aP P (sizeOf t >>= _) h _;rw [an, bY hi];obtain ⟨cs, rfl⟩ : ∃ cs, u = .agg cs := by cases u <;> first | (simp [fk] at N; done) | exact ⟨_, rfl⟩
            have h1 : cs.size = P.cellsOf t := by simpa [j2] using hl
            show aP P (if cs.size ≠ P.cellsOf t then _ else storeCells q cs.toList 0) h _;rw [ac9 (by simp [h1])];exact fP q cs.toList h 0 _ hc ht
          · exact ht.elim
        · exact ht.elim
  case nilCheck x =>
    obtain ⟨v, hv, ht⟩ := bz ht;rw [j.ev hv];cases v with
    | pointer p => obtain ⟨q, rfl, ht⟩ := gu ht; exact ht
    | func fn J ca => cases fn <;> first | exact ht.elim | exact ht
    | iface t w => exact ht
    | _ => exact ht.elim
  case binOp op t x y yt =>
    obtain ⟨v, hv, ht⟩ := bz ht;obtain ⟨u, E, ht⟩ := bz ht;rw [j.ev hv, j.ev E, ub];exact Ts E ht
  case unOp op t x => obtain ⟨v, hv, ht⟩ := bz ht; rw [j.ev hv, ub]; exact VO ht
  case convert s d x => obtain ⟨v, hv, ht⟩ := bz ht; rw [j.ev hv, ub]; exact Qa ht
  case makeInterface t x =>
    obtain ⟨v, hv, ht⟩ := bz ht;rw [j.ev hv, ub];unfold Instr.makeInterface;cases C : P.underlying t with
    | none => simp only [C] at ht; exact ht.elim
    | some d =>
      rw [an, az C];cases d <;> simp only [C] at ht <;> first | exact ht.elim | exact ht
  case makeFunc fn J ca =>
    obtain ⟨vs, ep, ht⟩ := iZ ht;obtain ⟨us, hus, ht⟩ := iZ ht;rw [ub];have Z : J.map g.eval = vs.toArray := by apply by9.1; simpa using j.Tc ep
    have e2 : ca.map g.eval = us.toArray := by apply by9.1; simpa using j.Tc hus
    rw [Z, e2];exact ht
  case makeMap t r =>
    cases r with
    | none => rw [ub]; exact Tz ht
    | some r => exact ht.elim
  case makeSlice t l c =>
    obtain ⟨v, hv, ht⟩ := bz ht;obtain ⟨u, E, ht⟩ := bz ht;rw [j.ev hv, j.ev E, ub];exact np ht
  case slice t x lo hi mx =>
    obtain ⟨v, hv, ht⟩ := bz ht;obtain ⟨vs, ep, ht⟩ := iZ ht;have ep := j.Tc ep;rw [j.ev hv, ub];unfold Xn at ht
    cases lo <;> cases hi <;> cases mx <;> simp only [Option.toList, List.nil_append, List.append_nil, List.map_cons, List.map_nil, List.cons_append] at ep <;> subst ep <;>
      first | exact ht.elim | exact Lt ht
  case fieldAddr s x A =>
    obtain ⟨v, hv, ht⟩ := bz ht;rw [j.ev hv, ub];cases C : P.underlying s with
    | none => cases v <;> simp only [C] at ht <;> exact ht.elim
    | some d =>
      cases v <;> first
        | (cases d <;> simp only [C] at ht <;> exact ht.elim)
        | skip
      rename_i p;cases d <;> simp only [C] at ht <;> first | exact ht.elim | skip
      rename_i V;cases F : V[A]? with
      | none => simp only [F] at ht; exact ht.elim
      | some fd =>
        simp only [F] at ht;cases hc : P.cellsOf fd.type with
        | zero => simp only [hc] at ht; exact ht.elim
        | succ m =>
          simp only [hc] at ht;obtain ⟨q, rfl, ht⟩ := gu ht
          have hi : ∃ i, P.info? fd.type = some i := by
            cases hi : P.info? fd.type with
            | none => simp [Program.cellsOf, hi] at hc
            | some i => exact ⟨i, rfl⟩
          obtain ⟨i, hi⟩ := hi;unfold Instr.fieldAt;rw [an, az C];simp only [F];show aP P (fieldPlace q fd >>= fun y => (pure (Value.pointer (some y)) : Sem Xab)) h _;unfold fieldPlace;rw [an, an, bY hi, hc];exact ht
  case field s x A =>
    obtain ⟨v, hv, ht⟩ := bz ht;rw [j.ev hv, ub];cases C : P.underlying s with
    | none => cases v <;> simp only [C] at ht <;> exact ht.elim
    | some d =>
      cases v <;> first
        | (cases d <;> simp only [C] at ht <;> exact ht.elim)
        | skip
      rename_i cs;cases d <;> simp only [C] at ht <;> first | exact ht.elim | skip
      rename_i V;cases F : V[A]? with
      | none => simp only [F] at ht; exact ht.elim
      | some fd =>
        simp only [F] at ht;unfold Instr.field;rw [an, az C];simp only [F];show aP P (part fd.type cs fd.offset) h _;exact NU ht
  case indexAddr t x i =>
    obtain ⟨v, hv, O⟩ := bz ht;obtain ⟨u, E, D⟩ := bz O;clear ht O;rw [j.ev hv, j.ev E, ub];clear hv E;unfold za at D;generalize C : P.underlying t = ud at D;split at D
    · rename_i p len cp k m U
      rcases fZ D with ⟨_, ht⟩ | ⟨I, ht⟩
      · exact ht.elim
      · have I : ot P U = true := by simpa using I
        obtain ⟨i, hi⟩ := cl9.1 I;obtain ⟨H, ht⟩ := ht;obtain ⟨q, rfl, ht⟩ := gu ht;unfold Instr.indexAt;show aP P (underlying t >>= _) h _;rw [an, az C];show aP P (underlying t >>= _) h _;rw [an, az C];show aP P (if 0 <= m /\ m < len then (sizeOf U >>= fun z => (pure (Value.pointer (some (q.add (m.toNat * z)))) : Sem Xab)) else _) h _;rw [af9 H, an, bY hi];exact ht
    · rename_i p k m len U
      rcases fZ D with ⟨_, ht⟩ | ⟨I, ht⟩
      · exact ht.elim
      · have I : ot P U = true := by simpa using I
        obtain ⟨i, hi⟩ := cl9.1 I;obtain ⟨H, ht⟩ := ht;obtain ⟨q, rfl, ht⟩ := gu ht;unfold Instr.indexAt;show aP P (underlying t >>= _) h _;rw [an, az C];show aP P (underlying t >>= _) h _;rw [an, az C];show aP P (if 0 <= m /\ m < len then (sizeOf U >>= fun z => (pure (Value.pointer (some (q.add (m.toNat * z)))) : Sem Xab)) else _) h _;rw [af9 H, an, bY hi];exact ht
    · exact D.elim
  case index t x i =>
    obtain ⟨v, hv, O⟩ := bz ht;obtain ⟨u, E, D⟩ := bz O;clear ht O;rw [j.ev hv, j.ev E, ub];clear hv E;unfold Iu at D;generalize C : P.underlying t = ud at D;split at D
    · rename_i s k m
      obtain ⟨H, ht⟩ := D;unfold Instr.index;show aP P (underlying t >>= _) h _;rw [an, az C]
      have hs : s[m.toNat]? = some (s.data.toList.getD m.toNat 0) := by
        have hlt : m.toNat < s.size :=ad
        have : s[m.toNat]? = some s[m.toNat] := by simp [hlt]
        rw [this]
        congr 1
        have h2 : m.toNat < s.data.toList.length := by simpa using hlt
        rw [cf9, ad9 h2] <;> rfl
      show aP P (match (if 0 <= m then s[m.toNat]? else none) with | some B => (pure (Value.int .u8 B.toNat) : Sem Xab) | none => boundsPanic k m s.size .index) h _;rw [af9 H.1, hs];exact ht
    · exact ou D
    · exact D.elim
  case lookup t m x ok =>
    obtain ⟨v, hv, ht⟩ := bz ht;obtain ⟨u, E, ht⟩ := bz ht;rw [j.ev hv, j.ev E, ub];generalize C : P.underlying t = ud at ht;split at ht
    · cases ok <;> simp only at ht <;> exact ou ht
    · exact ht.elim
  case mapUpdate t m x y =>
    obtain ⟨v, hv, ht⟩ := bz ht;obtain ⟨u, E, ht⟩ := bz ht;obtain ⟨w, Q, ht⟩ := bz ht;rw [j.ev hv, j.ev E, j.ev Q, Zh];exact ht
  case insert t m x y =>
    obtain ⟨v, hv, ht⟩ := bz ht;obtain ⟨u, E, ht⟩ := bz ht;obtain ⟨w, Q, ht⟩ := bz ht;rw [j.ev hv, j.ev E, j.ev Q, Zh];exact ht
  case mapEntry t m x =>
    obtain ⟨v, hv, ht⟩ := bz ht;obtain ⟨u, E, ht⟩ := bz ht;rw [j.ev hv, j.ev E, ub];generalize C : P.underlying t = ud at ht;split at ht
    · exact ou ht
    · exact ht.elim
  case entryStore t m x y =>
    obtain ⟨v, hv, ht⟩ := bz ht;obtain ⟨u, E, ht⟩ := bz ht;obtain ⟨w, Q, ht⟩ := bz ht;rw [j.ev hv, j.ev E, j.ev Q, Zh];exact ht
  case range t x =>
    obtain ⟨v, hv, ht⟩ := bz ht;rw [j.ev hv, ub];exact Tp ht
  case next it B =>
    obtain ⟨v, hv, ht⟩ := bz ht;rw [j.ev hv, ub];generalize C : P.underlying W = ud at ht;split at ht
    · rename_i ts
      generalize hts : ts.toList = tl at ht;cases tl with
      | nil =>
        refine dW _ _ _ _ ?_ ht;rintro v h' (⟨rfl, M⟩ | ⟨x, rfl, M⟩)
        · exact M
        · rw [dP] at M; exact M
      | cons t0 ts =>
        refine dW _ _ _ _ ?_ ht;rintro v h' (⟨rfl, M⟩ | ⟨x, rfl, M⟩)
        · exact M
        · rw [dP] at M; exact M
    · exact ht.elim
  case entry it =>
    obtain ⟨v, hv, ht⟩ := bz ht;rw [j.ev hv, ub];exact ou ht
  case typeAssert x t d ok =>
    obtain ⟨v, hv, ht⟩ := bz ht;rw [j.ev hv, ub];cases ok <;> simp only at ht <;> exact ou ht
  case extract x i =>
    obtain ⟨v, hv, ht⟩ := bz ht;rw [j.ev hv, ub];cases v with
    | tuple vs =>
      unfold Instr.extract;show aP P (match vs[i]? with | some v => pure v | none => stuck "Extract: no such component") h _
      rw [<- dm9];cases hi : vs.toList[i]? with
      | none => simp only [hi] at ht; exact ht.elim
      | some w => simp only [hi] at ht; exact ht
    | _ => exact ht.elim
  case call c =>
    rw [an];unfold resolve;cases hc : c.callee with
    | builtin B =>
      simp only [hc] at ht;obtain ⟨vs, ep, ht⟩ := iZ ht;have Z : c.args.map g.eval = vs.toArray := by apply by9.1; simpa using j.Tc ep
      simp only [Z];exact Hm ht
    | invoke r m => simp only [hc] at ht; exact ht.elim
    | value A =>
      simp only [hc] at ht;cases htm : GD A with
      | true =>
        simp only [htm] at ht;obtain ⟨gv, hg, ht⟩ := bz ht;obtain ⟨vs, ep, ht⟩ := iZ ht;have Z : c.args.map g.eval = vs.toArray := by apply by9.1; simpa using j.Tc ep
        simp only [Z, j.ev hg];obtain ⟨f', J, ca, rfl, ht, fn, hfn, H, hn⟩ := ht
        have hbd : fX P f' = true := by
          unfold fX;rw [hfn];simp [H, hn]
        show aP P (callFunc f' (J ++ vs.toArray ++ ca)) h _
        have e2 : (J.toList ++ vs ++ ca.toList).toArray = J ++ vs.toArray ++ ca := by
          apply by9.1; simp
        rw [<- e2, xh hbd];refine HC.mono ht ?_;rintro v h' ⟨x, rfl, M⟩;rw [dP] at M;exact M
      | false =>
        simp only [htm] at ht;obtain ⟨gv, hg, ht⟩ := bz ht;obtain ⟨vs, ep, ht⟩ := iZ ht;have Z : c.args.map g.eval = vs.toArray := by apply by9.1; simpa using j.Tc ep
        simp only [Z, j.ev hg]
        obtain ⟨A, J, ca, rfl⟩ : ∃ A J ca, gv = .func (.func A) J ca := by
          cases gv with
          | func fn J ca => cases fn <;> first | exact ht.elim | exact ⟨_, _, _, rfl⟩
          | _ => exact ht.elim
        have := PE (show DQ P A (J.toList ++ vs ++ ca.toList) W kk L K h from ht);show aP P (callFunc A (J ++ vs.toArray ++ ca)) h _
        have e2 : (J.toList ++ vs ++ ca.toList).toArray = J ++ vs.toArray ++ ca := by
          apply by9.1; simp
        rw [<- e2];exact this
  all_goals exact ht.elim
end ops
end Go.Sx
