/- Part of the framework. No condition. -/
import Derived.Test.YtmdncdaladplkaaGreatDoorSxX
set_option linter.all false
set_option maxHeartbeats 4000000
namespace Go.Sx
section sems
variable {P:Program} {h:Hp}
def fM {α:Type} (f:Program->Sem α) (K:α->Hp->Prop):aS P (program >>= f) h K=aS P (f P) h K:=by
 rw [av]; rfl
variable {H:TypeId} {U:TypeDesc}
def aC (a:P.underlying H=some U) (K:TypeDesc->Hp->Prop):aS P (underlying H) h K=K U h:=by
 unfold underlying; rw [fM,a]; rfl
def info_of_underlying (a:P.underlying H=some U):∃ i,P.info? H=some i:=by
 unfold Program.underlying at a;cases hi:P.info? H with
 | none=>rw [hi] at a; simp at a
 | some i=>exact ⟨i,rfl⟩
variable {O:TypeInfo}
def iy (hi:P.info? H=some O) (K:TypeInfo->Hp->Prop):aS P (typeInfo H) h K=K O h:=by
 unfold typeInfo; rw [fM,hi]; rfl
def cS (hi:P.info? H=some O):P.cellsOf H=O.size:=by
 simp [Program.cellsOf,hi]
def cd (hi:P.info? H=some O) (K:Nat->Hp->Prop):aS P (sizeOf H) h K=K (P.cellsOf H) h:=by
 unfold sizeOf; rw [av,iy hi,cS hi]; rfl
def dH {z:Xab} (a:(P.info? H).bind (·.zero)=some z) (K:Xab->Hp->Prop):aS P (zeroValue H) h K=K z h:=by
 cases hi:P.info? H with
 | none=>rw [hi] at a; simp at a
 | some i =>
  rw [hi] at a; simp at a;unfold zeroValue; rw [av,iy hi,a]; rfl
def jY {b:Bool} (a:cH P H=some b) (K:Bool->Hp->Prop):aS P (isAgg H) h K=K b h:=by
 unfold cH at a;cases c:P.underlying H with
 | none=>rw [c] at a; simp at a
 | some d =>
  rw [c] at a;unfold isAgg; rw [av,aC c]
  all_goals (cases d <;> simp at a <;> subst a <;> rfl)
def ui {b:Bool} (a:cH P H=some b):∃ i,P.info? H=some i:=by
 unfold cH at a;cases c:P.underlying H with
 | none=>rw [c] at a; simp at a
 | some d=>exact info_of_underlying c
theorem nk (a:Xax):∀ (c:List Xab) (i:Nat) (b:Array Xab) (K:Array Xab->Hp->Prop),aH h a i c->K (b++c.toArray) h ->
  aS P (loadCellsFrom a i c.length b) h K
 | [],i,b,K,_,hk=>by
  have d:K b h:=by simpa using hk
  exact d
 | v::c,i,b,K,hc,hk=>by
  simp only [List.length_cons,loadCellsFrom];rw [av];refine ⟨v,hc.1,nk a c (i+1) (b.push v) K hc.2 ?_⟩;have e:b.push v++c.toArray=b++(v::c).toArray:=by
   apply cb9.1; simp
  rw [e]; exact hk
def dJ {a:Xax} {n:Nat} {b:List Xab} (hn:b.length=n) (hc:aH h a 0 b) (K:Array Xab->Hp->Prop) (hk:K b.toArray h):aS P (loadCells a n) h K:=by
 subst hn;exact nk a b 0 #[] K hc (by simpa using hk)
theorem fT (a:Xax):∀ (b:List Xab) (h:Hp) (i:Nat) (K:Unit->Hp->Prop),zB h a i b->K () (tg h a i b)->aS P (storeCells a b i) h K
 | [],h,i,K,_,hk=>hk
 | v::b,h,i,K,hc,hk=>by
  simp only [storeCells];rw [av];exact ⟨hc.1,hc.2.1,hc.2.2.1,fT a b _ (i+1) K hc.2.2.2 hk⟩
end sems
structure Nd where
 n:Nat
 d:List Deferred
instance:Coe Nd Nat:=⟨Nd.n⟩
structure ix (n:Nd) (e:Env) (a:Act):Prop where
 size:a.tmps.size=n.n
 defers:a.defers=n.d
 get:∀ s v,da e s=some v->a.tmps.getD s undef=v
def ix.ev {n:Nd} {e:Env} {a:Act} (g:ix n e a) {x:Operand} {v:Xab} (b:ev e x=some v):a.eval x=v:=by
 cases x with
 | tmp t=>exact g.get t v b
 | const w=>simpa [Sx.ev,Act.eval] using b
 | global i=>simpa [Sx.ev,Act.eval] using b
 | func f=>simpa [Sx.ev,Act.eval] using b
def dN (e:Env) (s:Nat) (v:Option Xab) (t:Nat):da ((s,v)::e) t=if s=t then v else da e t:=by
 simp only [da]
 by_cases h:s=t
 ·subst h; simp
 ·have:Nat.beq s t=false:=by
   cases a:Nat.beq s t
   ·rfl
   ·exact (h (au9 a)).elim
  rw [this,ac9 h]; rfl
def ix.put {n:Nd} {e:Env} {a:Act} (g:ix n e a) (dst:Option Tmp) (v:Xab):ix n (eC n e dst v) (a.put dst v):=by
 cases dst with
 | none=>exact g
 | some d =>
  refine ⟨by simp [Act.put,g.size],by simp [Act.put,g.defers],fun s u b=>?_⟩;simp only [eC] at b;cases f:Nat.blt d n with
  | true =>
   have h:d<n:=by simpa [Nat.blt_eq] using f
   rw [f] at b;simp only [cond_true,dN] at b;simp only [Act.put,Array.getD_eq_getD_getElem?,Array.getElem?_setIfInBounds]
   by_cases i:d=s
   ·subst i;rw [ag9 rfl] at b;simp at b; subst b;simp [g.size,h]
   ·rw [ac9 i] at b;rw [ac9 i]
    have:=g.get s u b
    simpa [Array.getD_eq_getD_getElem?] using this
  | false =>
   rw [f] at b;have h:¬ d<n:=by intro j; rw [<- Nat.blt_eq] at j; rw [f] at j; cases j
   have c:a.put (some d) v=a:=by
    simp only [Act.put]
    have:a.tmps.setIfInBounds d v=a.tmps:=Array.setIfInBounds_eq_of_size_le (by rw [g.size]; exact Nat.le_of_not_lt h)
    rw [this]
   rw [c];exact g.get s u b
def ix.wu {n:Nd} {e:Env} {a:Act} (g:ix n e a) {s:Nat} {v:Xab} (hv:da e s=some v) (w:Xab) (f:w=v):ix n (eC n e (some s) w) a:=by
 subst f;refine ⟨g.size,g.defers,fun t u b=>?_⟩;simp only [eC] at b;cases c:Nat.blt s n with
 | true =>
  rw [c] at b;simp only [cond_true,dN] at b
  by_cases d:s=t
  ·subst d; rw [ag9 rfl] at b; simp at b; subst b; exact g.get s w hv
  ·rw [ac9 d] at b; exact g.get t u b
 | false=>rw [c] at b; exact g.get t u b
section trees
variable {L:Lp} {K:Xab->Hp->Prop} {h:Hp}
def bH {e:Env} {x:Operand} {k:Xab->T} (ht:ct e x k L K h):∃ v,ev e x=some v/\k v L K h:=by
 unfold ct at ht;cases a:ev e x with
 | none=>rw [a] at ht; exact ht.elim
 | some v=>rw [a] at ht; exact ⟨v,rfl,ht⟩
theorem ji {e:Env}:∀ {xs:List Operand} {k:List Xab->T},iT e xs k L K h->∃ a,xs.map (ev e)=a.map some/\k a L K h
 | [],k,ht=>⟨[],rfl,ht⟩
 | x::xs,k,ht=>by
  obtain ⟨v,hv,ht⟩:=bH ht;obtain ⟨a,et,ht⟩:=ji ht;exact ⟨v::a,by simp [hv,et],ht⟩
theorem ix.Tq {n:Nd} {e:Env} {a:Act} (g:ix n e a):∀ {xs:List Operand} {c:List Xab},xs.map (Sx.ev e)=c.map some->xs.map a.eval=c
 | [],[],_=>rfl
 | x::xs,v::c,b=>by
  simp only [List.map_cons,List.cons.injEq] at b;simp only [List.map_cons,g.ev b.1,g.Tq b.2]
 | [],v::c,b=>by simp at b
 | x::xs,[],b=>by simp at b
def gM {p:Xac} {k:Xax->T} (ht:T.bf p k L K h):∃ a,p=some a/\k a L K h:=by
 cases p with
 | none=>exact ht.elim
 | some a=>exact ⟨a,rfl,ht⟩
def gk {b:Bool} {t u:T} (ht:(cond b t u) L K h):(b=true/\t L K h)\/(b=false/\u L K h):=by
 cases b
 ·exact .inr ⟨rfl,ht⟩
 ·exact .inl ⟨rfl,ht⟩
end trees
section ops
variable {P:Program} {L:Lp} {K:Xab->Hp->Prop} {h:Hp}
def uf {s:Sem Xab} {R:Xab->Hp->Prop}:aS P (do pure (Next.value (<- s))) h (DX P R)=aS P s h R:=by
 rw [av]; rfl
def Zy {s:Sem Unit} {R:Xab->Hp->Prop}:aS P (do s; pure Next.skip) h (DX P R)=aS P s h (fun _ h'=>R undef h'):=by
 rw [av]; rfl
variable {V:Bool}
def oq {s:Sem Xab} {cs:List ep} {a:Xab->T} (ht:T.eH P s V cs (jO _ fun l=>a (rv V cs l)) L K h) :
  aS P s h (fun v h'=>a v L K h'):=by
 refine eb _ _ _ _ ?_ ht;rintro v h' ⟨x,rfl,b⟩;rw [dU] at b;exact b
variable {H O:TypeId}
def np {s:Sem Xab} {a:Xab->T} (ht:T.eH P s false [(false,[.slice H])] (fun p l c=>a (.slice p l c)) L K h) :
  aS P s h (fun v h'=>a v L K h'):=by
 refine eb _ _ _ _ ?_ ht;rintro v h' ⟨x,rfl,b⟩;exact b
def T7 {s:Sem Xab} {a:Xab->T} (ht:T.eH P s false [(false,[.bool])] (fun b=>a (.bool b)) L K h):aS P s h (fun v h'=>a v L K h'):=by
 refine eb _ _ _ _ ?_ ht;rintro v h' ⟨x,rfl,c⟩;exact c
def EG {s:Sem Xab} {a:Xab->T} (ht:T.eH P s false [(false,[.int .i64])] (fun b=>a (.int .i64 b)) L K h):aS P s h (fun v h'=>a v L K h'):=by
 refine eb _ _ _ _ ?_ ht;rintro v h' ⟨x,rfl,c⟩;exact c
def SQ {s:Sem Xab} {a:Xab->T} (ht:T.eH P s false [(false,[.string])] (fun b=>a (.string b)) L K h):aS P s h (fun v h'=>a v L K h'):=by
 refine eb _ _ _ _ ?_ ht;rintro v h' ⟨x,rfl,c⟩;exact c
def TO {s:Sem Xab} {c:Xab->T} (ht:T.eH P s false [(false,[.map H O])] (fun O=>c (.map O)) L K h):aS P s h (fun v h'=>c v L K h'):=by
 refine eb _ _ _ _ ?_ ht;rintro v h' ⟨x,rfl,d⟩;exact d
def TD {s:Sem Xab} {c:Xab->T} (ht:T.eH P s false [(false,[.pointer H])] (fun b=>c (.pointer b)) L K h):aS P s h (fun v h'=>c v L K h'):=by
 refine eb _ _ _ _ ?_ ht;rintro v h' ⟨x,rfl,d⟩;exact d
def R7 {s:Sem Xab} {a:T} (ht:T.eH P s true [] a L K h):aS P s h (fun v h'=>v=.tuple #[]/\a L K h'):=by
 refine eb _ _ _ _ ?_ ht;rintro v h' ⟨x,rfl,b⟩;exact ⟨rfl,b⟩
variable {Y:IntKind} {Z d:Int}
def Sn {op : BinOp} {a : Xab -> T} (b : nD op = false) (t : TypeId) (ht : JF op Y Z d a L K h) :
    aS P (binOp op t (.int Y Z) (.int Y d)) h (fun v h' => a v L K h') := by
  cases op <;> simp only [nD, Bool.true_eq_false] at b <;> simp only [JF] at ht <;>
    first
    | exact ht.elim
    | (simp only [binOp, Op.intArith, Op.intDiv, Op.intBits, Op.intCmp, ne_eq, not_true_eq_false, if_false]; exact ht)
    | (obtain ⟨h0, ht⟩ := ht
       simp only [binOp, Op.intDiv, ne_eq, not_true_eq_false, if_false, if_neg h0]; exact ht)
def Nk {op:BinOp} {k':IntKind} {a:Xab->T} (b:nD op=true) (t:TypeId) (ht:A8 op Y Z d a L K h) :
  aS P (binOp op t (.int Y Z) (.int k' d)) h (fun v h'=>a v L K h'):=by
 cases op <;> simp only [nD,Bool.false_eq_true] at b <;> simp only [A8] at ht <;> obtain ⟨h0,ht⟩:=ht <;>
  simp only [binOp,Op.shift,if_neg (Int.not_lt.2 h0)] <;> exact ht
def UA {op : BinOp} {m n : Xaa} {a : Xab -> T} (t : TypeId) (ht : Jy op m n a L K h) :
    aS P (binOp op t (.string m) (.string n)) h (fun v h' => a v L K h') := by
  cases op <;> simp only [Jy] at ht <;>
    first
    | exact ht.elim
    | (simp only [binOp, Op.stringOp]; exact ht)
    | (obtain ⟨h0, ht⟩ := ht
       simp only [binOp, Op.stringOp, if_neg (Int.not_lt.2 h0)]; exact ht)
def C6:Xab->Bool
 | .nilIface=>false
 | .agg _=>false
 | _=>true
variable {U a:Operand}
def gQ {op:BinOp} {c b:Xab} (d:C6 c=true) {R:Xab->Hp->Prop} :
  aS P (do eqGuard op H U a c b; binOp op H c b) h R=aS P (binOp op H c b) h R:=by
 rw [av]
 have:∀ K:Unit->Hp->Prop,aS P (eqGuard op H U a c b) h K=K () h:=by
  intro K;cases op <;> first | rfl | (cases c <;> first | (simp [C6] at d; done) | rfl)
 rw [this]
def Jd (a:P.underlying H=some .bool) (m n:Bool) (R:Bool->Hp->Prop):aS P (Op.equal H (.bool m) (.bool n)) h R=R (m==n) h:=by
 show aS P (Op.equalIn (9999+1) H (.bool m) (.bool n)) h R=_;unfold Op.equalIn;rw [av,aC a]; rfl
def CL (a:P.underlying H=some (.pointer O)) (p:Xac) (R:Bool->Hp->Prop):aS P (Op.equal H (.pointer p) (.pointer none)) h R=R p.isNone h:=by
 show aS P (Op.equalIn (9999+1) H (.pointer p) (.pointer none)) h R=_;unfold Op.equalIn;rw [av,aC a]; cases p <;> rfl
def zO (a:P.underlying H=some (.slice O)) (p:Xac) (l c:Nat) (R:Bool->Hp->Prop):aS P (Op.equal H (.slice p l c) (.slice none 0 0)) h R=R p.isNone h:=by
 show aS P (Op.equalIn (9999+1) H (.slice p l c) (.slice none 0 0)) h R=_;unfold Op.equalIn;rw [av,aC a]; cases p <;> rfl
def CG {b:TypeId} (c:P.underlying H=some (.map O b)) (p:Option Nat) (R:Bool->Hp->Prop):aS P (Op.equal H (.map p) (.map none)) h R=R p.isNone h:=by
 show aS P (Op.equalIn (9999+1) H (.map p) (.map none)) h R=_;unfold Op.equalIn;rw [av,aC c]; cases p <;> rfl
def wg {op:BinOp} {a b:Xab} {c:Xab->T}
  (d:∀ R:Bool->Hp->Prop,aS P (Op.equal H a b) h R=R V h)
  (h1:binOp .eql H a b=(do pure (.bool (<- Op.equal H a b)))) (h2:binOp .neq H a b=(do pure (.bool (!(<- Op.equal H a b)))))
  (ht:asked op V c T.fail L K h):aS P (binOp op H a b) h (fun v h'=>c v L K h'):=by
 cases op <;> simp only [asked] at ht <;> first
  | exact ht.elim
  | (rw [h1,av,d]; exact ht)
  | (rw [h2,av,d]; exact ht)
def UC {op:BinOp} {c b:Xab} {d:Xab->T} (ht:R6 P op H U a c b d L K h) :
  aS P (do eqGuard op H U a c b; binOp op H c b) h (fun v h'=>d v L K h'):=T7 ht
variable {b:Env}
def TH {op:BinOp} {g f:Xab} {A:Xab->T} (s:ev b a=some f)
  (ht:E2 P op H U a g f A L K h):aS P (do eqGuard op H U a g f; binOp op H g f) h (fun v h'=>A v L K h'):=by
 have u:∀ q,f=.pointer q->isNil a=true->q=none:=by
  intro q w hn;cases a <;> simp only [isNil,Bool.false_eq_true] at hn;rename_i c;simp only [Sx.ev,Option.some.injEq] at s;subst s; subst w;cases q with
  | none=>rfl
  | some g=>simp [isNil] at hn
 have o:∀ q l c,f=.slice q l c->isNil a=true->q=none/\l=0/\c=0:=by
  intro q l c w hn;cases a <;> simp only [isNil,Bool.false_eq_true] at hn;rename_i c;simp only [Sx.ev,Option.some.injEq] at s;subst s; subst w;cases q with
  | none =>
   cases l <;> cases c <;> simp [isNil] at hn <;> exact ⟨rfl,rfl,rfl⟩
  | some g=>simp [isNil] at hn
 have r:∀ q,f=.map q->isNil a=true->q=none:=by
  intro q w hn;cases a <;> simp only [isNil,Bool.false_eq_true] at hn;rename_i c;simp only [Sx.ev,Option.some.injEq] at s;subst s; subst w;cases q with
  | none=>rfl
  | some g=>simp [isNil] at hn
 unfold E2 at ht;cases j:sT P H U a with
 | false=>simp only [j] at ht; exact UC ht
 | true =>
 simp only [j] at ht;unfold ug at ht;split at ht
 ·rename_i k m k' n;rw [gQ rfl];cases z:nD op with
  | true=>simp only [z] at ht; exact Nk z H ht
  | false =>
   simp only [z] at ht
   by_cases hk:k=k'
   ·subst hk;simp only [decide_true] at ht;exact Sn z H ht
   ·simp only [hk,decide_false] at ht;exact ht.elim
 ·rw [gQ rfl]; exact UA H ht
 ·rename_i m n;rw [gQ rfl];cases i:P.underlying H with
  | none=>simp only [i] at ht; exact ht.elim
  | some d =>
   cases d <;> simp only [i] at ht <;> first
    | exact ht.elim
    | exact wg (fun R=>Jd i m n R) rfl rfl ht
 ·rename_i p q;cases i:P.underlying H with
  | none=>simp only [i] at ht; exact ht.elim
  | some d =>
   cases d <;> simp only [i] at ht <;> first
    | exact ht.elim
    | skip
   have hn:isNil a=true:=by simpa [sT,i] using j
   obtain rfl:=u q rfl hn;rw [gQ rfl]; exact wg (fun R=>CL i p R) rfl rfl ht
 ·rename_i p l c q l' c';cases i:P.underlying H with
  | none=>simp only [i] at ht; exact ht.elim
  | some d =>
   cases d <;> simp only [i] at ht <;> first
    | exact ht.elim
    | skip
   have hn:isNil a=true:=by simpa [sT,i] using j
   obtain ⟨rfl,rfl,rfl⟩:=o q _ _ rfl hn;rw [gQ rfl]; exact wg (fun R=>zO i p l c R) rfl rfl ht
 ·rename_i p q;cases i:P.underlying H with
  | none=>simp only [i] at ht; exact ht.elim
  | some d =>
   cases d <;> simp only [i] at ht <;> first
    | exact ht.elim
    | skip
   have hn:isNil a=true:=by simpa [sT,i] using j
   obtain rfl:=r q rfl hn;rw [gQ rfl]; exact wg (fun R=>CG i p R) rfl rfl ht
 ·exact ht.elim
def V5 {op:UnOp} {a:Xab} {b:Xab->T} (ht:Xw op a b L K h):aS P (Op.unary op a) h (fun v h'=>b v L K h'):=by
 unfold Xw at ht;split at ht
 ·exact ht
 ·exact ht
 ·exact ht
 ·exact ht.elim
def Qk {a:Xab} {b:Xab->T} (ht:yT P H O a b L K h):aS P (convert H O a) h (fun v h'=>b v L K h'):=by
 unfold yT at ht;generalize c:P.underlying H=us at ht;generalize e:P.underlying O=f at ht;split at ht
 ·unfold convert;rw [av,aC c,av,aC e];exact ht
 ·unfold convert;rw [av,aC c,av,aC e];exact ht
 ·exact ht.elim
 ·exact np ht
 ·exact SQ ht
 ·exact ht.elim
def eX (y:Nat) (a:BoundsCode) {v:Xab} (hv:v=.int Y Z) (h0:0<=Z) (h1:Z<=y) (R:Nat->Hp->Prop) :
  aS P (Instr.sliceBound v y a) h R=R Z.toNat h:=by
 subst hv;unfold Instr.sliceBound;rw [av];show aS P (if 0<=Z/\Z<=↑y then pure Z.toNat else boundsPanic Y Z ↑y a) h R=_;rw [ag9 ⟨h0,h1⟩]; rfl
def rV {v:Xab} (hv:eU (some v)=true):∃ k i,v=.int k i:=by
 cases v <;> simp only [eU,Bool.false_eq_true] at hv;exact ⟨_,_,rfl⟩
def jP (isSlice:Bool) (len cap:Nat) {lo hi:Option Xab} (f:eU lo=true) (g:eU hi=true)
  (h0:0<=kQ lo) (h1:kQ lo<=lx len hi) (h2:lx len hi<=cap) (R:Nat × Nat × Nat->Hp->Prop) :
  aS P (Instr.sliceBounds isSlice len cap lo hi none) h R=R ((kQ lo).toNat,(lx len hi).toNat,cap) h:=by
 unfold Instr.sliceBounds;cases hi with
 | none =>
  cases lo with
  | none=>rfl
  | some v =>
   obtain ⟨k,i,rfl⟩:=rV f;have a:0<=i:=h0;have b:i<=len:=h1;show aS P (Instr.sliceBound (.int k i) len _ >>= fun l=>pure (l,len,cap)) h R=_;rw [av,eX len _ rfl a b]; rfl
 | some u =>
  obtain ⟨ku,iu,rfl⟩:=rV g;have c:(0:Int)<=iu:=Int.le_trans h0 h1;cases lo with
  | none =>
   show aS P (Instr.sliceBound (.int ku iu) cap _ >>= fun e=>pure (0,e,cap)) h R=_;have d:iu<=cap:=h2;rw [av,eX cap _ rfl c d]; rfl
  | some v =>
   obtain ⟨k,i,rfl⟩:=rV f;show aS P (Instr.sliceBound (.int ku iu) cap _ >>= fun e=>Instr.sliceBound (.int k i) e _ >>= fun l=>pure (l,e,cap)) h R=_;have a:0<=i:=h0;have b:i<=iu:=h1;have d:iu<=cap:=h2;rw [av,eX cap _ rfl c d,av,eX _ _ rfl a (by rw [Int.toNat_of_nonneg c]; exact b)]; rfl
def Ly {a:Xab} {lo hi c:Option Xab} {g:Xab->T} (ht:jk P H a lo hi c g L K h) :
  aS P (Instr.sliceAt H a lo hi c) h (fun v h'=>g v L K h'):=by
 unfold jk at ht;cases hint:eU lo && eU hi && eU c with
 | false=>simp only [hint] at ht; exact ht.elim
 | true =>
  simp only [hint] at ht;simp only [Bool.and_eq_true] at hint;obtain ⟨⟨j,k⟩,n⟩:=hint;cases b:P.underlying H with
  | none=>simp only [b] at ht; exact np ht
  | some d =>
   cases d <;> simp only [b] at ht <;> first | exact np ht | skip
   case string =>
    cases c with
    | some m=>cases a <;> exact ht.elim
    | none =>
    cases a <;> first | exact ht.elim | skip
    rename_i s;obtain ⟨⟨h0,h1,h2⟩,ht⟩:=ht;unfold Instr.sliceAt;rw [av,aC b];show aS P (Instr.slice H (.string s) lo hi none) h _;unfold Instr.slice;rw [av,aC b];show aS P (Instr.sliceBounds false s.size s.size lo hi none >>= fun x=>(pure (Value.string (s.extract x.1 x.2.1)):Sem Xab)) h _;rw [av,jP false _ _ j k h0 h1 h2];exact ht
   case slice l =>
    cases c with
    | some m=>exact np ht
    | none =>
    cases a <;> first | exact ht.elim | skip
    rename_i p len cap;simp only at ht;cases e:oo P l with
    | false=>simp only [e] at ht; exact ht.elim
    | true =>
     simp only [e] at ht;obtain ⟨⟨h0,h1,h2⟩,ht⟩:=ht;obtain ⟨i,f⟩:=cg9.1 e;unfold Instr.sliceAt;rw [av,aC b];show aS P (Instr.slice H (.slice p len cap) lo hi none) h _;unfold Instr.slice;rw [av,aC b];show aS P (Instr.sliceBounds true len cap lo hi none >>= fun x=>sizeOf l >>= fun size=>(pure (Value.slice (if x.2.2=x.1 then p else p.map (·.add (x.1*size))) (x.2.1-x.1) (x.2.2-x.1)):Sem Xab)) h _;rw [av,jP true _ _ j k h0 h1 h2,av,cd f];exact ht
def N5 {cs:Array Xab} {off:Nat} {c:Xab->T} (ht:uk P H cs.toList off c L K h) :
  aS P (part H cs off) h (fun v h'=>c v L K h'):=by
 have e:∀ n,((cs.toList.drop off).take n).toArray=cs.extract off (off+n):=by
  intro n;apply cb9.1;simp [Array.toList_extract,List.extract_eq_drop_take]
 unfold uk at ht;generalize a:P.underlying H=j at ht;split at ht
 ·obtain ⟨i,hi⟩:=info_of_underlying a;unfold part;rw [av,jY (b:=true) (by simp [cH,a])];show aS P (sizeOf H >>= fun n=>(pure (Value.agg (cs.extract off (off+n))):Sem Xab)) h _;rw [av,cd hi,<- e];exact ht
 ·obtain ⟨i,hi⟩:=info_of_underlying a;unfold part;rw [av,jY (b:=true) (by simp [cH,a])];show aS P (sizeOf H >>= fun n=>(pure (Value.agg (cs.extract off (off+n))):Sem Xab)) h _;rw [av,cd hi,<- e];exact ht
 ·rename_i d f g;unfold part;rw [av,jY (b:=false) (by simp only [cH,a])];show aS P (match cs[off]? with | some v => pure v | none => stuck "part: no such cell") h _
  rw [<- dm9];cases hv:cs.toList[off]? with
  | none=>simp only [hv] at ht; exact ht.elim
  | some v=>simp only [hv] at ht; exact ht
 ·exact ht.elim
variable {e:FuncId}
def xo (a:gi P e=true) (args:Array Xab) (R:Next->Hp->Prop):aS P (callFunc e args) h R=R (.enter e args) h:=by
 unfold gi at a;unfold callFunc;rw [fM];cases b:P.funcs[e]? with
 | none=>rw [b] at a; simp at a
 | some fn =>
  rw [b] at a;simp only [Bool.and_eq_true,Bool.not_eq_true'] at a;obtain ⟨h1,h2⟩:=a;have c:fn.body.isNone=false:=by cases d:fn.body <;> simp_all
  simp only [h2,c]; rfl
def PO {args:List Xab} {c:Xab->T} (ht:D3 P e args H c L K h) :
  aS P (callFunc e args.toArray) h (DX P fun v h'=>c v L K h'):=by
 unfold D3 at ht;cases b:gi P e with
 | false =>
  simp only [b] at ht
  have:=oq ht
  unfold JJ at this;rw [av] at this;refine eb _ _ _ _ ?_ this;intro x h' a;cases x <;> first | exact a | exact a.elim
 | true =>
  simp only [b] at ht;rw [xo b];refine HC.mono ht ?_;rintro v h' ⟨x,rfl,a⟩;rw [dU] at a;exact a
variable {c:Call}
def SV {args:List Xab} {f:Xab->T} (ht:AT P c H args f L K h) :
  aS P (Builtin.len_ c.argTypes H args.toArray) h (fun v h'=>f v L K h'):=by
 unfold AT at ht;cases e:(c.argTypes[0]?).bind P.underlying with
 | none=>simp only [e] at ht; exact EG ht
 | some d =>
  obtain ⟨g,a,b⟩:=aa9.1 e;cases d <;> simp only [e] at ht <;> first | exact EG ht | skip
  case string =>
   split at ht
   ·unfold Builtin.len_;simp only [a];show aS P (underlying g >>= _) h _;rw [av,aC b];exact ht
   ·exact ht.elim
  case slice i =>
   split at ht
   ·unfold Builtin.len_;simp only [a];show aS P (underlying g >>= _) h _;rw [av,aC b];exact ht
   ·exact ht.elim
def SH {args:List Xab} {f:Xab->T} (ht:L4 P c args f L K h) :
  aS P (Builtin.cap_ c.argTypes H args.toArray) h (fun v h'=>f v L K h'):=by
 unfold L4 at ht;cases a:(c.argTypes[0]?).bind P.underlying with
 | none=>simp only [a] at ht; exact ht.elim
 | some d =>
  obtain ⟨g,b,e⟩:=aa9.1 a;cases d <;> simp only [a] at ht <;> first | exact ht.elim | skip
  split at ht
  ·unfold Builtin.cap_;simp only [b];show aS P (underlying g >>= _) h _;rw [av,aC e];exact ht
  ·exact ht.elim
inductive lO:List (Nat × Xab)->List (Nat × List Xab)->Prop
 | nil:lO [] []
 | cons {i:Nat} {v:Xab} {l:List Xab} {ps:List (Nat × Xab)} {r:List (Nat × List Xab)} (h:v.cells.toList=l) (t:lO ps r):lO ((i,v)::ps) ((i,l)::r)
def MB {v:Xab} (h:fp v=true):v.cells.toList=j4 v:=by
 cases v <;> first | rfl | (simp [fp] at h)
def zo {v:Xab} (h:fp v=false):v.cells.toList=[v]:=by
 cases v <;> first | rfl | (simp [fp] at h)
theorem tv {agg:Nat->Option Bool}:∀ {ps:List (Nat × Xab)} {k:List (Nat × List Xab)->T},fI agg ps k L K h->∃ r,lO ps r/\k r L K h
 | [],k,ht=>⟨[],.nil,ht⟩
 | (i,v)::l,k,ht=>by
  simp only [fI] at ht;cases c:agg i with
  | none=>rw [c] at ht; exact ht.elim
  | some b =>
   rw [c] at ht;cases b with
   | true =>
    rcases gk ht with ⟨hv,ht⟩ | ⟨_,ht⟩
    ·obtain ⟨r,a,hk⟩:=tv ht;exact ⟨_,.cons (MB hv) a,hk⟩
    ·exact ht.elim
   | false =>
    rcases gk ht with ⟨_,ht⟩ | ⟨hv,ht⟩
    ·exact ht.elim
    ·obtain ⟨r,a,hk⟩:=tv ht;exact ⟨_,.cons (zo hv) a,hk⟩
theorem AR:∀ (l:List Xab) (off k:Nat) (cs:Array Xab),((l.zipIdx k).foldl (fun (cs:Array Xab) (x:Xab × Nat)=>cs.setIfInBounds (off+x.2) x.1) cs)=(tX cs.toList (off+k) l).toArray
 | [],off,k,cs=>by simp [tX]
 | v::l,off,k,cs=>by
  rw [List.zipIdx_cons,bt9,AR l off (k+1)];simp only [tX,Array.toList_setIfInBounds] <;> rfl
def EH {place:Nat->Option (Nat × Nat)} {ps:List (Nat × Xab)} {r:List (Nat × List Xab)} (hc:lO ps r):∀ {c cs:List Xab},fQ place c r=some cs->Instr.fill place c.toArray ps=some cs.toArray:=by
 induction hc with
 | nil=>intro c cs h; simp [fQ] at h; subst h; rfl
 | @cons i v l ps r hv _ d =>
  intro c cs h;unfold fQ at h;unfold Instr.fill;split at h
  ·cases h
  ·rename_i off size f;rw [f];simp only;have g:v.cells.size=l.length:=by rw [<- hv,db9]
   cases a:!(Nat.beq l.length size) || Nat.blt c.length (off+l.length) with
   | true=>rw [a] at h; cases h
   | false =>
    rw [a] at h;simp only [Bool.or_eq_false_iff,Bool.not_eq_false'] at a;have h1:l.length=size:=au9 a.1;have h2:¬ c.length<off+l.length:=fun b=>by
     have:=Nat.ble_eq_true_of_le b
     rw [show Nat.blt c.length (off+l.length)=Nat.ble (c.length+1) (off+l.length) from rfl,this] at a;exact absurd a.2 aj
    rw [ac9 (by simp [g,h1]; omega)];have e:v.cells.zipIdx.foldl (fun cs (x:Xab × Nat)=>cs.setIfInBounds (off+x.2) x.1) c.toArray=(tX c off l).toArray:=by
     rw [<- Array.foldl_toList,Array.toList_zipIdx,hv];exact AR l off 0 c.toArray
    have:=d h
    rw [<- e] at this;exact this
def Hs {b:Builtin} {args:List Xab} {a:Array Bool} {d:Xab->T} (ht:sM P b c H args d L K h) :
  aS P (builtin b c.argTypes H a args.toArray) h (DX P fun v h'=>d v L K h'):=by
 unfold sM at ht;split at ht
 ·show aS P (do pure (Next.value (<- Builtin.len_ c.argTypes H args.toArray))) h _;rw [uf]; exact SV ht
 ·show aS P (do pure (Next.value (<- Builtin.cap_ c.argTypes H args.toArray))) h _;rw [uf]; exact SH ht
 ·show aS P (do pure (Next.value (<- Builtin.append_ c.argTypes H args.toArray))) h _;rw [uf]; exact np ht
 ·show aS P (do pure (Next.value (<- Builtin.copy_ c.argTypes H args.toArray))) h _;rw [uf]; exact EG ht
 ·show aS P (do pure (Next.value (<- Builtin.min_ c.argTypes H args.toArray))) h _;rw [uf]; exact oq ht
 ·show aS P (do pure (Next.value (<- Builtin.max_ c.argTypes H args.toArray))) h _;rw [uf]; exact oq ht
 ·show aS P (do pure (Next.value (<- Builtin.delete_ c.argTypes H args.toArray))) h _;rw [uf];exact eb _ _ _ _ (fun v h' ⟨e,hk⟩=>by subst e; exact hk) (R7 ht)
 ·show aS P (do pure (Next.value (<- Builtin.unsafeString_ c.argTypes H args.toArray))) h _;rw [uf]; exact oq ht
 ·show aS P (do pure (Next.value (<- Builtin.unsafeSliceData_ c.argTypes H args.toArray))) h _;rw [uf]; exact oq ht
 ·exact ht.elim
def RA {b:List Xab} {c:Xab->T} (ht:T.new b H (fun a=>c (.pointer (some a))) L K h) {cs:Array Xab} (hv:cs=b.toArray) :
  aS P (do pure (Value.pointer (some (<- newRow H cs)))) h (fun v h'=>c v L K h'):=by
 subst hv;exact ht
def Dn {n:Nat} {t:TypeId} {p:Xac} {kk:Xax->List Xab->Xab->T} (e:cH P t=some V)
  (ht:(match V with
   | true=>(bif (fA P 9 t).length==P.cellsOf t then T.bf p fun a=>T.af a (fA P 9 t) (jO _ fun l=>kk a l (.agg l.toArray)) else T.fail)
   | false=>T.bf p fun a=>T.af a (cM P t).2 (jO _ fun l=>kk a l (l.headD undef))) L K h) :
  ∃ a l v,p=some a/\aH h a 0 l/\kk a l v L K h/\∀ h' (R:Xab->Hp->Prop),aH h' a 0 l->R v h'->aS P (Instr.loadAt t (.pointer p)) h' R:=by
 obtain ⟨i,hi⟩:=ui e;cases V with
 | true =>
  simp only at ht;cases hl:(fA P 9 t).length==P.cellsOf t with
  | false=>rw [hl] at ht; exact ht.elim
  | true =>
   rw [hl] at ht;have g:(fA P 9 t).length=P.cellsOf t:=by simpa using hl
   obtain ⟨a,rfl,ht⟩:=gM ht;obtain ⟨x,hc,ht⟩:=ht;rw [dU] at ht;refine ⟨a,et _ x,_,rfl,hc,ht,fun h' R c hk=>?_⟩;unfold Instr.loadAt;show aS P (loadVar t a) h' R;unfold loadVar;rw [av,jY e];show aS P (sizeOf t >>= fun n=>loadCells a n >>= fun cs=>(pure (Value.agg cs):Sem Xab)) h' R;rw [av,cd hi,av];exact dJ (by rw [vq,g]) c _ hk
 | false =>
  simp only at ht;obtain ⟨a,rfl,ht⟩:=gM ht;obtain ⟨x,hc,ht⟩:=ht;rw [dU] at ht;have h1:∃ d,(cM P t).2=[d]:=by
   unfold cH at e;unfold cM;cases f:P.underlying t with
   | none=>rw [f] at e; simp at e
   | some d=>rw [f] at e; cases d <;> simp at e <;> exact ⟨_,rfl⟩
  obtain ⟨d,f⟩:=h1;refine ⟨a,et _ x,_,rfl,hc,ht,fun h' R c hk=>?_⟩;revert x;rw [f];intro x hc ht c hk;unfold Instr.loadAt;show aS P (loadVar t a) h' R;unfold loadVar;rw [av,jY e];have hc0:=c.1
  have:a.add 0=a:=by simp [Addr.add]
  rw [this] at hc0;exact ⟨_,hc0,hk⟩
variable {f:Nd} {g:Act}
def OH (d : ix f b g) {j : Xax -> List Xab -> Xab -> T} (ht : sC P H U b j L K h) :
    ∃ p l v, ev b U = some (.pointer (some p)) /\ aH h p 0 l /\ j p l v L K h /\ ∀ h' (R : Xab -> Hp -> Prop), aH h' p 0 l -> R v h' -> aS P (Instr.loadAt H (.pointer (some p))) h' R := by
  unfold sC at ht;obtain ⟨v, hv, ht⟩ := bH ht;cases k : cH P H with
  | none => cases v <;> simp only [k] at ht <;> exact ht.elim
  | some c =>
    cases v <;> first
      | (cases c <;> simp only [k] at ht <;> exact ht.elim)
      | (rename_i p
         have m : (match c with
            | true => (bif (fA P 9 H).length == P.cellsOf H then T.bf p fun g => T.af g (fA P 9 H) (jO _ fun l => j g l (.agg l.toArray)) else T.fail)
            | false => T.bf p fun g => T.af g (cM P H).2 (jO _ fun l => j g l (l.headD undef))) L K h := by
            cases c <;> simp only [k] at ht <;> exact ht
         obtain ⟨q, l, v, rfl, hc, hk, i⟩ := Dn (n := f) k m;exact ⟨q, l, v, hv, hc, hk, i⟩)
def I0 {o : Oper} (j : ix f b g) {kk : Xab -> T} (ht : vJ P o b kk L K h) :
    Zv P o g.eval h (fun v h' => kk v L K h') := by
  obtain ⟨dst, op, W, pos, after, guard⟩ := o;unfold Zv;cases op <;> simp only [vJ] at ht <;> unfold execOp <;> simp only
  case move x => obtain ⟨v, hv, ht⟩ := bH ht; rw [j.ev hv]; exact ht
  case assign x => obtain ⟨v, hv, ht⟩ := bH ht; rw [j.ev hv]; exact ht
  case pick c x y =>
    obtain ⟨v, hv, ht⟩ := bH ht;rw [j.ev hv]
    cases v <;> simp only at ht <;> first
      | exact ht.elim
      | (rename_i B
         rw [av];show aS P (pure B) h _;cases B
         · obtain ⟨w, Q, ht⟩ := bH (show ct b y kk L K h from ht); rw [j.ev Q]; exact ht
         · obtain ⟨w, Q, ht⟩ := bH (show ct b x kk L K h from ht); rw [j.ev Q]; exact ht)
  case alloc t =>
    cases X : (P.info? t).bind (·.zero) with
    | none => simp only [X] at ht; exact ht.elim
    | some z =>
      simp only [X] at ht;rw [uf];unfold Instr.alloc;rw [av, dH X];exact RA ht aj
  case box t x =>
    obtain ⟨v, hv, ht⟩ := bH ht;rw [j.ev hv, uf];unfold Instr.box newVar;cases H : cH P t with
    | none => simp only [H] at ht; exact ht.elim
    | some B =>
      cases B <;> simp only [H] at ht <;> rcases gk ht with ⟨hv, ht⟩ | ⟨hv, ht⟩ <;> first
        | exact ht.elim
        | (refine RA ht ?_
           cases v <;> first | (simp [fp] at hv; done) | simp [Value.cells, j4])
  case build t ps =>
    obtain ⟨vs, et, ht⟩ := ji ht;have et := j.Tq et
    have S : (ps.map fun x => (x.1, g.eval x.2)).toList = (ps.toList.map (·.1)).zip vs := by
      rw [<- et];simp only [Array.toList_map];generalize ps.toList = l
      induction l with
      | nil => rfl
      | cons p l ih => simp [ih]
    rw [uf];unfold Instr.build;rw [av];cases X : (P.info? t).bind (·.zero) with
    | none =>
      generalize P.underlying t = ud at ht;cases ud with
      | none => simp only [X] at ht; exact ht.elim
      | some d => cases d <;> simp only [X] at ht <;> exact ht.elim
    | some z =>
      rw [dH X];show aS P (underlying t >>= _) h _;cases C : P.underlying t with
      | none => simp only [C] at ht; exact ht.elim
      | some d =>
        rw [av, aC C];cases d <;> simp only [C, X] at ht <;> first | exact ht.elim | skip
        case array len U =>
          rcases gk ht with ⟨_, ht⟩ | ⟨I, ht⟩
          · exact ht.elim
          · have I : oo P U = true := by simpa using I
            obtain ⟨i, hi⟩ := cg9.1 I;simp only;rw [av, cd hi];have G : (Array.map (fun x => (x.1, g.eval x.2)) ps).toList = (ps.toList.map (·.1)).zip vs := S;obtain ⟨ls, Y, ht⟩ := tv ht;cases F : fQ (fun i => some (i * P.cellsOf U, P.cellsOf U)) z.cells.toList ls with
            | none => simp only [F] at ht; exact ht.elim
            | some cs =>
              simp only [F] at ht;rw [G, EH Y F];exact ht
        case struct V =>
          rcases gk ht with ⟨_, ht⟩ | ⟨I, ht⟩
          · exact ht.elim
          · have I : (V.all fun A => oo P A.type) = true := by simpa using I
            simp only;rw [av]
            have hm : ∀ R : Array (Nat × Nat) -> Hp -> Prop, aS P (V.mapM fun A => do pure (A.offset, <- sizeOf A.type)) h R = R (V.map fun A => (A.offset, P.cellsOf A.type)) h := by
              intro R;rw [Array.mapM_eq_mapM_toList]
              have hT' : ∀ A ∈ V.toList, oo P A.type = true := by
                intro A F; exact (Array.all_eq_true_iff_forall_mem.1 I) A (by simpa using F)
              have : ∀ (l : List Field) (R : List (Nat × Nat) -> Hp -> Prop), (∀ A ∈ l, oo P A.type = true) ->
                  aS P (l.mapM fun A => (do pure (A.offset, <- sizeOf A.type) : Sem (Nat × Nat))) h R = R (l.map fun A => (A.offset, P.cellsOf A.type)) h := by
                intro l
                induction l with
                | nil => intro R _; rfl
                | cons A l ih =>
                  intro R hl;obtain ⟨i, hi⟩ := cg9.1 (hl A aj);rw [List.mapM_cons, av, av, cd hi];show aS P ((l.mapM fun A => (do pure (A.offset, <- sizeOf A.type) : Sem (Nat × Nat))) >>= _) h R = _;rw [av, ih _ (fun A F => hl A (by simp [F]))] <;> rfl
              show aS P (List.toArray <$> _) h R = _;rw [map_eq_pure_bind, av, this _ _ hT'];show R (List.toArray _) h = _
              congr 1
              apply cb9.1
              simp
            rw [hm];obtain ⟨ls, Y, ht⟩ := tv ht;cases F : fQ (fun i => (V.map fun A => (A.offset, P.cellsOf A.type))[i]?) z.cells.toList ls with
            | none => simp only [F] at ht; exact ht.elim
            | some cs =>
              simp only [F] at ht;have G : (Array.map (fun x => (x.1, g.eval x.2)) ps).toList = (ps.toList.map (·.1)).zip vs := S;rw [G, EH Y F];exact ht
  case buildSlice t len ps =>
    obtain ⟨vs, et, ht⟩ := ji ht;have et := j.Tq et
    have S : (ps.map fun x => (x.1, g.eval x.2)) = ((ps.toList.map (·.1)).zip vs).toArray := by
      apply cb9.1;rw [<- et];simp only [Array.toList_map];generalize ps.toList = l
      induction l with
      | nil => rfl
      | cons p l ih => simpa using ih
    rw [uf];have G : (Array.map (fun x => (x.1, g.eval x.2)) ps) = ((ps.toList.map (·.1)).zip vs).toArray := S;rw [G];exact np ht
  case load t x =>
    have ht' : sC P t x b (fun _ _ v => kk v) L K h := ht;obtain ⟨p, l, v, hv, hc, hk, hall⟩ := OH j ht';rw [j.ev hv, uf];exact hall h _ hc hk
  case store t x y =>
    obtain ⟨v, hv, ht⟩ := bH ht;obtain ⟨u, E, ht⟩ := bH ht;rw [j.ev hv, j.ev E, Zy];cases H : cH P t with
    | none => cases v <;> simp only [H] at ht <;> exact ht.elim
    | some B =>
      obtain ⟨i, hi⟩ := ui H
      cases v <;> first
        | (cases B <;> simp only [H] at ht <;> exact ht.elim)
        | skip
      rename_i p;cases B <;> simp only [H] at ht
      · rcases gk ht with ⟨hl, ht⟩ | ⟨hl, ht⟩
        · rcases gk ht with ⟨N, ht⟩ | ⟨N, ht⟩
          · exact ht.elim
          · obtain ⟨q, rfl, ht⟩ := gM ht
            obtain ⟨hc, ht⟩ := ht;unfold Instr.storeAt storeVar;show aS P (sizeOf t >>= _) h _;rw [av, cd hi];have hcl : u.cells = #[u] := by cases u <;> first | (simp [fp] at N; done) | rfl
            have h1 : P.cellsOf t = 1 := by simpa using hl
            rw [hcl, h1];exact fT q [u] h 0 _ hc ht
        · exact ht.elim
      · rcases gk ht with ⟨N, ht⟩ | ⟨N, ht⟩
        · rcases gk ht with ⟨hl, ht⟩ | ⟨hl, ht⟩
          · obtain ⟨q, rfl, ht⟩ := gM ht
            obtain ⟨hc, ht⟩ := ht;unfold Instr.storeAt storeVar;show aS P (sizeOf t >>= _) h _;rw [av, cd hi];obtain ⟨cs, rfl⟩ : ∃ cs, u = .agg cs := by cases u <;> first | (simp [fp] at N; done) | exact ⟨_, rfl⟩
            have h1 : cs.size = P.cellsOf t := by simpa [j4] using hl
            show aS P (if cs.size ≠ P.cellsOf t then _ else storeCells q cs.toList 0) h _;rw [ac9 (by simp [h1])];exact fT q cs.toList h 0 _ hc ht
          · exact ht.elim
        · exact ht.elim
  case nilCheck x =>
    obtain ⟨v, hv, ht⟩ := bH ht;rw [j.ev hv];cases v with
    | pointer p => obtain ⟨q, rfl, ht⟩ := gM ht; exact ht
    | func fn J ca => cases fn <;> first | exact ht.elim | exact ht
    | iface t w => exact ht
    | _ => exact ht.elim
  case binOp op t x y yt =>
    obtain ⟨v, hv, ht⟩ := bH ht;obtain ⟨u, E, ht⟩ := bH ht;rw [j.ev hv, j.ev E, uf];exact TH E ht
  case unOp op t x => obtain ⟨v, hv, ht⟩ := bH ht; rw [j.ev hv, uf]; exact V5 ht
  case convert s d x => obtain ⟨v, hv, ht⟩ := bH ht; rw [j.ev hv, uf]; exact Qk ht
  case makeInterface t x =>
    obtain ⟨v, hv, ht⟩ := bH ht;rw [j.ev hv, uf];unfold Instr.makeInterface;cases C : P.underlying t with
    | none => simp only [C] at ht; exact ht.elim
    | some d =>
      rw [av, aC C];cases d <;> simp only [C] at ht <;> first | exact ht.elim | exact ht
  case makeFunc fn J ca =>
    obtain ⟨vs, et, ht⟩ := ji ht;obtain ⟨us, hus, ht⟩ := ji ht;rw [uf];have Z : J.map g.eval = vs.toArray := by apply cb9.1; simpa using j.Tq et
    have e2 : ca.map g.eval = us.toArray := by apply cb9.1; simpa using j.Tq hus
    rw [Z, e2];exact ht
  case makeMap t r =>
    cases r with
    | none => rw [uf]; exact TO ht
    | some r => exact ht.elim
  case makeSlice t l c =>
    obtain ⟨v, hv, ht⟩ := bH ht;obtain ⟨u, E, ht⟩ := bH ht;rw [j.ev hv, j.ev E, uf];exact np ht
  case slice t x lo hi mx =>
    obtain ⟨v, hv, ht⟩ := bH ht;obtain ⟨vs, et, ht⟩ := ji ht;have et := j.Tq et;rw [j.ev hv, uf];unfold XB at ht
    cases lo <;> cases hi <;> cases mx <;> simp only [Option.toList, List.nil_append, List.append_nil, List.map_cons, List.map_nil, List.cons_append] at et <;> subst et <;>
      first | exact ht.elim | exact Ly ht
  case fieldAddr s x A =>
    obtain ⟨v, hv, ht⟩ := bH ht;rw [j.ev hv, uf];cases C : P.underlying s with
    | none => cases v <;> simp only [C] at ht <;> exact ht.elim
    | some d =>
      cases v <;> first
        | (cases d <;> simp only [C] at ht <;> exact ht.elim)
        | skip
      rename_i p;cases d <;> simp only [C] at ht <;> first | exact ht.elim | skip
      rename_i V;cases F : V[A]? with
      | none => simp only [F] at ht; exact ht.elim
      | some fd =>
        simp only [F] at ht;cases hc : P.cellsOf fd.type with
        | zero => simp only [hc] at ht; exact ht.elim
        | succ m =>
          simp only [hc] at ht;obtain ⟨q, rfl, ht⟩ := gM ht
          have hi : ∃ i, P.info? fd.type = some i := by
            cases hi : P.info? fd.type with
            | none => simp [Program.cellsOf, hi] at hc
            | some i => exact ⟨i, rfl⟩
          obtain ⟨i, hi⟩ := hi;unfold Instr.fieldAt;rw [av, aC C];simp only [F];show aS P (fieldPlace q fd >>= fun y => (pure (Value.pointer (some y)) : Sem Xab)) h _;unfold fieldPlace;rw [av, av, cd hi, hc];exact ht
  case field s x A =>
    obtain ⟨v, hv, ht⟩ := bH ht;rw [j.ev hv, uf];cases C : P.underlying s with
    | none => cases v <;> simp only [C] at ht <;> exact ht.elim
    | some d =>
      cases v <;> first
        | (cases d <;> simp only [C] at ht <;> exact ht.elim)
        | skip
      rename_i cs;cases d <;> simp only [C] at ht <;> first | exact ht.elim | skip
      rename_i V;cases F : V[A]? with
      | none => simp only [F] at ht; exact ht.elim
      | some fd =>
        simp only [F] at ht;unfold Instr.field;rw [av, aC C];simp only [F];show aS P (part fd.type cs fd.offset) h _;exact N5 ht
  case indexAddr t x i =>
    obtain ⟨v, hv, O⟩ := bH ht;obtain ⟨u, E, D⟩ := bH O;clear ht O;rw [j.ev hv, j.ev E, uf];clear hv E;unfold zt at D;generalize C : P.underlying t = ud at D;split at D
    · rename_i p len cp k m U
      rcases gk D with ⟨_, ht⟩ | ⟨I, ht⟩
      · exact ht.elim
      · have I : oo P U = true := by simpa using I
        obtain ⟨i, hi⟩ := cg9.1 I;obtain ⟨H, ht⟩ := ht;obtain ⟨q, rfl, ht⟩ := gM ht;unfold Instr.indexAt;show aS P (underlying t >>= _) h _;rw [av, aC C];show aS P (underlying t >>= _) h _;rw [av, aC C];show aS P (if 0 <= m /\ m < len then (sizeOf U >>= fun z => (pure (Value.pointer (some (q.add (m.toNat * z)))) : Sem Xab)) else _) h _;rw [ag9 H, av, cd hi];exact ht
    · rename_i p k m len U
      rcases gk D with ⟨_, ht⟩ | ⟨I, ht⟩
      · exact ht.elim
      · have I : oo P U = true := by simpa using I
        obtain ⟨i, hi⟩ := cg9.1 I;obtain ⟨H, ht⟩ := ht;obtain ⟨q, rfl, ht⟩ := gM ht;unfold Instr.indexAt;show aS P (underlying t >>= _) h _;rw [av, aC C];show aS P (underlying t >>= _) h _;rw [av, aC C];show aS P (if 0 <= m /\ m < len then (sizeOf U >>= fun z => (pure (Value.pointer (some (q.add (m.toNat * z)))) : Sem Xab)) else _) h _;rw [ag9 H, av, cd hi];exact ht
    · exact D.elim
  case index t x i =>
    obtain ⟨v, hv, O⟩ := bH ht;obtain ⟨u, E, D⟩ := bH O;clear ht O;rw [j.ev hv, j.ev E, uf];clear hv E;unfold Iy at D;generalize C : P.underlying t = ud at D;split at D
    · rename_i s k m
      obtain ⟨H, ht⟩ := D;unfold Instr.index;show aS P (underlying t >>= _) h _;rw [av, aC C]
      have hs : s[m.toNat]? = some (s.data.toList.getD m.toNat 0) := by
        have hlt : m.toNat < s.size :=ad
        have : s[m.toNat]? = some s[m.toNat] := by simp [hlt]
        rw [this]
        congr 1
        have h2 : m.toNat < s.data.toList.length := by simpa using hlt
        rw [cf9, ad9 h2] <;> rfl
      show aS P (match (if 0 <= m then s[m.toNat]? else none) with | some B => (pure (Value.int .u8 B.toNat) : Sem Xab) | none => boundsPanic k m s.size .index) h _;rw [ag9 H.1, hs];exact ht
    · exact oq D
    · exact D.elim
  case lookup t m x ok =>
    obtain ⟨v, hv, ht⟩ := bH ht;obtain ⟨u, E, ht⟩ := bH ht;rw [j.ev hv, j.ev E, uf];generalize C : P.underlying t = ud at ht;split at ht
    · cases ok <;> simp only at ht <;> exact oq ht
    · exact ht.elim
  case mapUpdate t m x y =>
    obtain ⟨v, hv, ht⟩ := bH ht;obtain ⟨u, E, ht⟩ := bH ht;obtain ⟨w, Q, ht⟩ := bH ht;rw [j.ev hv, j.ev E, j.ev Q, Zy];exact ht
  case insert t m x y =>
    obtain ⟨v, hv, ht⟩ := bH ht;obtain ⟨u, E, ht⟩ := bH ht;obtain ⟨w, Q, ht⟩ := bH ht;rw [j.ev hv, j.ev E, j.ev Q, Zy];exact ht
  case mapEntry t m x =>
    obtain ⟨v, hv, ht⟩ := bH ht;obtain ⟨u, E, ht⟩ := bH ht;rw [j.ev hv, j.ev E, uf];generalize C : P.underlying t = ud at ht;split at ht
    · exact oq ht
    · exact ht.elim
  case entryStore t m x y =>
    obtain ⟨v, hv, ht⟩ := bH ht;obtain ⟨u, E, ht⟩ := bH ht;obtain ⟨w, Q, ht⟩ := bH ht;rw [j.ev hv, j.ev E, j.ev Q, Zy];exact ht
  case range t x =>
    obtain ⟨v, hv, ht⟩ := bH ht;rw [j.ev hv, uf];exact TD ht
  case next it B =>
    obtain ⟨v, hv, ht⟩ := bH ht;rw [j.ev hv, uf];generalize C : P.underlying W = ud at ht;split at ht
    · rename_i ts
      generalize hts : ts.toList = tl at ht;cases tl with
      | nil =>
        refine eb _ _ _ _ ?_ ht;rintro v h' (⟨rfl, M⟩ | ⟨x, rfl, M⟩)
        · exact M
        · rw [dU] at M; exact M
      | cons t0 ts =>
        refine eb _ _ _ _ ?_ ht;rintro v h' (⟨rfl, M⟩ | ⟨x, rfl, M⟩)
        · exact M
        · rw [dU] at M; exact M
    · exact ht.elim
  case entry it =>
    obtain ⟨v, hv, ht⟩ := bH ht;rw [j.ev hv, uf];exact oq ht
  case typeAssert x t d ok =>
    obtain ⟨v, hv, ht⟩ := bH ht;rw [j.ev hv, uf];cases ok <;> simp only at ht <;> exact oq ht
  case extract x i =>
    obtain ⟨v, hv, ht⟩ := bH ht;rw [j.ev hv, uf];cases v with
    | tuple vs =>
      unfold Instr.extract;show aS P (match vs[i]? with | some v => pure v | none => stuck "Extract: no such component") h _
      rw [<- dm9];cases hi : vs.toList[i]? with
      | none => simp only [hi] at ht; exact ht.elim
      | some w => simp only [hi] at ht; exact ht
    | _ => exact ht.elim
  case call c =>
    rw [av];unfold resolve;cases hc : c.callee with
    | builtin B =>
      simp only [hc] at ht;obtain ⟨vs, et, ht⟩ := ji ht;have Z : c.args.map g.eval = vs.toArray := by apply cb9.1; simpa using j.Tq et
      simp only [Z];exact Hs ht
    | invoke r m => simp only [hc] at ht; exact ht.elim
    | value A =>
      simp only [hc] at ht;cases htm : GJ A with
      | true =>
        simp only [htm] at ht;obtain ⟨gv, hg, ht⟩ := bH ht;obtain ⟨vs, et, ht⟩ := ji ht;have Z : c.args.map g.eval = vs.toArray := by apply cb9.1; simpa using j.Tq et
        simp only [Z, j.ev hg];obtain ⟨f', J, ca, rfl, ht, fn, hfn, H, hn⟩ := ht
        have hbd : gi P f' = true := by
          unfold gi;rw [hfn];simp [H, hn]
        show aS P (callFunc f' (J ++ vs.toArray ++ ca)) h _
        have e2 : (J.toList ++ vs ++ ca.toList).toArray = J ++ vs.toArray ++ ca := by
          apply cb9.1; simp
        rw [<- e2, xo hbd];refine HC.mono ht ?_;rintro v h' ⟨x, rfl, M⟩;rw [dU] at M;exact M
      | false =>
        simp only [htm] at ht;obtain ⟨gv, hg, ht⟩ := bH ht;obtain ⟨vs, et, ht⟩ := ji ht;have Z : c.args.map g.eval = vs.toArray := by apply cb9.1; simpa using j.Tq et
        simp only [Z, j.ev hg]
        obtain ⟨A, J, ca, rfl⟩ : ∃ A J ca, gv = .func (.func A) J ca := by
          cases gv with
          | func fn J ca => cases fn <;> first | exact ht.elim | exact ⟨_, _, _, rfl⟩
          | _ => exact ht.elim
        have := PO (show D3 P A (J.toList ++ vs ++ ca.toList) W kk L K h from ht);show aS P (callFunc A (J ++ vs.toArray ++ ca)) h _
        have e2 : (J.toList ++ vs ++ ca.toList).toArray = J ++ vs.toArray ++ ca := by
          apply cb9.1; simp
        rw [<- e2];exact this
  all_goals exact ht.elim
end ops
end Go.Sx
