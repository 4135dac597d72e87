/- Part of the framework. No condition. -/
import Derived.Test.YtlpcncdglfjnoaaGreatDoorSxX
set_option linter.all false
set_option maxHeartbeats 4000000
namespace Go.Sx
section sems
variable {P:Program} {h:Hp}
def eY {α:Type} (f:Program->Sem α) (K:α->Hp->Prop):aI P (program >>= f) h K=aI P (f P) h K:=by
 rw [al]; rfl
variable {H:TypeId} {O:TypeDesc}
def au (a:P.underlying H=some O) (K:TypeDesc->Hp->Prop):aI P (underlying H) h K=K O h:=by
 unfold underlying; rw [eY,a]; rfl
def info_of_underlying (a:P.underlying H=some O):∃ i,P.info? H=some i:=by
 unfold Program.underlying at a;cases hi:P.info? H with
 | none=>rw [hi] at a; simp at a
 | some i=>exact ⟨i,rfl⟩
variable {I:TypeInfo}
def gf (hi:P.info? H=some I) (K:TypeInfo->Hp->Prop):aI P (typeInfo H) h K=K I h:=by
 unfold typeInfo; rw [eY,hi]; rfl
def cH (hi:P.info? H=some I):P.cellsOf H=I.size:=by
 simp [Program.cellsOf,hi]
def bF (hi:P.info? H=some I) (K:Nat->Hp->Prop):aI P (sizeOf H) h K=K (P.cellsOf H) h:=by
 unfold sizeOf; rw [al,gf hi,cH hi]; rfl
def dp {z:XB} (a:(P.info? H).bind (·.zero)=some z) (K:XB->Hp->Prop):aI P (zeroValue H) h K=K z h:=by
 cases hi:P.info? H with
 | none=>rw [hi] at a; simp at a
 | some i =>
  rw [hi] at a; simp at a;unfold zeroValue; rw [al,gf hi,a]; rfl
def je {b:Bool} (a:cB P H=some b) (K:Bool->Hp->Prop):aI P (isAgg H) h K=K b h:=by
 unfold cB at a;cases c:P.underlying H with
 | none=>rw [c] at a; simp at a
 | some d =>
  rw [c] at a;unfold isAgg; rw [al,au c]
  all_goals (cases d <;> simp at a <;> subst a <;> rfl)
def r9 {b:Bool} (a:cB P H=some b):∃ i,P.info? H=some i:=by
 unfold cB at a;cases c:P.underlying H with
 | none=>rw [c] at a; simp at a
 | some d=>exact info_of_underlying c
theorem lr (a:YA):∀ (c:List XB) (i:Nat) (b:Array XB) (K:Array XB->Hp->Prop),aE h a i c->K (b++c.toArray) h ->
  aI P (loadCellsFrom a i c.length b) h K
 | [],i,b,K,_,hk=>by
  have d:K b h:=by simpa using hk
  exact d
 | v::c,i,b,K,hc,hk=>by
  simp only [List.length_cons,loadCellsFrom];rw [al];refine ⟨v,hc.1,lr a c (i+1) (b.push v) K hc.2 ?_⟩;have e:b.push v++c.toArray=b++(v::c).toArray:=by
   apply Wf.1; simp
  rw [e]; exact hk
def dZ {a:YA} {n:Nat} {b:List XB} (hn:b.length=n) (hc:aE h a 0 b) (K:Array XB->Hp->Prop) (hk:K b.toArray h):aI P (loadCells a n) h K:=by
 subst hn;exact lr a b 0 #[] K hc (by simpa using hk)
theorem fk (a:YA):∀ (b:List XB) (h:Hp) (i:Nat) (K:Unit->Hp->Prop),xO h a i b->K () (qW h a i b)->aI P (storeCells a b i) h K
 | [],h,i,K,_,hk=>hk
 | v::b,h,i,K,hc,hk=>by
  simp only [storeCells];rw [al];exact ⟨hc.1,hc.2.1,hc.2.2.1,fk a b _ (i+1) K hc.2.2.2 hk⟩
end sems
structure Nd where
 n:Nat
 d:List Deferred
instance:Coe Nd Nat:=⟨Nd.n⟩
structure gd (n:Nd) (e:Env) (a:Act):Prop where
 size:a.tmps.size=n.n
 defers:a.defers=n.d
 get:∀ s v,cQ e s=some v->a.tmps.getD s undef=v
def gd.ev {n:Nd} {e:Env} {a:Act} (g:gd n e a) {x:Operand} {v:XB} (b:ev e x=some v):a.eval x=v:=by
 cases x with
 | tmp t=>exact g.get t v b
 | const w=>simpa [Sx.ev,Act.eval] using b
 | global i=>simpa [Sx.ev,Act.eval] using b
 | func f=>simpa [Sx.ev,Act.eval] using b
def du (e:Env) (s:Nat) (v:Option XB) (t:Nat):cQ ((s,v)::e) t=if s=t then v else cQ e t:=by
 simp only [cQ]
 by_cases h:s=t
 ·subst h; simp
 ·have:Nat.beq s t=false:=by
   cases a:Nat.beq s t
   ·rfl
   ·exact (h (VF a)).elim
  rw [this,Vu h]; rfl
def gd.put {n:Nd} {e:Env} {a:Act} (g:gd n e a) (dst:Option Tmp) (v:XB):gd n (dQ n e dst v) (a.put dst v):=by
 cases dst with
 | none=>exact g
 | some d =>
  refine ⟨by simp [Act.put,g.size],by simp [Act.put,g.defers],fun s u b=>?_⟩;simp only [dQ] at b;cases f:Nat.blt d n with
  | true =>
   have h:d<n:=by simpa [Nat.blt_eq] using f
   rw [f] at b;simp only [cond_true,du] at b;simp only [Act.put,Array.getD_eq_getD_getElem?,Array.getElem?_setIfInBounds]
   by_cases i:d=s
   ·subst i;rw [VE rfl] at b;simp at b; subst b;simp [g.size,h]
   ·rw [Vu i] at b;rw [Vu i]
    have:=g.get s u b
    simpa [Array.getD_eq_getD_getElem?] using this
  | false =>
   rw [f] at b;have h:¬ d<n:=by intro j; rw [<- Nat.blt_eq] at j; rw [f] at j; cases j
   have c:a.put (some d) v=a:=by
    simp only [Act.put]
    have:a.tmps.setIfInBounds d v=a.tmps:=Array.setIfInBounds_eq_of_size_le (by rw [g.size]; exact Nat.le_of_not_lt h)
    rw [this]
   rw [c];exact g.get s u b
def gd.uv {n:Nd} {e:Env} {a:Act} (g:gd n e a) {s:Nat} {v:XB} (hv:cQ e s=some v) (w:XB) (f:w=v):gd n (dQ n e (some s) w) a:=by
 subst f;refine ⟨g.size,g.defers,fun t u b=>?_⟩;simp only [dQ] at b;cases c:Nat.blt s n with
 | true =>
  rw [c] at b;simp only [cond_true,du] at b
  by_cases d:s=t
  ·subst d; rw [VE rfl] at b; simp at b; subst b; exact g.get s w hv
  ·rw [Vu d] at b; exact g.get t u b
 | false=>rw [c] at b; exact g.get t u b
section trees
variable {L:Lp} {K:XB->Hp->Prop} {h:Hp}
def bn {e:Env} {x:Operand} {k:XB->T} (a:bK e x k L K h):∃ v,ev e x=some v/\k v L K h:=by
 unfold bK at a;cases b:ev e x with
 | none=>rw [b] at a; exact a.elim
 | some v=>rw [b] at a; exact ⟨v,rfl,a⟩
theorem ic {e:Env}:∀ {xs:List Operand} {k:List XB->T},gR e xs k L K h->∃ b,xs.map (ev e)=b.map some/\k b L K h
 | [],k,a=>⟨[],rfl,a⟩
 | x::xs,k,a=>by
  obtain ⟨v,hv,a⟩:=bn a;obtain ⟨b,dS,a⟩:=ic a;exact ⟨v::b,by simp [hv,dS],a⟩
theorem gd.OE {n:Nd} {e:Env} {a:Act} (g:gd n e a):∀ {xs:List Operand} {c:List XB},xs.map (Sx.ev e)=c.map some->xs.map a.eval=c
 | [],[],_=>rfl
 | x::xs,v::c,b=>by
  simp only [List.map_cons,List.cons.injEq] at b;simp only [List.map_cons,g.ev b.1,g.OE b.2]
 | [],v::c,b=>by simp at b
 | x::xs,[],b=>by simp at b
def fM {p:XC} {k:YA->T} (b:T.bd p k L K h):∃ a,p=some a/\k a L K h:=by
 cases p with
 | none=>exact b.elim
 | some a=>exact ⟨a,rfl,b⟩
def fy {b:Bool} {t u:T} (a:(cond b t u) L K h):(b=true/\t L K h)\/(b=false/\u L K h):=by
 cases b
 ·exact .inr ⟨rfl,a⟩
 ·exact .inl ⟨rfl,a⟩
end trees
section ops
variable {P:Program} {L:Lp} {K:XB->Hp->Prop} {h:Hp}
def r6 {s:Sem XB} {R:XB->Hp->Prop}:aI P (do pure (Next.value (<- s))) h (Bz P R)=aI P s h R:=by
 rw [al]; rfl
def T2 {s:Sem Unit} {R:XB->Hp->Prop}:aI P (do s; pure Next.skip) h (Bz P R)=aI P s h (fun _ h'=>R undef h'):=by
 rw [al]; rfl
variable {U:Bool}
def mH {s:Sem XB} {cs:List ef} {a:XB->T} (c:T.eK P s U cs (iV _ fun l=>a (rv U cs l)) L K h) :
  aI P s h (fun v h'=>a v L K h'):=by
 refine dH _ _ _ _ ?_ c;rintro v h' ⟨x,rfl,b⟩;rw [dC] at b;exact b
variable {H I:TypeId}
def ly {s:Sem XB} {a:XB->T} (b:T.eK P s false [(false,[.slice H])] (fun p l c=>a (.slice p l c)) L K h) :
  aI P s h (fun v h'=>a v L K h'):=by
 refine dH _ _ _ _ ?_ b;rintro v h' ⟨x,rfl,d⟩;exact d
def O7 {s:Sem XB} {a:XB->T} (c:T.eK P s false [(false,[.bool])] (fun b=>a (.bool b)) L K h):aI P s h (fun v h'=>a v L K h'):=by
 refine dH _ _ _ _ ?_ c;rintro v h' ⟨x,rfl,d⟩;exact d
def Cg {s:Sem XB} {a:XB->T} (c:T.eK P s false [(false,[.int .i64])] (fun b=>a (.int .i64 b)) L K h):aI P s h (fun v h'=>a v L K h'):=by
 refine dH _ _ _ _ ?_ c;rintro v h' ⟨x,rfl,d⟩;exact d
def N' {s:Sem XB} {a:XB->T} (c:T.eK P s false [(false,[.string])] (fun b=>a (.string b)) L K h):aI P s h (fun v h'=>a v L K h'):=by
 refine dH _ _ _ _ ?_ c;rintro v h' ⟨x,rfl,d⟩;exact d
def OS {s:Sem XB} {c:XB->T} (d:T.eK P s false [(false,[.map H I])] (fun I=>c (.map I)) L K h):aI P s h (fun v h'=>c v L K h'):=by
 refine dH _ _ _ _ ?_ d;rintro v h' ⟨x,rfl,e⟩;exact e
def OM {s:Sem XB} {c:XB->T} (d:T.eK P s false [(false,[.pointer H])] (fun b=>c (.pointer b)) L K h):aI P s h (fun v h'=>c v L K h'):=by
 refine dH _ _ _ _ ?_ d;rintro v h' ⟨x,rfl,e⟩;exact e
def NK {s:Sem XB} {a:T} (b:T.eK P s true [] a L K h):aI P s h (fun v h'=>v=.tuple #[]/\a L K h'):=by
 refine dH _ _ _ _ ?_ b;rintro v h' ⟨x,rfl,c⟩;exact ⟨rfl,c⟩
variable {V:IntKind} {Y c:Int}
def NT {op : BinOp} {b : XB -> T} (d : lP op = false) (t : TypeId) (a : GK op V Y c b L K h) :
    aI P (binOp op t (.int V Y) (.int V c)) h (fun v h' => b v L K h') := by
  cases op <;> simp only [lP, Bool.true_eq_false] at d <;> simp only [GK] at a <;>
    first
    | exact a.elim
    | (simp only [binOp, Op.intArith, Op.intDiv, Op.intBits, Op.intCmp, ne_eq, not_true_eq_false, if_false]; exact a)
    | (obtain ⟨h0, a⟩ := a
       simp only [binOp, Op.intDiv, ne_eq, not_true_eq_false, if_false, if_neg h0]; exact a)
def JF {op:BinOp} {k':IntKind} {b:XB->T} (d:lP op=true) (t:TypeId) (a:y6 op V Y c b L K h) :
  aI P (binOp op t (.int V Y) (.int k' c)) h (fun v h'=>b v L K h'):=by
 cases op <;> simp only [lP,Bool.false_eq_true] at d <;> simp only [y6] at a <;> obtain ⟨h0,a⟩:=a <;>
  simp only [binOp,Op.shift,if_neg (Int.not_lt.2 h0)] <;> exact a
def Pr {op : BinOp} {m n : XA} {b : XB -> T} (t : TypeId) (a : GB op m n b L K h) :
    aI P (binOp op t (.string m) (.string n)) h (fun v h' => b v L K h') := by
  cases op <;> simp only [GB] at a <;>
    first
    | exact a.elim
    | (simp only [binOp, Op.stringOp]; exact a)
    | (obtain ⟨h0, a⟩ := a
       simp only [binOp, Op.stringOp, if_neg (Int.not_lt.2 h0)]; exact a)
def AR:XB->Bool
 | .nilIface=>false
 | .agg _=>false
 | _=>true
variable {O Z:Operand}
def fN {op:BinOp} {a b:XB} (c:AR a=true) {R:XB->Hp->Prop} :
  aI P (do eqGuard op H O Z a b; binOp op H a b) h R=aI P (binOp op H a b) h R:=by
 rw [al]
 have:∀ K:Unit->Hp->Prop,aI P (eqGuard op H O Z a b) h K=K () h:=by
  intro K;cases op <;> first | rfl | (cases a <;> first | (simp [AR] at c; done) | rfl)
 rw [this]
def Gg (a:P.underlying H=some .bool) (m n:Bool) (R:Bool->Hp->Prop):aI P (Op.equal H (.bool m) (.bool n)) h R=R (m==n) h:=by
 show aI P (Op.equalIn (9999+1) H (.bool m) (.bool n)) h R=_;unfold Op.equalIn;rw [al,au a]; rfl
def AF (a:P.underlying H=some (.pointer I)) (p:XC) (R:Bool->Hp->Prop):aI P (Op.equal H (.pointer p) (.pointer none)) h R=R p.isNone h:=by
 show aI P (Op.equalIn (9999+1) H (.pointer p) (.pointer none)) h R=_;unfold Op.equalIn;rw [al,au a]; cases p <;> rfl
def xX (a:P.underlying H=some (.slice I)) (p:XC) (l c:Nat) (R:Bool->Hp->Prop):aI P (Op.equal H (.slice p l c) (.slice none 0 0)) h R=R p.isNone h:=by
 show aI P (Op.equalIn (9999+1) H (.slice p l c) (.slice none 0 0)) h R=_;unfold Op.equalIn;rw [al,au a]; cases p <;> rfl
def Aw {b:TypeId} (c:P.underlying H=some (.map I b)) (p:Option Nat) (R:Bool->Hp->Prop):aI P (Op.equal H (.map p) (.map none)) h R=R p.isNone h:=by
 show aI P (Op.equalIn (9999+1) H (.map p) (.map none)) h R=_;unfold Op.equalIn;rw [al,au c]; cases p <;> rfl
def uk {op:BinOp} {a b:XB} {d:XB->T}
  (e:∀ R:Bool->Hp->Prop,aI P (Op.equal H a b) h R=R U h)
  (h1:binOp .eql H a b=(do pure (.bool (<- Op.equal H a b)))) (h2:binOp .neq H a b=(do pure (.bool (!(<- Op.equal H a b)))))
  (c:asked op U d T.fail L K h):aI P (binOp op H a b) h (fun v h'=>d v L K h'):=by
 cases op <;> simp only [asked] at c <;> first
  | exact c.elim
  | (rw [h1,al,e]; exact c)
  | (rw [h2,al,e]; exact c)
def Pv {op:BinOp} {a b:XB} {c:XB->T} (d:NJ P op H O Z a b c L K h) :
  aI P (do eqGuard op H O Z a b; binOp op H a b) h (fun v h'=>c v L K h'):=O7 d
variable {a:Env}
def OO {op:BinOp} {f b:XB} {A:XB->T} (s:ev a Z=some b)
  (g:Cz P op H O Z f b A L K h):aI P (do eqGuard op H O Z f b; binOp op H f b) h (fun v h'=>A v L K h'):=by
 have u:∀ q,b=.pointer q->isNil Z=true->q=none:=by
  intro q w hn;cases Z <;> simp only [isNil,Bool.false_eq_true] at hn;rename_i c;simp only [Sx.ev,Option.some.injEq] at s;subst s; subst w;cases q with
  | none=>rfl
  | some f=>simp [isNil] at hn
 have o:∀ q l c,b=.slice q l c->isNil Z=true->q=none/\l=0/\c=0:=by
  intro q l c w hn;cases Z <;> simp only [isNil,Bool.false_eq_true] at hn;rename_i c;simp only [Sx.ev,Option.some.injEq] at s;subst s; subst w;cases q with
  | none =>
   cases l <;> cases c <;> simp [isNil] at hn <;> exact ⟨rfl,rfl,rfl⟩
  | some f=>simp [isNil] at hn
 have r:∀ q,b=.map q->isNil Z=true->q=none:=by
  intro q w hn;cases Z <;> simp only [isNil,Bool.false_eq_true] at hn;rename_i c;simp only [Sx.ev,Option.some.injEq] at s;subst s; subst w;cases q with
  | none=>rfl
  | some f=>simp [isNil] at hn
 unfold Cz at g;cases j:qL P H O Z with
 | false=>simp only [j] at g; exact Pv g
 | true =>
 simp only [j] at g;unfold r8 at g;split at g
 ·rename_i k m k' n;rw [fN rfl];cases z:lP op with
  | true=>simp only [z] at g; exact JF z H g
  | false =>
   simp only [z] at g
   by_cases hk:k=k'
   ·subst hk;simp only [decide_true] at g;exact NT z H g
   ·simp only [hk,decide_false] at g;exact g.elim
 ·rw [fN rfl]; exact Pr H g
 ·rename_i m n;rw [fN rfl];cases i:P.underlying H with
  | none=>simp only [i] at g; exact g.elim
  | some d =>
   cases d <;> simp only [i] at g <;> first
    | exact g.elim
    | exact uk (fun R=>Gg i m n R) rfl rfl g
 ·rename_i p q;cases i:P.underlying H with
  | none=>simp only [i] at g; exact g.elim
  | some d =>
   cases d <;> simp only [i] at g <;> first
    | exact g.elim
    | skip
   have hn:isNil Z=true:=by simpa [qL,i] using j
   obtain rfl:=u q rfl hn;rw [fN rfl]; exact uk (fun R=>AF i p R) rfl rfl g
 ·rename_i p l c q l' c';cases i:P.underlying H with
  | none=>simp only [i] at g; exact g.elim
  | some d =>
   cases d <;> simp only [i] at g <;> first
    | exact g.elim
    | skip
   have hn:isNil Z=true:=by simpa [qL,i] using j
   obtain ⟨rfl,rfl,rfl⟩:=o q _ _ rfl hn;rw [fN rfl]; exact uk (fun R=>xX i p l c R) rfl rfl g
 ·rename_i p q;cases i:P.underlying H with
  | none=>simp only [i] at g; exact g.elim
  | some d =>
   cases d <;> simp only [i] at g <;> first
    | exact g.elim
    | skip
   have hn:isNil Z=true:=by simpa [qL,i] using j
   obtain rfl:=r q rfl hn;rw [fN rfl]; exact uk (fun R=>Aw i p R) rfl rfl g
 ·exact g.elim
def QK {op:UnOp} {a:XB} {c:XB->T} (b:R4 op a c L K h):aI P (Op.unary op a) h (fun v h'=>c v L K h'):=by
 unfold R4 at b;split at b
 ·exact b
 ·exact b
 ·exact b
 ·exact b.elim
def Mj {a:XB} {c:XB->T} (b:xn P H I a c L K h):aI P (convert H I a) h (fun v h'=>c v L K h'):=by
 unfold xn at b;generalize e:P.underlying H=us at b;generalize f:P.underlying I=g at b;split at b
 ·unfold convert;rw [al,au e,al,au f];exact b
 ·unfold convert;rw [al,au e,al,au f];exact b
 ·exact b.elim
 ·exact ly b
 ·exact N' b
 ·exact b.elim
def et (y:Nat) (a:BoundsCode) {v:XB} (hv:v=.int V Y) (h0:0<=Y) (h1:Y<=y) (R:Nat->Hp->Prop) :
  aI P (Instr.sliceBound v y a) h R=R Y.toNat h:=by
 subst hv;unfold Instr.sliceBound;rw [al];show aI P (if 0<=Y/\Y<=↑y then pure Y.toNat else boundsPanic V Y ↑y a) h R=_;rw [VE ⟨h0,h1⟩]; rfl
def qb {v:XB} (hv:ej (some v)=true):∃ k i,v=.int k i:=by
 cases v <;> simp only [ej,Bool.false_eq_true] at hv;exact ⟨_,_,rfl⟩
def mT (isSlice:Bool) (len cap:Nat) {a hi:Option XB} (g:ej a=true) (j:ej hi=true)
  (h0:0<=jN a) (h1:jN a<=jZ len hi) (h2:jZ len hi<=cap) (R:Nat × Nat × Nat->Hp->Prop) :
  aI P (Instr.sliceBounds isSlice len cap a hi none) h R=R ((jN a).toNat,(jZ len hi).toNat,cap) h:=by
 unfold Instr.sliceBounds;cases hi with
 | none =>
  cases a with
  | none=>rfl
  | some v =>
   obtain ⟨k,i,rfl⟩:=qb g;have b:0<=i:=h0;have c:i<=len:=h1;show aI P (Instr.sliceBound (.int k i) len _ >>= fun l=>pure (l,len,cap)) h R=_;rw [al,et len _ rfl b c]; rfl
 | some u =>
  obtain ⟨ku,iu,rfl⟩:=qb j;have d:(0:Int)<=iu:=Int.le_trans h0 h1;cases a with
  | none =>
   show aI P (Instr.sliceBound (.int ku iu) cap _ >>= fun f=>pure (0,f,cap)) h R=_;have e:iu<=cap:=h2;rw [al,et cap _ rfl d e]; rfl
  | some v =>
   obtain ⟨k,i,rfl⟩:=qb g;show aI P (Instr.sliceBound (.int ku iu) cap _ >>= fun f=>Instr.sliceBound (.int k i) f _ >>= fun l=>pure (l,f,cap)) h R=_;have b:0<=i:=h0;have c:i<=iu:=h1;have e:iu<=cap:=h2;rw [al,et cap _ rfl d e,al,et _ _ rfl b (by rw [Int.toNat_of_nonneg d]; exact c)]; rfl
def Ij {a:XB} {c hi f:Option XB} {k:XB->T} (b:iq P H a c hi f k L K h) :
  aI P (Instr.sliceAt H a c hi f) h (fun v h'=>k v L K h'):=by
 unfold iq at b;cases hint:ej c && ej hi && ej f with
 | false=>simp only [hint] at b; exact b.elim
 | true =>
  simp only [hint] at b;simp only [Bool.and_eq_true] at hint;obtain ⟨⟨l,n⟩,q⟩:=hint;cases e:P.underlying H with
  | none=>simp only [e] at b; exact ly b
  | some d =>
   cases d <;> simp only [e] at b <;> first | exact ly b | skip
   case string =>
    cases f with
    | some m=>cases a <;> exact b.elim
    | none =>
    cases a <;> first | exact b.elim | skip
    rename_i s;obtain ⟨⟨h0,h1,h2⟩,b⟩:=b;unfold Instr.sliceAt;rw [al,au e];show aI P (Instr.slice H (.string s) c hi none) h _;unfold Instr.slice;rw [al,au e];show aI P (Instr.sliceBounds false s.size s.size c hi none >>= fun x=>(pure (Value.string (s.extract x.1 x.2.1)):Sem XB)) h _;rw [al,mT false _ _ l n h0 h1 h2];exact b
   case slice o =>
    cases f with
    | some m=>exact ly b
    | none =>
    cases a <;> first | exact b.elim | skip
    rename_i p len cap;simp only at b;cases g:mG P o with
    | false=>simp only [g] at b; exact b.elim
    | true =>
     simp only [g] at b;obtain ⟨⟨h0,h1,h2⟩,b⟩:=b;obtain ⟨i,j⟩:=Ww.1 g;unfold Instr.sliceAt;rw [al,au e];show aI P (Instr.slice H (.slice p len cap) c hi none) h _;unfold Instr.slice;rw [al,au e];show aI P (Instr.sliceBounds true len cap c hi none >>= fun x=>sizeOf o >>= fun size=>(pure (Value.slice (if x.2.2=x.1 then p else p.map (·.add (x.1*size))) (x.2.1-x.1) (x.2.2-x.1)):Sem XB)) h _;rw [al,mT true _ _ l n h0 h1 h2,al,bF j];exact b
def Ke {cs:Array XB} {off:Nat} {e:XB->T} (a:sn P H cs.toList off e L K h) :
  aI P (part H cs off) h (fun v h'=>e v L K h'):=by
 have f:∀ n,((cs.toList.drop off).take n).toArray=cs.extract off (off+n):=by
  intro n;apply Wf.1;simp [Array.toList_extract,List.extract_eq_drop_take]
 unfold sn at a;generalize c:P.underlying H=k at a;split at a
 ·obtain ⟨i,hi⟩:=info_of_underlying c;unfold part;rw [al,je (b:=true) (by simp [cB,c])];show aI P (sizeOf H >>= fun n=>(pure (Value.agg (cs.extract off (off+n))):Sem XB)) h _;rw [al,bF hi,<- f];exact a
 ·obtain ⟨i,hi⟩:=info_of_underlying c;unfold part;rw [al,je (b:=true) (by simp [cB,c])];show aI P (sizeOf H >>= fun n=>(pure (Value.agg (cs.extract off (off+n))):Sem XB)) h _;rw [al,bF hi,<- f];exact a
 ·rename_i d g j;unfold part;rw [al,je (b:=false) (by simp only [cB,c])];show aI P (match cs[off]? with | some v => pure v | none => stuck "part: no such cell") h _
  rw [<- WE];cases hv:cs.toList[off]? with
  | none=>simp only [hv] at a; exact a.elim
  | some v=>simp only [hv] at a; exact a
 ·exact a.elim
variable {d:FuncId}
def vz (a:fv P d=true) (args:Array XB) (R:Next->Hp->Prop):aI P (callFunc d args) h R=R (.enter d args) h:=by
 unfold fv at a;unfold callFunc;rw [eY];cases b:P.funcs[d]? with
 | none=>rw [b] at a; simp at a
 | some fn =>
  rw [b] at a;simp only [Bool.and_eq_true,Bool.not_eq_true'] at a;obtain ⟨h1,h2⟩:=a;have c:fn.body.isNone=false:=by cases e:fn.body <;> simp_all
  simp only [h2,c]; rfl
def LS {args:List XB} {e:XB->T} (a:BF P d args H e L K h) :
  aI P (callFunc d args.toArray) h (Bz P fun v h'=>e v L K h'):=by
 unfold BF at a;cases c:fv P d with
 | false =>
  simp only [c] at a
  have:=mH a
  unfold GM at this;rw [al] at this;refine dH _ _ _ _ ?_ this;intro x h' b;cases x <;> first | exact b | exact b.elim
 | true =>
  simp only [c] at a;rw [vz c];refine HC.mono a ?_;rintro v h' ⟨x,rfl,b⟩;rw [dC] at b;exact b
variable {b:Call}
def Od {args:List XB} {i:XB->T} (a:yQ P b H args i L K h) :
  aI P (Builtin.len_ b.argTypes H args.toArray) h (fun v h'=>i v L K h'):=by
 unfold yQ at a;cases g:(b.argTypes[0]?).bind P.underlying with
 | none=>simp only [g] at a; exact Cg a
 | some d =>
  obtain ⟨j,e,f⟩:=Vq.1 g;cases d <;> simp only [g] at a <;> first | exact Cg a | skip
  case string =>
   split at a
   ·unfold Builtin.len_;simp only [e];show aI P (underlying j >>= _) h _;rw [al,au f];exact a
   ·exact a.elim
  case slice k =>
   split at a
   ·unfold Builtin.len_;simp only [e];show aI P (underlying j >>= _) h _;rw [al,au f];exact a
   ·exact a.elim
def N5 {args:List XB} {i:XB->T} (a:IE P b args i L K h) :
  aI P (Builtin.cap_ b.argTypes H args.toArray) h (fun v h'=>i v L K h'):=by
 unfold IE at a;cases e:(b.argTypes[0]?).bind P.underlying with
 | none=>simp only [e] at a; exact a.elim
 | some d =>
  obtain ⟨j,f,g⟩:=Vq.1 e;cases d <;> simp only [e] at a <;> first | exact a.elim | skip
  split at a
  ·unfold Builtin.cap_;simp only [f];show aI P (underlying j >>= _) h _;rw [al,au g];exact a
  ·exact a.elim
inductive kh:List (Nat × XB)->List (Nat × List XB)->Prop
 | nil:kh [] []
 | cons {i:Nat} {v:XB} {l:List XB} {ps:List (Nat × XB)} {r:List (Nat × List XB)} (h:v.cells.toList=l) (t:kh ps r):kh ((i,v)::ps) ((i,l)::r)
def I0 {v:XB} (h:eO v=true):v.cells.toList=ji v:=by
 cases v <;> first | rfl | (simp [eO] at h)
def xG {v:XB} (h:eO v=false):v.cells.toList=[v]:=by
 cases v <;> first | rfl | (simp [eO] at h)
theorem ri {agg:Nat->Option Bool}:∀ {ps:List (Nat × XB)} {k:List (Nat × List XB)->T},eW agg ps k L K h->∃ r,kh ps r/\k r L K h
 | [],k,a=>⟨[],.nil,a⟩
 | (i,v)::l,k,a=>by
  simp only [eW] at a;cases d:agg i with
  | none=>rw [d] at a; exact a.elim
  | some b =>
   rw [d] at a;cases b with
   | true =>
    rcases fy a with ⟨hv,a⟩ | ⟨_,a⟩
    ·obtain ⟨r,c,hk⟩:=ri a;exact ⟨_,.cons (I0 hv) c,hk⟩
    ·exact a.elim
   | false =>
    rcases fy a with ⟨_,a⟩ | ⟨hv,a⟩
    ·exact a.elim
    ·obtain ⟨r,c,hk⟩:=ri a;exact ⟨_,.cons (xG hv) c,hk⟩
theorem yM:∀ (l:List XB) (off k:Nat) (cs:Array XB),((l.zipIdx k).foldl (fun (cs:Array XB) (x:XB × Nat)=>cs.setIfInBounds (off+x.2) x.1) cs)=(rV cs.toList (off+k) l).toArray
 | [],off,k,cs=>by simp [rV]
 | v::l,off,k,cs=>by
  rw [List.zipIdx_cons,V2,yM l off (k+1)];simp only [rV,Array.toList_setIfInBounds] <;> rfl
def Ci {place:Nat->Option (Nat × Nat)} {ps:List (Nat × XB)} {r:List (Nat × List XB)} (hc:kh ps r):∀ {c cs:List XB},fj place c r=some cs->Instr.fill place c.toArray ps=some cs.toArray:=by
 induction hc with
 | nil=>intro c cs h; simp [fj] at h; subst h; rfl
 | @cons i v l ps r hv _ d =>
  intro c cs h;unfold fj at h;unfold Instr.fill;split at h
  ·cases h
  ·rename_i off size f;rw [f];simp only;have g:v.cells.size=l.length:=by rw [<- hv,Wy]
   cases a:!(Nat.beq l.length size) || Nat.blt c.length (off+l.length) with
   | true=>rw [a] at h; cases h
   | false =>
    rw [a] at h;simp only [Bool.or_eq_false_iff,Bool.not_eq_false'] at a;have h1:l.length=size:=VF a.1;have h2:¬ c.length<off+l.length:=fun b=>by
     have:=Nat.ble_eq_true_of_le b
     rw [show Nat.blt c.length (off+l.length)=Nat.ble (c.length+1) (off+l.length) from rfl,this] at a;exact absurd a.2 ah
    rw [Vu (by simp [g,h1]; omega)];have e:v.cells.zipIdx.foldl (fun cs (x:XB × Nat)=>cs.setIfInBounds (off+x.2) x.1) c.toArray=(rV c off l).toArray:=by
     rw [<- Array.foldl_toList,Array.toList_zipIdx,hv];exact yM l off 0 c.toArray
    have:=d h
    rw [<- e] at this;exact this
def EF {a:Builtin} {args:List XB} {f:Array Bool} {g:XB->T} (d:qD P a b H args g L K h) :
  aI P (builtin a b.argTypes H f args.toArray) h (Bz P fun v h'=>g v L K h'):=by
 unfold qD at d;split at d
 ·show aI P (do pure (Next.value (<- Builtin.len_ b.argTypes H args.toArray))) h _;rw [r6]; exact Od d
 ·show aI P (do pure (Next.value (<- Builtin.cap_ b.argTypes H args.toArray))) h _;rw [r6]; exact N5 d
 ·show aI P (do pure (Next.value (<- Builtin.append_ b.argTypes H args.toArray))) h _;rw [r6]; exact ly d
 ·show aI P (do pure (Next.value (<- Builtin.copy_ b.argTypes H args.toArray))) h _;rw [r6]; exact Cg d
 ·show aI P (do pure (Next.value (<- Builtin.min_ b.argTypes H args.toArray))) h _;rw [r6]; exact mH d
 ·show aI P (do pure (Next.value (<- Builtin.max_ b.argTypes H args.toArray))) h _;rw [r6]; exact mH d
 ·show aI P (do pure (Next.value (<- Builtin.delete_ b.argTypes H args.toArray))) h _;rw [r6];exact dH _ _ _ _ (fun v h' ⟨e,hk⟩=>by subst e; exact hk) (NK d)
 ·show aI P (do pure (Next.value (<- Builtin.unsafeString_ b.argTypes H args.toArray))) h _;rw [r6]; exact mH d
 ·show aI P (do pure (Next.value (<- Builtin.unsafeSliceData_ b.argTypes H args.toArray))) h _;rw [r6]; exact mH d
 ·exact d.elim
def Nk {b:List XB} {c:XB->T} (d:T.new b H (fun a=>c (.pointer (some a))) L K h) {cs:Array XB} (hv:cs=b.toArray) :
  aI P (do pure (Value.pointer (some (<- newRow H cs)))) h (fun v h'=>c v L K h'):=by
 subst hv;exact d
def A8 {n:Nat} {t:TypeId} {p:XC} {kk:YA->List XB->XB->T} (f:cB P t=some U)
  (c:(match U with
   | true=>(bif (eQ P 9 t).length==P.cellsOf t then T.bd p fun a=>T.ae a (eQ P 9 t) (iV _ fun l=>kk a l (.agg l.toArray)) else T.fail)
   | false=>T.bd p fun a=>T.ae a (cz P t).2 (iV _ fun l=>kk a l (l.headD undef))) L K h) :
  ∃ a l v,p=some a/\aE h a 0 l/\kk a l v L K h/\∀ h' (R:XB->Hp->Prop),aE h' a 0 l->R v h'->aI P (Instr.loadAt t (.pointer p)) h' R:=by
 obtain ⟨i,hi⟩:=r9 f;cases U with
 | true =>
  simp only at c;cases hl:(eQ P 9 t).length==P.cellsOf t with
  | false=>rw [hl] at c; exact c.elim
  | true =>
   rw [hl] at c;have j:(eQ P 9 t).length=P.cellsOf t:=by simpa using hl
   obtain ⟨a,rfl,c⟩:=fM c;obtain ⟨x,hc,c⟩:=c;rw [dC] at c;refine ⟨a,dS _ x,_,rfl,hc,c,fun h' R e hk=>?_⟩;unfold Instr.loadAt;show aI P (loadVar t a) h' R;unfold loadVar;rw [al,je f];show aI P (sizeOf t >>= fun n=>loadCells a n >>= fun cs=>(pure (Value.agg cs):Sem XB)) h' R;rw [al,bF hi,al];exact dZ (by rw [tA,j]) e _ hk
 | false =>
  simp only at c;obtain ⟨a,rfl,c⟩:=fM c;obtain ⟨x,hc,c⟩:=c;rw [dC] at c;have h1:∃ d,(cz P t).2=[d]:=by
   unfold cB at f;unfold cz;cases g:P.underlying t with
   | none=>rw [g] at f; simp at f
   | some d=>rw [g] at f; cases d <;> simp at f <;> exact ⟨_,rfl⟩
  obtain ⟨d,g⟩:=h1;refine ⟨a,dS _ x,_,rfl,hc,c,fun h' R e hk=>?_⟩;revert x;rw [g];intro x hc c e hk;unfold Instr.loadAt;show aI P (loadVar t a) h' R;unfold loadVar;rw [al,je f];have hc0:=e.1
  have:a.add 0=a:=by simp [Addr.add]
  rw [this] at hc0;exact ⟨_,hc0,hk⟩
variable {e:Nd} {f:Act}
def KP (g : gd e a f) {i : YA -> List XB -> XB -> T} (c : qq P H O a i L K h) :
    ∃ p l v, ev a O = some (.pointer (some p)) /\ aE h p 0 l /\ i p l v L K h /\ ∀ h' (R : XB -> Hp -> Prop), aE h' p 0 l -> R v h' -> aI P (Instr.loadAt H (.pointer (some p))) h' R := by
  unfold qq at c;obtain ⟨v, hv, c⟩ := bn c;cases j : cB P H with
  | none => cases v <;> simp only [j] at c <;> exact c.elim
  | some b =>
    cases v <;> first
      | (cases b <;> simp only [j] at c <;> exact c.elim)
      | (rename_i p
         have k : (match b with
            | true => (bif (eQ P 9 H).length == P.cellsOf H then T.bd p fun f => T.ae f (eQ P 9 H) (iV _ fun l => i f l (.agg l.toArray)) else T.fail)
            | false => T.bd p fun f => T.ae f (cz P H).2 (iV _ fun l => i f l (l.headD undef))) L K h := by
            cases b <;> simp only [j] at c <;> exact c
         obtain ⟨q, l, v, rfl, hc, hk, d⟩ := A8 (n := e) j k;exact ⟨q, l, v, hv, hc, hk, d⟩)
def F' {o : Oper} (g : gd e a f) {kk : XB -> T} (A : tO P o a kk L K h) :
    T0 P o f.eval h (fun v h' => kk v L K h') := by
  obtain ⟨dst, op, V, pos, after, guard⟩ := o;unfold T0;cases op <;> simp only [tO] at A <;> unfold execOp <;> simp only
  case move x => obtain ⟨v, hv, A⟩ := bn A; rw [g.ev hv]; exact A
  case assign x => obtain ⟨v, hv, A⟩ := bn A; rw [g.ev hv]; exact A
  case pick c x y =>
    obtain ⟨v, hv, A⟩ := bn A;rw [g.ev hv]
    cases v <;> simp only at A <;> first
      | exact A.elim
      | (rename_i b
         rw [al];show aI P (pure b) h _;cases b
         · obtain ⟨w, O, A⟩ := bn (show bK a y kk L K h from A); rw [g.ev O]; exact A
         · obtain ⟨w, O, A⟩ := bn (show bK a x kk L K h from A); rw [g.ev O]; exact A)
  case alloc t =>
    cases W : (P.info? t).bind (·.zero) with
    | none => simp only [W] at A; exact A.elim
    | some z =>
      simp only [W] at A;rw [r6];unfold Instr.alloc;rw [al, dp W];exact Nk A ah
  case box t x =>
    obtain ⟨v, hv, A⟩ := bn A;rw [g.ev hv, r6];unfold Instr.box newVar;cases G : cB P t with
    | none => simp only [G] at A; exact A.elim
    | some b =>
      cases b <;> simp only [G] at A <;> rcases fy A with ⟨hv, A⟩ | ⟨hv, A⟩ <;> first
        | exact A.elim
        | (refine Nk A ?_
           cases v <;> first | (simp [eO] at hv; done) | simp [Value.cells, ji])
  case build t ps =>
    obtain ⟨vs, dS, A⟩ := ic A;have dS := g.OE dS
    have Q : (ps.map fun x => (x.1, f.eval x.2)).toList = (ps.toList.map (·.1)).zip vs := by
      rw [<- dS];simp only [Array.toList_map];generalize ps.toList = l
      induction l with
      | nil => rfl
      | cons p l ih => simp [ih]
    rw [r6];unfold Instr.build;rw [al];cases W : (P.info? t).bind (·.zero) with
    | none =>
      generalize P.underlying t = ud at A;cases ud with
      | none => simp only [W] at A; exact A.elim
      | some d => cases d <;> simp only [W] at A <;> exact A.elim
    | some z =>
      rw [dp W];show aI P (underlying t >>= _) h _;cases B : P.underlying t with
      | none => simp only [B] at A; exact A.elim
      | some d =>
        rw [al, au B];cases d <;> simp only [B, W] at A <;> first | exact A.elim | skip
        case array len S =>
          rcases fy A with ⟨_, A⟩ | ⟨H, A⟩
          · exact A.elim
          · have H : mG P S = true := by simpa using H
            obtain ⟨i, hi⟩ := Ww.1 H;simp only;rw [al, bF hi];have F : (Array.map (fun x => (x.1, f.eval x.2)) ps).toList = (ps.toList.map (·.1)).zip vs := Q;obtain ⟨ls, X, A⟩ := ri A;cases E : fj (fun i => some (i * P.cellsOf S, P.cellsOf S)) z.cells.toList ls with
            | none => simp only [E] at A; exact A.elim
            | some cs =>
              simp only [E] at A;rw [F, Ci X E];exact A
        case struct U =>
          rcases fy A with ⟨_, A⟩ | ⟨H, A⟩
          · exact A.elim
          · have H : (U.all fun j => mG P j.type) = true := by simpa using H
            simp only;rw [al]
            have hm : ∀ R : Array (Nat × Nat) -> Hp -> Prop, aI P (U.mapM fun j => do pure (j.offset, <- sizeOf j.type)) h R = R (U.map fun j => (j.offset, P.cellsOf j.type)) h := by
              intro R;rw [Array.mapM_eq_mapM_toList]
              have hT' : ∀ j ∈ U.toList, mG P j.type = true := by
                intro j E; exact (Array.all_eq_true_iff_forall_mem.1 H) j (by simpa using E)
              have : ∀ (l : List Field) (R : List (Nat × Nat) -> Hp -> Prop), (∀ j ∈ l, mG P j.type = true) ->
                  aI P (l.mapM fun j => (do pure (j.offset, <- sizeOf j.type) : Sem (Nat × Nat))) h R = R (l.map fun j => (j.offset, P.cellsOf j.type)) h := by
                intro l
                induction l with
                | nil => intro R _; rfl
                | cons j l ih =>
                  intro R hl;obtain ⟨i, hi⟩ := Ww.1 (hl j ah);rw [List.mapM_cons, al, al, bF hi];show aI P ((l.mapM fun j => (do pure (j.offset, <- sizeOf j.type) : Sem (Nat × Nat))) >>= _) h R = _;rw [al, ih _ (fun j E => hl j (by simp [E]))] <;> rfl
              show aI P (List.toArray <$> _) h R = _;rw [map_eq_pure_bind, al, this _ _ hT'];show R (List.toArray _) h = _
              congr 1
              apply Wf.1
              simp
            rw [hm];obtain ⟨ls, X, A⟩ := ri A;cases E : fj (fun i => (U.map fun j => (j.offset, P.cellsOf j.type))[i]?) z.cells.toList ls with
            | none => simp only [E] at A; exact A.elim
            | some cs =>
              simp only [E] at A;have F : (Array.map (fun x => (x.1, f.eval x.2)) ps).toList = (ps.toList.map (·.1)).zip vs := Q;rw [F, Ci X E];exact A
  case buildSlice t len ps =>
    obtain ⟨vs, dS, A⟩ := ic A;have dS := g.OE dS
    have Q : (ps.map fun x => (x.1, f.eval x.2)) = ((ps.toList.map (·.1)).zip vs).toArray := by
      apply Wf.1;rw [<- dS];simp only [Array.toList_map];generalize ps.toList = l
      induction l with
      | nil => rfl
      | cons p l ih => simpa using ih
    rw [r6];have F : (Array.map (fun x => (x.1, f.eval x.2)) ps) = ((ps.toList.map (·.1)).zip vs).toArray := Q;rw [F];exact ly A
  case load t x =>
    have ht' : qq P t x a (fun _ _ v => kk v) L K h := A;obtain ⟨p, l, v, hv, hc, hk, hall⟩ := KP g ht';rw [g.ev hv, r6];exact hall h _ hc hk
  case store t x y =>
    obtain ⟨v, hv, A⟩ := bn A;obtain ⟨u, D, A⟩ := bn A;rw [g.ev hv, g.ev D, T2];cases G : cB P t with
    | none => cases v <;> simp only [G] at A <;> exact A.elim
    | some b =>
      obtain ⟨i, hi⟩ := r9 G
      cases v <;> first
        | (cases b <;> simp only [G] at A <;> exact A.elim)
        | skip
      rename_i p;cases b <;> simp only [G] at A
      · rcases fy A with ⟨hl, A⟩ | ⟨hl, A⟩
        · rcases fy A with ⟨M, A⟩ | ⟨M, A⟩
          · exact A.elim
          · obtain ⟨q, rfl, A⟩ := fM A
            obtain ⟨hc, A⟩ := A;unfold Instr.storeAt storeVar;show aI P (sizeOf t >>= _) h _;rw [al, bF hi];have hcl : u.cells = #[u] := by cases u <;> first | (simp [eO] at M; done) | rfl
            have h1 : P.cellsOf t = 1 := by simpa using hl
            rw [hcl, h1];exact fk q [u] h 0 _ hc A
        · exact A.elim
      · rcases fy A with ⟨M, A⟩ | ⟨M, A⟩
        · rcases fy A with ⟨hl, A⟩ | ⟨hl, A⟩
          · obtain ⟨q, rfl, A⟩ := fM A
            obtain ⟨hc, A⟩ := A;unfold Instr.storeAt storeVar;show aI P (sizeOf t >>= _) h _;rw [al, bF hi];obtain ⟨cs, rfl⟩ : ∃ cs, u = .agg cs := by cases u <;> first | (simp [eO] at M; done) | exact ⟨_, rfl⟩
            have h1 : cs.size = P.cellsOf t := by simpa [ji] using hl
            show aI P (if cs.size ≠ P.cellsOf t then _ else storeCells q cs.toList 0) h _;rw [Vu (by simp [h1])];exact fk q cs.toList h 0 _ hc A
          · exact A.elim
        · exact A.elim
  case nilCheck x =>
    obtain ⟨v, hv, A⟩ := bn A;rw [g.ev hv];cases v with
    | pointer p => obtain ⟨q, rfl, A⟩ := fM A; exact A
    | func fn I ca => cases fn <;> first | exact A.elim | exact A
    | iface t w => exact A
    | _ => exact A.elim
  case binOp op t x y yt =>
    obtain ⟨v, hv, A⟩ := bn A;obtain ⟨u, D, A⟩ := bn A;rw [g.ev hv, g.ev D, r6];exact OO D A
  case unOp op t x => obtain ⟨v, hv, A⟩ := bn A; rw [g.ev hv, r6]; exact QK A
  case convert s d x => obtain ⟨v, hv, A⟩ := bn A; rw [g.ev hv, r6]; exact Mj A
  case makeInterface t x =>
    obtain ⟨v, hv, A⟩ := bn A;rw [g.ev hv, r6];unfold Instr.makeInterface;cases B : P.underlying t with
    | none => simp only [B] at A; exact A.elim
    | some d =>
      rw [al, au B];cases d <;> simp only [B] at A <;> first | exact A.elim | exact A
  case makeFunc fn I ca =>
    obtain ⟨vs, dS, A⟩ := ic A;obtain ⟨us, hus, A⟩ := ic A;rw [r6];have Y : I.map f.eval = vs.toArray := by apply Wf.1; simpa using g.OE dS
    have e2 : ca.map f.eval = us.toArray := by apply Wf.1; simpa using g.OE hus
    rw [Y, e2];exact A
  case makeMap t r =>
    cases r with
    | none => rw [r6]; exact OS A
    | some r => exact A.elim
  case makeSlice t l c =>
    obtain ⟨v, hv, A⟩ := bn A;obtain ⟨u, D, A⟩ := bn A;rw [g.ev hv, g.ev D, r6];exact ly A
  case slice t x lo hi mx =>
    obtain ⟨v, hv, A⟩ := bn A;obtain ⟨vs, dS, A⟩ := ic A;have dS := g.OE dS;rw [g.ev hv, r6];unfold Sb at A
    cases lo <;> cases hi <;> cases mx <;> simp only [Option.toList, List.nil_append, List.append_nil, List.map_cons, List.map_nil, List.cons_append] at dS <;> subst dS <;>
      first | exact A.elim | exact Ij A
  case fieldAddr s x j =>
    obtain ⟨v, hv, A⟩ := bn A;rw [g.ev hv, r6];cases B : P.underlying s with
    | none => cases v <;> simp only [B] at A <;> exact A.elim
    | some d =>
      cases v <;> first
        | (cases d <;> simp only [B] at A <;> exact A.elim)
        | skip
      rename_i p;cases d <;> simp only [B] at A <;> first | exact A.elim | skip
      rename_i U;cases E : U[j]? with
      | none => simp only [E] at A; exact A.elim
      | some Z =>
        simp only [E] at A;cases hc : P.cellsOf Z.type with
        | zero => simp only [hc] at A; exact A.elim
        | succ m =>
          simp only [hc] at A;obtain ⟨q, rfl, A⟩ := fM A
          have hi : ∃ i, P.info? Z.type = some i := by
            cases hi : P.info? Z.type with
            | none => simp [Program.cellsOf, hi] at hc
            | some i => exact ⟨i, rfl⟩
          obtain ⟨i, hi⟩ := hi;unfold Instr.fieldAt;rw [al, au B];simp only [E];show aI P (fieldPlace q Z >>= fun y => (pure (Value.pointer (some y)) : Sem XB)) h _;unfold fieldPlace;rw [al, al, bF hi, hc];exact A
  case field s x j =>
    obtain ⟨v, hv, A⟩ := bn A;rw [g.ev hv, r6];cases B : P.underlying s with
    | none => cases v <;> simp only [B] at A <;> exact A.elim
    | some d =>
      cases v <;> first
        | (cases d <;> simp only [B] at A <;> exact A.elim)
        | skip
      rename_i cs;cases d <;> simp only [B] at A <;> first | exact A.elim | skip
      rename_i U;cases E : U[j]? with
      | none => simp only [E] at A; exact A.elim
      | some Z =>
        simp only [E] at A;unfold Instr.field;rw [al, au B];simp only [E];show aI P (part Z.type cs Z.offset) h _;exact Ke A
  case indexAddr t x i =>
    obtain ⟨v, hv, N⟩ := bn A;obtain ⟨u, D, C⟩ := bn N;clear A N;rw [g.ev hv, g.ev D, r6];clear hv D;unfold xJ at C;generalize B : P.underlying t = ud at C;split at C
    · rename_i p len cp k m S
      rcases fy C with ⟨_, A⟩ | ⟨H, A⟩
      · exact A.elim
      · have H : mG P S = true := by simpa using H
        obtain ⟨i, hi⟩ := Ww.1 H;obtain ⟨G, A⟩ := A;obtain ⟨q, rfl, A⟩ := fM A;unfold Instr.indexAt;show aI P (underlying t >>= _) h _;rw [al, au B];show aI P (underlying t >>= _) h _;rw [al, au B];show aI P (if 0 <= m /\ m < len then (sizeOf S >>= fun z => (pure (Value.pointer (some (q.add (m.toNat * z)))) : Sem XB)) else _) h _;rw [VE G, al, bF hi];exact A
    · rename_i p k m len S
      rcases fy C with ⟨_, A⟩ | ⟨H, A⟩
      · exact A.elim
      · have H : mG P S = true := by simpa using H
        obtain ⟨i, hi⟩ := Ww.1 H;obtain ⟨G, A⟩ := A;obtain ⟨q, rfl, A⟩ := fM A;unfold Instr.indexAt;show aI P (underlying t >>= _) h _;rw [al, au B];show aI P (underlying t >>= _) h _;rw [al, au B];show aI P (if 0 <= m /\ m < len then (sizeOf S >>= fun z => (pure (Value.pointer (some (q.add (m.toNat * z)))) : Sem XB)) else _) h _;rw [VE G, al, bF hi];exact A
    · exact C.elim
  case index t x i =>
    obtain ⟨v, hv, N⟩ := bn A;obtain ⟨u, D, C⟩ := bn N;clear A N;rw [g.ev hv, g.ev D, r6];clear hv D;unfold FO at C;generalize B : P.underlying t = ud at C;split at C
    · rename_i s k m
      obtain ⟨G, A⟩ := C;unfold Instr.index;show aI P (underlying t >>= _) h _;rw [al, au B]
      have hs : s[m.toNat]? = some (s.data.toList.getD m.toNat 0) := by
        have hlt : m.toNat < s.size :=ad
        have : s[m.toNat]? = some s[m.toNat] := by simp [hlt]
        rw [this]
        congr 1
        have h2 : m.toNat < s.data.toList.length := by simpa using hlt
        rw [V3, VC h2] <;> rfl
      show aI P (match (if 0 <= m then s[m.toNat]? else none) with | some b => (pure (Value.int .u8 b.toNat) : Sem XB) | none => boundsPanic k m s.size .index) h _;rw [VE G.1, hs];exact A
    · exact mH C
    · exact C.elim
  case lookup t m x ok =>
    obtain ⟨v, hv, A⟩ := bn A;obtain ⟨u, D, A⟩ := bn A;rw [g.ev hv, g.ev D, r6];generalize B : P.underlying t = ud at A;split at A
    · cases ok <;> simp only at A <;> exact mH A
    · exact A.elim
  case mapUpdate t m x y =>
    obtain ⟨v, hv, A⟩ := bn A;obtain ⟨u, D, A⟩ := bn A;obtain ⟨w, O, A⟩ := bn A;rw [g.ev hv, g.ev D, g.ev O, T2];exact A
  case insert t m x y =>
    obtain ⟨v, hv, A⟩ := bn A;obtain ⟨u, D, A⟩ := bn A;obtain ⟨w, O, A⟩ := bn A;rw [g.ev hv, g.ev D, g.ev O, T2];exact A
  case mapEntry t m x =>
    obtain ⟨v, hv, A⟩ := bn A;obtain ⟨u, D, A⟩ := bn A;rw [g.ev hv, g.ev D, r6];generalize B : P.underlying t = ud at A;split at A
    · exact mH A
    · exact A.elim
  case entryStore t m x y =>
    obtain ⟨v, hv, A⟩ := bn A;obtain ⟨u, D, A⟩ := bn A;obtain ⟨w, O, A⟩ := bn A;rw [g.ev hv, g.ev D, g.ev O, T2];exact A
  case range t x =>
    obtain ⟨v, hv, A⟩ := bn A;rw [g.ev hv, r6];exact OM A
  case next it b =>
    obtain ⟨v, hv, A⟩ := bn A;rw [g.ev hv, r6];generalize B : P.underlying V = ud at A;split at A
    · rename_i ts
      generalize hts : ts.toList = tl at A;cases tl with
      | nil =>
        refine dH _ _ _ _ ?_ A;rintro v h' (⟨rfl, J⟩ | ⟨x, rfl, J⟩)
        · exact J
        · rw [dC] at J; exact J
      | cons t0 ts =>
        refine dH _ _ _ _ ?_ A;rintro v h' (⟨rfl, J⟩ | ⟨x, rfl, J⟩)
        · exact J
        · rw [dC] at J; exact J
    · exact A.elim
  case entry it =>
    obtain ⟨v, hv, A⟩ := bn A;rw [g.ev hv, r6];exact mH A
  case typeAssert x t d ok =>
    obtain ⟨v, hv, A⟩ := bn A;rw [g.ev hv, r6];cases ok <;> simp only at A <;> exact mH A
  case extract x i =>
    obtain ⟨v, hv, A⟩ := bn A;rw [g.ev hv, r6];cases v with
    | tuple vs =>
      unfold Instr.extract;show aI P (match vs[i]? with | some v => pure v | none => stuck "Extract: no such component") h _
      rw [<- WE];cases hi : vs.toList[i]? with
      | none => simp only [hi] at A; exact A.elim
      | some w => simp only [hi] at A; exact A
    | _ => exact A.elim
  case call c =>
    rw [al];unfold resolve;cases hc : c.callee with
    | builtin b =>
      simp only [hc] at A;obtain ⟨vs, dS, A⟩ := ic A;have Y : c.args.map f.eval = vs.toArray := by apply Wf.1; simpa using g.OE dS
      simp only [Y];exact EF A
    | invoke r m => simp only [hc] at A; exact A.elim
    | value j =>
      simp only [hc] at A;cases htm : DX j with
      | true =>
        simp only [htm] at A;obtain ⟨gv, hg, A⟩ := bn A;obtain ⟨vs, dS, A⟩ := ic A;have Y : c.args.map f.eval = vs.toArray := by apply Wf.1; simpa using g.OE dS
        simp only [Y, g.ev hg];obtain ⟨f', I, ca, rfl, A, fn, hfn, G, hn⟩ := A
        have hbd : fv P f' = true := by
          unfold fv;rw [hfn];simp [G, hn]
        show aI P (callFunc f' (I ++ vs.toArray ++ ca)) h _
        have e2 : (I.toList ++ vs ++ ca.toList).toArray = I ++ vs.toArray ++ ca := by
          apply Wf.1; simp
        rw [<- e2, vz hbd];refine HC.mono A ?_;rintro v h' ⟨x, rfl, J⟩;rw [dC] at J;exact J
      | false =>
        simp only [htm] at A;obtain ⟨gv, hg, A⟩ := bn A;obtain ⟨vs, dS, A⟩ := ic A;have Y : c.args.map f.eval = vs.toArray := by apply Wf.1; simpa using g.OE dS
        simp only [Y, g.ev hg]
        obtain ⟨j, I, ca, rfl⟩ : ∃ j I ca, gv = .func (.func j) I ca := by
          cases gv with
          | func fn I ca => cases fn <;> first | exact A.elim | exact ⟨_, _, _, rfl⟩
          | _ => exact A.elim
        have := LS (show BF P j (I.toList ++ vs ++ ca.toList) V kk L K h from A);show aI P (callFunc j (I ++ vs.toArray ++ ca)) h _
        have e2 : (I.toList ++ vs ++ ca.toList).toArray = I ++ vs.toArray ++ ca := by
          apply Wf.1; simp
        rw [<- e2];exact this
  all_goals exact A.elim
end ops
end Go.Sx
