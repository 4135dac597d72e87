/- A framework of our own, part O: what a tree asks of an operation, the operation does. No condition. -/
import Derived.Test.YtlpcncdglfjnoaaGreatDoorSxX
set_option linter.all false
set_option maxHeartbeats 4000000
namespace Go.Sx
section sems
variable {P:Program} {h:Hp}
theorem eY {α:Type} (f:Program->Sem α) (K:α->Hp->Prop):aQ P (program >>= f) h K=aQ P (f P) h K:=by
 rw [ar]; rfl
theorem aD {t:TypeId} {d:TypeDesc} (hd:P.underlying t=some d) (K:TypeDesc->Hp->Prop):aQ P (underlying t) h K=K d h:=by
 unfold underlying; rw [eY,hd]; rfl
theorem info_of_underlying {t:TypeId} {d:TypeDesc} (hd:P.underlying t=some d):∃ i,P.info? t=some i:=by
 unfold Program.underlying at hd;cases hi:P.info? t with
 | none=>rw [hi] at hd; simp at hd
 | some i=>exact ⟨i,rfl⟩
theorem gf {t:TypeId} {i:TypeInfo} (hi:P.info? t=some i) (K:TypeInfo->Hp->Prop):aQ P (typeInfo t) h K=K i h:=by
 unfold typeInfo; rw [eY,hi]; rfl
theorem cz {t:TypeId} {i:TypeInfo} (hi:P.info? t=some i):P.cellsOf t=i.size:=by
 simp [Program.cellsOf,hi]
theorem bM {t:TypeId} {i:TypeInfo} (hi:P.info? t=some i) (K:Nat->Hp->Prop):aQ P (sizeOf t) h K=K (P.cellsOf t) h:=by
 unfold sizeOf; rw [ar,gf hi,cz hi]; rfl
theorem dh {t:TypeId} {z:ZB} (hz:(P.info? t).bind (·.zero)=some z) (K:ZB->Hp->Prop):aQ P (zeroValue t) h K=K z h:=by
 cases hi:P.info? t with
 | none=>rw [hi] at hz; simp at hz
 | some i =>
  rw [hi] at hz; simp at hz;unfold zeroValue; rw [ar,gf hi,hz]; rfl
theorem jm {t:TypeId} {b:Bool} (hb:cv P t=some b) (K:Bool->Hp->Prop):aQ P (isAgg t) h K=K b h:=by
 unfold cv at hb;cases hd:P.underlying t with
 | none=>rw [hd] at hb; simp at hb
 | some d =>
  rw [hd] at hb;unfold isAgg; rw [ar,aD hd]
  all_goals (cases d <;> simp at hb <;> subst hb <;> rfl)
theorem sI {t:TypeId} {b:Bool} (hb:cv P t=some b):∃ i,P.info? t=some i:=by
 unfold cv at hb;cases hd:P.underlying t with
 | none=>rw [hd] at hb; simp at hb
 | some d=>exact info_of_underlying hd
theorem lx (a:ZC):∀ (vs:List ZB) (i:Nat) (acc:Array ZB) (K:Array ZB->Hp->Prop),aG h a i vs->K (acc++vs.toArray) h ->
  aQ P (loadCellsFrom a i vs.length acc) h K
 | [],i,acc,K,_,hk=>by
  have hk':K acc h:=by simpa using hk
  exact hk'
 | v::vs,i,acc,K,hc,hk=>by
  simp only [List.length_cons,loadCellsFrom];rw [ar];refine ⟨v,hc.1,lx a vs (i+1) (acc.push v) K hc.2 ?_⟩;have e:acc.push v++vs.toArray=acc++(v::vs).toArray:=by
   apply Xv.1; simp
  rw [e]; exact hk
theorem dA {a:ZC} {n:Nat} {vs:List ZB} (hn:vs.length=n) (hc:aG h a 0 vs) (K:Array ZB->Hp->Prop) (hk:K vs.toArray h):aQ P (loadCells a n) h K:=by
 subst hn;exact lx a vs 0 #[] K hc (by simpa using hk)
theorem fg (a:ZC):∀ (vs:List ZB) (h:Hp) (i:Nat) (K:Unit->Hp->Prop),xI h a i vs->K () (qz h a i vs)->aQ P (storeCells a vs i) h K
 | [],h,i,K,_,hk=>hk
 | v::vs,h,i,K,hc,hk=>by
  simp only [storeCells];rw [ar];exact ⟨hc.1,hc.2.1,hc.2.2.1,fg a vs _ (i+1) K hc.2.2.2 hk⟩
end sems
structure Nd where
 n:Nat
 d:List Deferred
instance:Coe Nd Nat:=⟨Nd.n⟩
structure gh (n:Nd) (e:Env) (a:Act):Prop where
 size:a.tmps.size=n.n
 defers:a.defers=n.d
 get:∀ s v,cJ e s=some v->a.tmps.getD s undef=v
theorem gh.ev {n:Nd} {e:Env} {a:Act} (g:gh n e a) {x:Operand} {v:ZB} (hx:ev e x=some v):a.eval x=v:=by
 cases x with
 | tmp t=>exact g.get t v hx
 | const w=>simpa [Sx.ev,Act.eval] using hx
 | global i=>simpa [Sx.ev,Act.eval] using hx
 | func f=>simpa [Sx.ev,Act.eval] using hx
theorem dl (e:Env) (s:Nat) (v:Option ZB) (t:Nat):cJ ((s,v)::e) t=if s=t then v else cJ e t:=by
 simp only [cJ]
 by_cases h:s=t
 ·subst h; simp
 ·have:Nat.beq s t=false:=by
   cases hb:Nat.beq s t
   ·rfl
   ·exact (h (W3 hb)).elim
  rw [this,WV h]; rfl
theorem gh.put {n:Nd} {e:Env} {a:Act} (g:gh n e a) (dst:Option Tmp) (v:ZB):gh n (dO n e dst v) (a.put dst v):=by
 cases dst with
 | none=>exact g
 | some d =>
  refine ⟨by simp [Act.put,g.size],by simp [Act.put,g.defers],fun s u hu=>?_⟩;simp only [dO] at hu;cases hb:Nat.blt d n with
  | true =>
   have hd:d<n:=by simpa [Nat.blt_eq] using hb
   rw [hb] at hu;simp only [cond_true,dl] at hu;simp only [Act.put,Array.getD_eq_getD_getElem?,Array.getElem?_setIfInBounds]
   by_cases hs:d=s
   ·subst hs;rw [W2 rfl] at hu;simp at hu; subst hu;simp [g.size,hd]
   ·rw [WV hs] at hu;rw [WV hs]
    have:=g.get s u hu
    simpa [Array.getD_eq_getD_getElem?] using this
  | false =>
   rw [hb] at hu;have hd:¬ d<n:=by intro hh; rw [<- Nat.blt_eq] at hh; rw [hb] at hh; cases hh
   have hput:a.put (some d) v=a:=by
    simp only [Act.put]
    have:a.tmps.setIfInBounds d v=a.tmps:=Array.setIfInBounds_eq_of_size_le (by rw [g.size]; exact Nat.le_of_not_lt hd)
    rw [this]
   rw [hput];exact g.get s u hu
theorem gh.vr {n:Nd} {e:Env} {a:Act} (g:gh n e a) {s:Nat} {v:ZB} (hv:cJ e s=some v) (w:ZB) (hw:w=v):gh n (dO n e (some s) w) a:=by
 subst hw;refine ⟨g.size,g.defers,fun t u hu=>?_⟩;simp only [dO] at hu;cases hb:Nat.blt s n with
 | true =>
  rw [hb] at hu;simp only [cond_true,dl] at hu
  by_cases hs:s=t
  ·subst hs; rw [W2 rfl] at hu; simp at hu; subst hu; exact g.get s w hv
  ·rw [WV hs] at hu; exact g.get t u hu
 | false=>rw [hb] at hu; exact g.get t u hu
section trees
variable {L:Lp} {K:ZB->Hp->Prop} {h:Hp}
theorem bn {e:Env} {x:Operand} {k:ZB->T} (ht:bP e x k L K h):∃ v,ev e x=some v/\k v L K h:=by
 unfold bP at ht;cases hx:ev e x with
 | none=>rw [hx] at ht; exact ht.elim
 | some v=>rw [hx] at ht; exact ⟨v,rfl,ht⟩
theorem hZ {e:Env}:∀ {xs:List Operand} {k:List ZB->T},gT e xs k L K h->∃ vs,xs.map (ev e)=vs.map some/\k vs L K h
 | [],k,ht=>⟨[],rfl,ht⟩
 | x::xs,k,ht=>by
  obtain ⟨v,hv,ht⟩:=bn ht;obtain ⟨vs,dU,ht⟩:=hZ ht;exact ⟨v::vs,by simp [hv,dU],ht⟩
theorem gh.Pn {n:Nd} {e:Env} {a:Act} (g:gh n e a):∀ {xs:List Operand} {vs:List ZB},xs.map (Sx.ev e)=vs.map some->xs.map a.eval=vs
 | [],[],_=>rfl
 | x::xs,v::vs,hh=>by
  simp only [List.map_cons,List.cons.injEq] at hh;simp only [List.map_cons,g.ev hh.1,g.Pn hh.2]
 | [],v::vs,hh=>by simp at hh
 | x::xs,[],hh=>by simp at hh
theorem fK {p:Option ZC} {k:ZC->T} (ht:T.bk p k L K h):∃ a,p=some a/\k a L K h:=by
 cases p with
 | none=>exact ht.elim
 | some a=>exact ⟨a,rfl,ht⟩
theorem fx {b:Bool} {t u:T} (ht:(cond b t u) L K h):(b=true/\t L K h)\/(b=false/\u L K h):=by
 cases b
 ·exact .inr ⟨rfl,ht⟩
 ·exact .inl ⟨rfl,ht⟩
end trees
section ops
variable {P:Program} {L:Lp} {K:ZB->Hp->Prop} {h:Hp}
theorem sf {s:Sem ZB} {R:ZB->Hp->Prop}:aQ P (do pure (Next.value (<- s))) h (BH P R)=aQ P s h R:=by
 rw [ar]; rfl
theorem Vq {s:Sem Unit} {R:ZB->Hp->Prop}:aQ P (do s; pure Next.skip) h (BH P R)=aQ P s h (fun _ h'=>R undef h'):=by
 rw [ar]; rfl
theorem mR {s:Sem ZB} {tup:Bool} {cs:List fq} {kk:ZB->T} (ht:T.dY P s tup cs (jd _ fun l=>kk (rv tup cs l)) L K h) :
  aQ P s h (fun v h'=>kk v L K h'):=by
 refine dE _ _ _ _ ?_ ht;rintro v h' ⟨x,rfl,hx⟩;rw [du] at hx;exact hx
theorem lF {s:Sem ZB} {el:TypeId} {kk:ZB->T} (ht:T.dY P s false [(false,[.slice el])] (fun p l c=>kk (.slice p l c)) L K h) :
  aQ P s h (fun v h'=>kk v L K h'):=by
 refine dE _ _ _ _ ?_ ht;rintro v h' ⟨x,rfl,hx⟩;exact hx
theorem Qq {s:Sem ZB} {kk:ZB->T} (ht:T.dY P s false [(false,[.bool])] (fun b=>kk (.bool b)) L K h):aQ P s h (fun v h'=>kk v L K h'):=by
 refine dE _ _ _ _ ?_ ht;rintro v h' ⟨x,rfl,hx⟩;exact hx
theorem Cw {s:Sem ZB} {kk:ZB->T} (ht:T.dY P s false [(false,[.int .i64])] (fun b=>kk (.int .i64 b)) L K h):aQ P s h (fun v h'=>kk v L K h'):=by
 refine dE _ _ _ _ ?_ ht;rintro v h' ⟨x,rfl,hx⟩;exact hx
theorem Qy {s:Sem ZB} {kk:ZB->T} (ht:T.dY P s false [(false,[.string])] (fun b=>kk (.string b)) L K h):aQ P s h (fun v h'=>kk v L K h'):=by
 refine dE _ _ _ _ ?_ ht;rintro v h' ⟨x,rfl,hx⟩;exact hx
theorem PF {s:Sem ZB} {a b:TypeId} {kk:ZB->T} (ht:T.dY P s false [(false,[.map a b])] (fun b=>kk (.map b)) L K h):aQ P s h (fun v h'=>kk v L K h'):=by
 refine dE _ _ _ _ ?_ ht;rintro v h' ⟨x,rfl,hx⟩;exact hx
theorem Pq {s:Sem ZB} {a:TypeId} {kk:ZB->T} (ht:T.dY P s false [(false,[.pointer a])] (fun b=>kk (.pointer b)) L K h):aQ P s h (fun v h'=>kk v L K h'):=by
 refine dE _ _ _ _ ?_ ht;rintro v h' ⟨x,rfl,hx⟩;exact hx
theorem Qa {s:Sem ZB} {kk:T} (ht:T.dY P s true [] kk L K h):aQ P s h (fun v h'=>v=.tuple #[]/\kk L K h'):=by
 refine dE _ _ _ _ ?_ ht;rintro v h' ⟨x,rfl,hx⟩;exact ⟨rfl,hx⟩
theorem PY {op : BinOp} {k : IntKind} {m n : Int} {kk : ZB -> T} (hs : lZ op = false) (t : TypeId) (ht : FW op k m n kk L K h) :
    aQ P (binOp op t (.int k m) (.int k n)) h (fun v h' => kk v L K h') := by
  cases op <;> simp only [lZ, Bool.true_eq_false] at hs <;> simp only [FW] at ht <;>
    first
    | exact ht.elim
    | (simp only [binOp, Op.intArith, Op.intDiv, Op.intBits, Op.intCmp, ne_eq, not_true_eq_false, if_false]; exact ht)
    | (obtain ⟨h0, ht⟩ := ht
       simp only [binOp, Op.intDiv, ne_eq, not_true_eq_false, if_false, if_neg h0]; exact ht)
theorem IQ {op:BinOp} {k k':IntKind} {m n:Int} {kk:ZB->T} (hs:lZ op=true) (t:TypeId) (ht:yJ op k m n kk L K h) :
  aQ P (binOp op t (.int k m) (.int k' n)) h (fun v h'=>kk v L K h'):=by
 cases op <;> simp only [lZ,Bool.false_eq_true] at hs <;> simp only [yJ] at ht <;> obtain ⟨h0,ht⟩:=ht <;>
  simp only [binOp,Op.shift,if_neg (Int.not_lt.2 h0)] <;> exact ht
theorem Qz {op : BinOp} {m n : ZA} {kk : ZB -> T} (t : TypeId) (ht : Gb op m n kk L K h) :
    aQ P (binOp op t (.string m) (.string n)) h (fun v h' => kk v L K h') := by
  cases op <;> simp only [Gb] at ht <;>
    first
    | exact ht.elim
    | (simp only [binOp, Op.stringOp]; exact ht)
    | (obtain ⟨h0, ht⟩ := ht
       simp only [binOp, Op.stringOp, if_neg (Int.not_lt.2 h0)]; exact ht)
def BY:ZB->Bool
 | .nilIface=>false
 | .agg _=>false
 | _=>true
theorem fO {op:BinOp} {t:TypeId} {x y:Operand} {a b:ZB} (ha:BY a=true) {R:ZB->Hp->Prop} :
  aQ P (do eqGuard op t x y a b; binOp op t a b) h R=aQ P (binOp op t a b) h R:=by
 rw [ar]
 have:∀ K:Unit->Hp->Prop,aQ P (eqGuard op t x y a b) h K=K () h:=by
  intro K;cases op <;> first | rfl | (cases a <;> first | (simp [BY] at ha; done) | rfl)
 rw [this]
theorem G' {t:TypeId} (hd:P.underlying t=some .bool) (m n:Bool) (R:Bool->Hp->Prop):aQ P (Op.equal t (.bool m) (.bool n)) h R=R (m==n) h:=by
 show aQ P (Op.equalIn (9999+1) t (.bool m) (.bool n)) h R=_;unfold Op.equalIn;rw [ar,aD hd]; rfl
theorem As {t e:TypeId} (hd:P.underlying t=some (.pointer e)) (p:Option ZC) (R:Bool->Hp->Prop):aQ P (Op.equal t (.pointer p) (.pointer none)) h R=R p.isNone h:=by
 show aQ P (Op.equalIn (9999+1) t (.pointer p) (.pointer none)) h R=_;unfold Op.equalIn;rw [ar,aD hd]; cases p <;> rfl
theorem xR {t e:TypeId} (hd:P.underlying t=some (.slice e)) (p:Option ZC) (l c:Nat) (R:Bool->Hp->Prop):aQ P (Op.equal t (.slice p l c) (.slice none 0 0)) h R=R p.isNone h:=by
 show aQ P (Op.equalIn (9999+1) t (.slice p l c) (.slice none 0 0)) h R=_;unfold Op.equalIn;rw [ar,aD hd]; cases p <;> rfl
theorem AF {t a b:TypeId} (hd:P.underlying t=some (.map a b)) (p:Option Nat) (R:Bool->Hp->Prop):aQ P (Op.equal t (.map p) (.map none)) h R=R p.isNone h:=by
 show aQ P (Op.equalIn (9999+1) t (.map p) (.map none)) h R=_;unfold Op.equalIn;rw [ar,aD hd]; cases p <;> rfl
theorem uX {op:BinOp} {t:TypeId} {a b:ZB} {r:Bool} {kk:ZB->T}
  (hq:∀ R:Bool->Hp->Prop,aQ P (Op.equal t a b) h R=R r h)
  (h1:binOp .eql t a b=(do pure (.bool (<- Op.equal t a b)))) (h2:binOp .neq t a b=(do pure (.bool (!(<- Op.equal t a b)))))
  (ht:asked op r kk T.fail L K h):aQ P (binOp op t a b) h (fun v h'=>kk v L K h'):=by
 cases op <;> simp only [asked] at ht <;> first
  | exact ht.elim
  | (rw [h1,ar,hq]; exact ht)
  | (rw [h2,ar,hq]; exact ht)
theorem O8 {op:BinOp} {t:TypeId} {x y:Operand} {a b:ZB} {kk:ZB->T} (ht:Pc P op t x y a b kk L K h) :
  aQ P (do eqGuard op t x y a b; binOp op t a b) h (fun v h'=>kk v L K h'):=Qq ht
theorem Ps {e:Env} {op:BinOp} {t:TypeId} {x y:Operand} {a b:ZB} {kk:ZB->T} (hy:ev e y=some b)
  (ht:Cc P op t x y a b kk L K h):aQ P (do eqGuard op t x y a b; binOp op t a b) h (fun v h'=>kk v L K h'):=by
 have hnil:∀ q,b=.pointer q->isNil y=true->q=none:=by
  intro q hq hn;cases y <;> simp only [isNil,Bool.false_eq_true] at hn;rename_i c;simp only [Sx.ev,Option.some.injEq] at hy;subst hy; subst hq;cases q with
  | none=>rfl
  | some a=>simp [isNil] at hn
 have hnilS:∀ q l c,b=.slice q l c->isNil y=true->q=none/\l=0/\c=0:=by
  intro q l c hq hn;cases y <;> simp only [isNil,Bool.false_eq_true] at hn;rename_i c;simp only [Sx.ev,Option.some.injEq] at hy;subst hy; subst hq;cases q with
  | none =>
   cases l <;> cases c <;> simp [isNil] at hn <;> exact ⟨rfl,rfl,rfl⟩
  | some a=>simp [isNil] at hn
 have hnilM:∀ q,b=.map q->isNil y=true->q=none:=by
  intro q hq hn;cases y <;> simp only [isNil,Bool.false_eq_true] at hn;rename_i c;simp only [Sx.ev,Option.some.injEq] at hy;subst hy; subst hq;cases q with
  | none=>rfl
  | some a=>simp [isNil] at hn
 unfold Cc at ht;cases hpt:qZ P t x y with
 | false=>simp only [hpt] at ht; exact O8 ht
 | true =>
 simp only [hpt] at ht;unfold sy at ht;split at ht
 ·rename_i k m k' n;rw [fO rfl];cases hs:lZ op with
  | true=>simp only [hs] at ht; exact IQ hs t ht
  | false =>
   simp only [hs] at ht
   by_cases hk:k=k'
   ·subst hk;simp only [decide_true] at ht;exact PY hs t ht
   ·simp only [hk,decide_false] at ht;exact ht.elim
 ·rw [fO rfl]; exact Qz t ht
 ·rename_i m n;rw [fO rfl];cases hd:P.underlying t with
  | none=>simp only [hd] at ht; exact ht.elim
  | some d =>
   cases d <;> simp only [hd] at ht <;> first
    | exact ht.elim
    | exact uX (fun R=>G' hd m n R) rfl rfl ht
 ·rename_i p q;cases hd:P.underlying t with
  | none=>simp only [hd] at ht; exact ht.elim
  | some d =>
   cases d <;> simp only [hd] at ht <;> first
    | exact ht.elim
    | skip
   have hn:isNil y=true:=by simpa [qZ,hd] using hpt
   obtain rfl:=hnil q rfl hn;rw [fO rfl]; exact uX (fun R=>As hd p R) rfl rfl ht
 ·rename_i p l c q l' c';cases hd:P.underlying t with
  | none=>simp only [hd] at ht; exact ht.elim
  | some d =>
   cases d <;> simp only [hd] at ht <;> first
    | exact ht.elim
    | skip
   have hn:isNil y=true:=by simpa [qZ,hd] using hpt
   obtain ⟨rfl,rfl,rfl⟩:=hnilS q _ _ rfl hn;rw [fO rfl]; exact uX (fun R=>xR hd p l c R) rfl rfl ht
 ·rename_i p q;cases hd:P.underlying t with
  | none=>simp only [hd] at ht; exact ht.elim
  | some d =>
   cases d <;> simp only [hd] at ht <;> first
    | exact ht.elim
    | skip
   have hn:isNil y=true:=by simpa [qZ,hd] using hpt
   obtain rfl:=hnilM q rfl hn;rw [fO rfl]; exact uX (fun R=>AF hd p R) rfl rfl ht
 ·exact ht.elim
theorem Sj {op:UnOp} {a:ZB} {kk:ZB->T} (ht:RT op a kk L K h):aQ P (Op.unary op a) h (fun v h'=>kk v L K h'):=by
 unfold RT at ht;split at ht
 ·exact ht
 ·exact ht
 ·exact ht
 ·exact ht.elim
theorem LC {s d:TypeId} {a:ZB} {kk:ZB->T} (ht:xz P s d a kk L K h):aQ P (convert s d a) h (fun v h'=>kk v L K h'):=by
 unfold xz at ht;generalize hs:P.underlying s=us at ht;generalize hd:P.underlying d=ud at ht;split at ht
 ·unfold convert;rw [ar,aD hs,ar,aD hd];exact ht
 ·unfold convert;rw [ar,aD hs,ar,aD hd];exact ht
 ·exact ht.elim
 ·exact lF ht
 ·exact Qy ht
 ·exact ht.elim
theorem ej (y:Nat) (code:BoundsCode) {v:ZB} {k:IntKind} {i:Int} (hv:v=.int k i) (h0:0<=i) (h1:i<=y) (R:Nat->Hp->Prop) :
  aQ P (Instr.sliceBound v y code) h R=R i.toNat h:=by
 subst hv;unfold Instr.sliceBound;rw [ar];show aQ P (if 0<=i/\i<=↑y then pure i.toNat else boundsPanic k i ↑y code) h R=_;rw [W2 ⟨h0,h1⟩]; rfl
theorem qX {v:ZB} (hv:eb (some v)=true):∃ k i,v=.int k i:=by
 cases v <;> simp only [eb,Bool.false_eq_true] at hv;exact ⟨_,_,rfl⟩
theorem nr (isSlice:Bool) (len cap:Nat) {lo hi:Option ZB} (il:eb lo=true) (ih:eb hi=true)
  (h0:0<=jR lo) (h1:jR lo<=jU len hi) (h2:jU len hi<=cap) (R:Nat × Nat × Nat->Hp->Prop) :
  aQ P (Instr.sliceBounds isSlice len cap lo hi none) h R=R ((jR lo).toNat,(jU len hi).toNat,cap) h:=by
 unfold Instr.sliceBounds;cases hi with
 | none =>
  cases lo with
  | none=>rfl
  | some v =>
   obtain ⟨k,i,rfl⟩:=qX il;have h0':0<=i:=h0;have h1':i<=len:=h1;show aQ P (Instr.sliceBound (.int k i) len _ >>= fun l=>pure (l,len,cap)) h R=_;rw [ar,ej len _ rfl h0' h1']; rfl
 | some u =>
  obtain ⟨ku,iu,rfl⟩:=qX ih;have hu0:(0:Int)<=iu:=Int.le_trans h0 h1;cases lo with
  | none =>
   show aQ P (Instr.sliceBound (.int ku iu) cap _ >>= fun hh=>pure (0,hh,cap)) h R=_;have h2':iu<=cap:=h2;rw [ar,ej cap _ rfl hu0 h2']; rfl
  | some v =>
   obtain ⟨k,i,rfl⟩:=qX il;show aQ P (Instr.sliceBound (.int ku iu) cap _ >>= fun hh=>Instr.sliceBound (.int k i) hh _ >>= fun l=>pure (l,hh,cap)) h R=_;have h0':0<=i:=h0;have h1':i<=iu:=h1;have h2':iu<=cap:=h2;rw [ar,ej cap _ rfl hu0 h2',ar,ej _ _ rfl h0' (by rw [Int.toNat_of_nonneg hu0]; exact h1')]; rfl
theorem Ju {t:TypeId} {a:ZB} {lo hi mx:Option ZB} {kk:ZB->T} (ht:iw P t a lo hi mx kk L K h) :
  aQ P (Instr.sliceAt t a lo hi mx) h (fun v h'=>kk v L K h'):=by
 unfold iw at ht;cases hint:eb lo && eb hi && eb mx with
 | false=>simp only [hint] at ht; exact ht.elim
 | true =>
  simp only [hint] at ht;simp only [Bool.and_eq_true] at hint;obtain ⟨⟨il,ih⟩,im⟩:=hint;cases hd:P.underlying t with
  | none=>simp only [hd] at ht; exact lF ht
  | some d =>
   cases d <;> simp only [hd] at ht <;> first | exact lF ht | skip
   case string =>
    cases mx with
    | some m=>cases a <;> exact ht.elim
    | none =>
    cases a <;> first | exact ht.elim | skip
    rename_i s;obtain ⟨⟨h0,h1,h2⟩,ht⟩:=ht;unfold Instr.sliceAt;rw [ar,aD hd];show aQ P (Instr.slice t (.string s) lo hi none) h _;unfold Instr.slice;rw [ar,aD hd];show aQ P (Instr.sliceBounds false s.size s.size lo hi none >>= fun x=>(pure (Value.string (s.extract x.1 x.2.1)):Sem ZB)) h _;rw [ar,nr false _ _ il ih h0 h1 h2];exact ht
   case slice el =>
    cases mx with
    | some m=>exact lF ht
    | none =>
    cases a <;> first | exact ht.elim | skip
    rename_i p len cap;simp only at ht;cases hT:mz P el with
    | false=>simp only [hT] at ht; exact ht.elim
    | true =>
     simp only [hT] at ht;obtain ⟨⟨h0,h1,h2⟩,ht⟩:=ht;obtain ⟨i,hi'⟩:=XJ.1 hT;unfold Instr.sliceAt;rw [ar,aD hd];show aQ P (Instr.slice t (.slice p len cap) lo hi none) h _;unfold Instr.slice;rw [ar,aD hd];show aQ P (Instr.sliceBounds true len cap lo hi none >>= fun x=>sizeOf el >>= fun size=>(pure (Value.slice (if x.2.2=x.1 then p else p.map (·.add (x.1*size))) (x.2.1-x.1) (x.2.2-x.1)):Sem ZB)) h _;rw [ar,nr true _ _ il ih h0 h1 h2,ar,bM hi'];exact ht
theorem ND {t:TypeId} {cs:Array ZB} {off:Nat} {kk:ZB->T} (ht:sJ P t cs.toList off kk L K h) :
  aQ P (part t cs off) h (fun v h'=>kk v L K h'):=by
 have hx:∀ n,((cs.toList.drop off).take n).toArray=cs.extract off (off+n):=by
  intro n;apply Xv.1;simp [Array.toList_extract,List.extract_eq_drop_take]
 unfold sJ at ht;generalize hd:P.underlying t=ud at ht;split at ht
 ·obtain ⟨i,hi⟩:=info_of_underlying hd;unfold part;rw [ar,jm (b:=true) (by simp [cv,hd])];show aQ P (sizeOf t >>= fun n=>(pure (Value.agg (cs.extract off (off+n))):Sem ZB)) h _;rw [ar,bM hi,<- hx];exact ht
 ·obtain ⟨i,hi⟩:=info_of_underlying hd;unfold part;rw [ar,jm (b:=true) (by simp [cv,hd])];show aQ P (sizeOf t >>= fun n=>(pure (Value.agg (cs.extract off (off+n))):Sem ZB)) h _;rw [ar,bM hi,<- hx];exact ht
 ·rename_i d hns hna;unfold part;rw [ar,jm (b:=false) (by simp only [cv,hd])];show aQ P (match cs[off]? with | some v => pure v | none => stuck "part: no such cell") h _
  rw [<- X5];cases hv:cs.toList[off]? with
  | none=>simp only [hv] at ht; exact ht.elim
  | some v=>simp only [hv] at ht; exact ht
 ·exact ht.elim
theorem vG {f:FuncId} (hb:ft P f=true) (args:Array ZB) (R:Next->Hp->Prop):aQ P (callFunc f args) h R=R (.enter f args) h:=by
 unfold ft at hb;unfold callFunc;rw [eY];cases hf:P.funcs[f]? with
 | none=>rw [hf] at hb; simp at hb
 | some fn =>
  rw [hf] at hb;simp only [Bool.and_eq_true,Bool.not_eq_true'] at hb;obtain ⟨h1,h2⟩:=hb;have h3:fn.body.isNone=false:=by cases hbd:fn.body <;> simp_all
  simp only [h2,h3]; rfl
theorem N1 {f:FuncId} {args:List ZB} {t:TypeId} {kk:ZB->T} (ht:AU P f args t kk L K h) :
  aQ P (callFunc f args.toArray) h (BH P fun v h'=>kk v L K h'):=by
 unfold AU at ht;cases hb:ft P f with
 | false =>
  simp only [hb] at ht
  have:=mR ht
  unfold G7 at this;rw [ar] at this;refine dE _ _ _ _ ?_ this;intro x h' hx;cases x <;> first | exact hx | exact hx.elim
 | true =>
  simp only [hb] at ht;rw [vG hb];refine HC.mono ht ?_;rintro v h' ⟨x,rfl,hx⟩;rw [du] at hx;exact hx
theorem Qs {c:Call} {t:TypeId} {args:List ZB} {kk:ZB->T} (ht:yP P c t args kk L K h) :
  aQ P (Builtin.len_ c.argTypes t args.toArray) h (fun v h'=>kk v L K h'):=by
 unfold yP at ht;cases hd:(c.argTypes[0]?).bind P.underlying with
 | none=>simp only [hd] at ht; exact Cw ht
 | some d =>
  obtain ⟨t0,ht0,hd'⟩:=WO.1 hd;cases d <;> simp only [hd] at ht <;> first | exact Cw ht | skip
  case string =>
   split at ht
   ·unfold Builtin.len_;simp only [ht0];show aQ P (underlying t0 >>= _) h _;rw [ar,aD hd'];exact ht
   ·exact ht.elim
  case slice el =>
   split at ht
   ·unfold Builtin.len_;simp only [ht0];show aQ P (underlying t0 >>= _) h _;rw [ar,aD hd'];exact ht
   ·exact ht.elim
theorem PL {c:Call} {t:TypeId} {args:List ZB} {kk:ZB->T} (ht:Jd P c args kk L K h) :
  aQ P (Builtin.cap_ c.argTypes t args.toArray) h (fun v h'=>kk v L K h'):=by
 unfold Jd at ht;cases hd:(c.argTypes[0]?).bind P.underlying with
 | none=>simp only [hd] at ht; exact ht.elim
 | some d =>
  obtain ⟨t0,ht0,hd'⟩:=WO.1 hd;cases d <;> simp only [hd] at ht <;> first | exact ht.elim | skip
  split at ht
  ·unfold Builtin.cap_;simp only [ht0];show aQ P (underlying t0 >>= _) h _;rw [ar,aD hd'];exact ht
  ·exact ht.elim
inductive kn:List (Nat × ZB)->List (Nat × List ZB)->Prop
 | nil:kn [] []
 | cons {i:Nat} {v:ZB} {l:List ZB} {ps:List (Nat × ZB)} {r:List (Nat × List ZB)} (h:v.cells.toList=l) (t:kn ps r):kn ((i,v)::ps) ((i,l)::r)
theorem JF {v:ZB} (h:eM v=true):v.cells.toList=ja v:=by
 cases v <;> first | rfl | (simp [eM] at h)
theorem xp {v:ZB} (h:eM v=false):v.cells.toList=[v]:=by
 cases v <;> first | rfl | (simp [eM] at h)
theorem rO {agg:Nat->Option Bool}:∀ {ps:List (Nat × ZB)} {k:List (Nat × List ZB)->T},eZ agg ps k L K h->∃ r,kn ps r/\k r L K h
 | [],k,ht=>⟨[],.nil,ht⟩
 | (i,v)::l,k,ht=>by
  simp only [eZ] at ht;cases ha:agg i with
  | none=>rw [ha] at ht; exact ht.elim
  | some b =>
   rw [ha] at ht;cases b with
   | true =>
    rcases fx ht with ⟨hv,ht⟩ | ⟨_,ht⟩
    ·obtain ⟨r,hr,hk⟩:=rO ht;exact ⟨_,.cons (JF hv) hr,hk⟩
    ·exact ht.elim
   | false =>
    rcases fx ht with ⟨_,ht⟩ | ⟨hv,ht⟩
    ·exact ht.elim
    ·obtain ⟨r,hr,hk⟩:=rO ht;exact ⟨_,.cons (xp hv) hr,hk⟩
theorem zT:∀ (l:List ZB) (off k:Nat) (cs:Array ZB),((l.zipIdx k).foldl (fun (cs:Array ZB) (x:ZB × Nat)=>cs.setIfInBounds (off+x.2) x.1) cs)=(rZ cs.toList (off+k) l).toArray
 | [],off,k,cs=>by simp [rZ]
 | v::l,off,k,cs=>by
  rw [List.zipIdx_cons,XI,zT l off (k+1)];simp only [rZ,Array.toList_setIfInBounds] <;> rfl
theorem CQ {place:Nat->Option (Nat × Nat)} {ps:List (Nat × ZB)} {r:List (Nat × List ZB)} (hc:kn ps r):∀ {c cs:List ZB},ff place c r=some cs->Instr.fill place c.toArray ps=some cs.toArray:=by
 induction hc with
 | nil=>intro c cs h; simp [ff] at h; subst h; rfl
 | @cons i v l ps r hv _ ih =>
  intro c cs h;unfold ff at h;unfold Instr.fill;split at h
  ·cases h
  ·rename_i off size hp;rw [hp];simp only;have hs:v.cells.size=l.length:=by rw [<- hv,XT]
   cases hb:!(Nat.beq l.length size) || Nat.blt c.length (off+l.length) with
   | true=>rw [hb] at h; cases h
   | false =>
    rw [hb] at h;simp only [Bool.or_eq_false_iff,Bool.not_eq_false'] at hb;have h1:l.length=size:=W3 hb.1;have h2:¬ c.length<off+l.length:=fun hlt=>by
     have:=Nat.ble_eq_true_of_le hlt
     rw [show Nat.blt c.length (off+l.length)=Nat.ble (c.length+1) (off+l.length) from rfl,this] at hb;exact absurd hb.2 aj
    rw [WV (by simp [hs,h1]; omega)];have e:v.cells.zipIdx.foldl (fun cs (x:ZB × Nat)=>cs.setIfInBounds (off+x.2) x.1) c.toArray=(rZ c off l).toArray:=by
     rw [<- Array.foldl_toList,Array.toList_zipIdx,hv];exact zT l off 0 c.toArray
    have:=ih h
    rw [<- e] at this;exact this
theorem DK {b:Builtin} {c:Call} {t:TypeId} {args:List ZB} {consts:Array Bool} {kk:ZB->T} (ht:qS P b c t args kk L K h) :
  aQ P (builtin b c.argTypes t consts args.toArray) h (BH P fun v h'=>kk v L K h'):=by
 unfold qS at ht;split at ht
 ·show aQ P (do pure (Next.value (<- Builtin.len_ c.argTypes t args.toArray))) h _;rw [sf]; exact Qs ht
 ·show aQ P (do pure (Next.value (<- Builtin.cap_ c.argTypes t args.toArray))) h _;rw [sf]; exact PL ht
 ·show aQ P (do pure (Next.value (<- Builtin.append_ c.argTypes t args.toArray))) h _;rw [sf]; exact lF ht
 ·show aQ P (do pure (Next.value (<- Builtin.copy_ c.argTypes t args.toArray))) h _;rw [sf]; exact Cw ht
 ·show aQ P (do pure (Next.value (<- Builtin.min_ c.argTypes t args.toArray))) h _;rw [sf]; exact mR ht
 ·show aQ P (do pure (Next.value (<- Builtin.max_ c.argTypes t args.toArray))) h _;rw [sf]; exact mR ht
 ·show aQ P (do pure (Next.value (<- Builtin.delete_ c.argTypes t args.toArray))) h _;rw [sf];exact dE _ _ _ _ (fun v h' ⟨e,hk⟩=>by subst e; exact hk) (Qa ht)
 ·show aQ P (do pure (Next.value (<- Builtin.unsafeString_ c.argTypes t args.toArray))) h _;rw [sf]; exact mR ht
 ·show aQ P (do pure (Next.value (<- Builtin.unsafeSliceData_ c.argTypes t args.toArray))) h _;rw [sf]; exact mR ht
 ·exact ht.elim
theorem Lg {vs:List ZB} {e:TypeId} {kk:ZB->T} (ht:T.new vs e (fun a=>kk (.pointer (some a))) L K h) {cs:Array ZB} (hv:cs=vs.toArray) :
  aQ P (do pure (Value.pointer (some (<- newRow e cs)))) h (fun v h'=>kk v L K h'):=by
 subst hv;exact ht
theorem Bh {n:Nat} {t:TypeId} {p:Option ZC} {kk:ZC->List ZB->ZB->T} {b:Bool} (hb:cv P t=some b)
  (ht:(match b with
   | true=>(bif (eQ P 9 t).length==P.cellsOf t then T.bk p fun a=>T.ah a (eQ P 9 t) (jd _ fun l=>kk a l (.agg l.toArray)) else T.fail)
   | false=>T.bk p fun a=>T.ah a (ct P t).2 (jd _ fun l=>kk a l (l.headD undef))) L K h) :
  ∃ a l v,p=some a/\aG h a 0 l/\kk a l v L K h/\∀ h' (R:ZB->Hp->Prop),aG h' a 0 l->R v h'->aQ P (Instr.loadAt t (.pointer p)) h' R:=by
 obtain ⟨i,hi⟩:=sI hb;cases b with
 | true =>
  simp only at ht;cases hl:(eQ P 9 t).length==P.cellsOf t with
  | false=>rw [hl] at ht; exact ht.elim
  | true =>
   rw [hl] at ht;have hl':(eQ P 9 t).length=P.cellsOf t:=by simpa using hl
   obtain ⟨a,rfl,ht⟩:=fK ht;obtain ⟨x,hc,ht⟩:=ht;rw [du] at ht;refine ⟨a,dU _ x,_,rfl,hc,ht,fun h' R hc' hk=>?_⟩;unfold Instr.loadAt;show aQ P (loadVar t a) h' R;unfold loadVar;rw [ar,jm hb];show aQ P (sizeOf t >>= fun n=>loadCells a n >>= fun cs=>(pure (Value.agg cs):Sem ZB)) h' R;rw [ar,bM hi,ar];exact dA (by rw [tM,hl']) hc' _ hk
 | false =>
  simp only at ht;obtain ⟨a,rfl,ht⟩:=fK ht;obtain ⟨x,hc,ht⟩:=ht;rw [du] at ht;have h1:∃ d,(ct P t).2=[d]:=by
   unfold cv at hb;unfold ct;cases hd:P.underlying t with
   | none=>rw [hd] at hb; simp at hb
   | some d=>rw [hd] at hb; cases d <;> simp at hb <;> exact ⟨_,rfl⟩
  obtain ⟨d,hd⟩:=h1;refine ⟨a,dU _ x,_,rfl,hc,ht,fun h' R hc' hk=>?_⟩;revert x;rw [hd];intro x hc ht hc' hk;unfold Instr.loadAt;show aQ P (loadVar t a) h' R;unfold loadVar;rw [ar,jm hb];have hc0:=hc'.1
  have:a.add 0=a:=by simp [Addr.add]
  rw [this] at hc0;exact ⟨_,hc0,hk⟩
theorem N4 {n : Nd} {e : Env} {a : Act} (g : gh n e a) {t : TypeId} {x : Operand} {kk : ZC -> List ZB -> ZB -> T} (ht : qT P t x e kk L K h) :
    ∃ p l v, ev e x = some (.pointer (some p)) /\ aG h p 0 l /\ kk p l v L K h /\ ∀ h' (R : ZB -> Hp -> Prop), aG h' p 0 l -> R v h' -> aQ P (Instr.loadAt t (.pointer (some p))) h' R := by
  unfold qT at ht;obtain ⟨v, hv, ht⟩ := bn ht;cases hb : cv P t with
  | none => cases v <;> simp only [hb] at ht <;> exact ht.elim
  | some b =>
    cases v <;> first
      | (cases b <;> simp only [hb] at ht <;> exact ht.elim)
      | (rename_i p
         have ht' : (match b with
            | true => (bif (eQ P 9 t).length == P.cellsOf t then T.bk p fun a => T.ah a (eQ P 9 t) (jd _ fun l => kk a l (.agg l.toArray)) else T.fail)
            | false => T.bk p fun a => T.ah a (ct P t).2 (jd _ fun l => kk a l (l.headD undef))) L K h := by
            cases b <;> simp only [hb] at ht <;> exact ht
         obtain ⟨q, l, v, rfl, hc, hk, hall⟩ := Bh (n := n) hb ht';exact ⟨q, l, v, hv, hc, hk, hall⟩)
theorem Gr {n : Nd} {o : Oper} {e : Env} {a : Act} (g : gh n e a) {kk : ZB -> T} (ht : tQ P o e kk L K h) :
    Vl P o a.eval h (fun v h' => kk v L K h') := by
  obtain ⟨dst, op, type, pos, after, guard⟩ := o;unfold Vl;cases op <;> simp only [tQ] at ht <;> unfold execOp <;> simp only
  case move x => obtain ⟨v, hv, ht⟩ := bn ht; rw [g.ev hv]; exact ht
  case assign x => obtain ⟨v, hv, ht⟩ := bn ht; rw [g.ev hv]; exact ht
  case pick c x y =>
    obtain ⟨v, hv, ht⟩ := bn ht;rw [g.ev hv]
    cases v <;> simp only at ht <;> first
      | exact ht.elim
      | (rename_i b
         rw [ar];show aQ P (pure b) h _;cases b
         · obtain ⟨w, hw, ht⟩ := bn (show bP e y kk L K h from ht); rw [g.ev hw]; exact ht
         · obtain ⟨w, hw, ht⟩ := bn (show bP e x kk L K h from ht); rw [g.ev hw]; exact ht)
  case alloc t =>
    cases hz : (P.info? t).bind (·.zero) with
    | none => simp only [hz] at ht; exact ht.elim
    | some z =>
      simp only [hz] at ht;rw [sf];unfold Instr.alloc;rw [ar, dh hz];exact Lg ht aj
  case box t x =>
    obtain ⟨v, hv, ht⟩ := bn ht;rw [g.ev hv, sf];unfold Instr.box newVar;cases hb : cv P t with
    | none => simp only [hb] at ht; exact ht.elim
    | some b =>
      cases b <;> simp only [hb] at ht <;> rcases fx ht with ⟨hv, ht⟩ | ⟨hv, ht⟩ <;> first
        | exact ht.elim
        | (refine Lg ht ?_
           cases v <;> first | (simp [eM] at hv; done) | simp [Value.cells, ja])
  case build t ps =>
    obtain ⟨vs, dU, ht⟩ := hZ ht;have dU := g.Pn dU
    have hps : (ps.map fun x => (x.1, a.eval x.2)).toList = (ps.toList.map (·.1)).zip vs := by
      rw [<- dU];simp only [Array.toList_map];generalize ps.toList = l
      induction l with
      | nil => rfl
      | cons p l ih => simp [ih]
    rw [sf];unfold Instr.build;rw [ar];cases hz : (P.info? t).bind (·.zero) with
    | none =>
      generalize P.underlying t = ud at ht;cases ud with
      | none => simp only [hz] at ht; exact ht.elim
      | some d => cases d <;> simp only [hz] at ht <;> exact ht.elim
    | some z =>
      rw [dh hz];show aQ P (underlying t >>= _) h _;cases hd : P.underlying t with
      | none => simp only [hd] at ht; exact ht.elim
      | some d =>
        rw [ar, aD hd];cases d <;> simp only [hd, hz] at ht <;> first | exact ht.elim | skip
        case array len el =>
          rcases fx ht with ⟨_, ht⟩ | ⟨hT, ht⟩
          · exact ht.elim
          · have hT : mz P el = true := by simpa using hT
            obtain ⟨i, hi⟩ := XJ.1 hT;simp only;rw [ar, bM hi];have hps' : (Array.map (fun x => (x.1, a.eval x.2)) ps).toList = (ps.toList.map (·.1)).zip vs := hps;obtain ⟨ls, hls, ht⟩ := rO ht;cases hf : ff (fun i => some (i * P.cellsOf el, P.cellsOf el)) z.cells.toList ls with
            | none => simp only [hf] at ht; exact ht.elim
            | some cs =>
              simp only [hf] at ht;rw [hps', CQ hls hf];exact ht
        case struct fs =>
          rcases fx ht with ⟨_, ht⟩ | ⟨hT, ht⟩
          · exact ht.elim
          · have hT : (fs.all fun f => mz P f.type) = true := by simpa using hT
            simp only;rw [ar]
            have hm : ∀ R : Array (Nat × Nat) -> Hp -> Prop, aQ P (fs.mapM fun f => do pure (f.offset, <- sizeOf f.type)) h R = R (fs.map fun f => (f.offset, P.cellsOf f.type)) h := by
              intro R;rw [Array.mapM_eq_mapM_toList]
              have hT' : ∀ f ∈ fs.toList, mz P f.type = true := by
                intro f hf; exact (Array.all_eq_true_iff_forall_mem.1 hT) f (by simpa using hf)
              have : ∀ (l : List Field) (R : List (Nat × Nat) -> Hp -> Prop), (∀ f ∈ l, mz P f.type = true) ->
                  aQ P (l.mapM fun f => (do pure (f.offset, <- sizeOf f.type) : Sem (Nat × Nat))) h R = R (l.map fun f => (f.offset, P.cellsOf f.type)) h := by
                intro l
                induction l with
                | nil => intro R _; rfl
                | cons f l ih =>
                  intro R hl;obtain ⟨i, hi⟩ := XJ.1 (hl f aj);rw [List.mapM_cons, ar, ar, bM hi];show aQ P ((l.mapM fun f => (do pure (f.offset, <- sizeOf f.type) : Sem (Nat × Nat))) >>= _) h R = _;rw [ar, ih _ (fun f hf => hl f (by simp [hf]))] <;> rfl
              show aQ P (List.toArray <$> _) h R = _;rw [map_eq_pure_bind, ar, this _ _ hT'];show R (List.toArray _) h = _
              congr 1
              apply Xv.1
              simp
            rw [hm];obtain ⟨ls, hls, ht⟩ := rO ht;cases hf : ff (fun i => (fs.map fun f => (f.offset, P.cellsOf f.type))[i]?) z.cells.toList ls with
            | none => simp only [hf] at ht; exact ht.elim
            | some cs =>
              simp only [hf] at ht;have hps' : (Array.map (fun x => (x.1, a.eval x.2)) ps).toList = (ps.toList.map (·.1)).zip vs := hps;rw [hps', CQ hls hf];exact ht
  case buildSlice t len ps =>
    obtain ⟨vs, dU, ht⟩ := hZ ht;have dU := g.Pn dU
    have hps : (ps.map fun x => (x.1, a.eval x.2)) = ((ps.toList.map (·.1)).zip vs).toArray := by
      apply Xv.1;rw [<- dU];simp only [Array.toList_map];generalize ps.toList = l
      induction l with
      | nil => rfl
      | cons p l ih => simpa using ih
    rw [sf];have hps' : (Array.map (fun x => (x.1, a.eval x.2)) ps) = ((ps.toList.map (·.1)).zip vs).toArray := hps;rw [hps'];exact lF ht
  case load t x =>
    have ht' : qT P t x e (fun _ _ v => kk v) L K h := ht;obtain ⟨p, l, v, hv, hc, hk, hall⟩ := N4 g ht';rw [g.ev hv, sf];exact hall h _ hc hk
  case store t x y =>
    obtain ⟨v, hv, ht⟩ := bn ht;obtain ⟨u, hu, ht⟩ := bn ht;rw [g.ev hv, g.ev hu, Vq];cases hb : cv P t with
    | none => cases v <;> simp only [hb] at ht <;> exact ht.elim
    | some b =>
      obtain ⟨i, hi⟩ := sI hb
      cases v <;> first
        | (cases b <;> simp only [hb] at ht <;> exact ht.elim)
        | skip
      rename_i p;cases b <;> simp only [hb] at ht
      · rcases fx ht with ⟨hl, ht⟩ | ⟨hl, ht⟩
        · rcases fx ht with ⟨hag, ht⟩ | ⟨hag, ht⟩
          · exact ht.elim
          · obtain ⟨q, rfl, ht⟩ := fK ht
            obtain ⟨hc, ht⟩ := ht;unfold Instr.storeAt storeVar;show aQ P (sizeOf t >>= _) h _;rw [ar, bM hi];have hcl : u.cells = #[u] := by cases u <;> first | (simp [eM] at hag; done) | rfl
            have h1 : P.cellsOf t = 1 := by simpa using hl
            rw [hcl, h1];exact fg q [u] h 0 _ hc ht
        · exact ht.elim
      · rcases fx ht with ⟨hag, ht⟩ | ⟨hag, ht⟩
        · rcases fx ht with ⟨hl, ht⟩ | ⟨hl, ht⟩
          · obtain ⟨q, rfl, ht⟩ := fK ht
            obtain ⟨hc, ht⟩ := ht;unfold Instr.storeAt storeVar;show aQ P (sizeOf t >>= _) h _;rw [ar, bM hi];obtain ⟨cs, rfl⟩ : ∃ cs, u = .agg cs := by cases u <;> first | (simp [eM] at hag; done) | exact ⟨_, rfl⟩
            have h1 : cs.size = P.cellsOf t := by simpa [ja] using hl
            show aQ P (if cs.size ≠ P.cellsOf t then _ else storeCells q cs.toList 0) h _;rw [WV (by simp [h1])];exact fg q cs.toList h 0 _ hc ht
          · exact ht.elim
        · exact ht.elim
  case nilCheck x =>
    obtain ⟨v, hv, ht⟩ := bn ht;rw [g.ev hv];cases v with
    | pointer p => obtain ⟨q, rfl, ht⟩ := fK ht; exact ht
    | func fn fi ca => cases fn <;> first | exact ht.elim | exact ht
    | iface t w => exact ht
    | _ => exact ht.elim
  case binOp op t x y yt =>
    obtain ⟨v, hv, ht⟩ := bn ht;obtain ⟨u, hu, ht⟩ := bn ht;rw [g.ev hv, g.ev hu, sf];exact Ps hu ht
  case unOp op t x => obtain ⟨v, hv, ht⟩ := bn ht; rw [g.ev hv, sf]; exact Sj ht
  case convert s d x => obtain ⟨v, hv, ht⟩ := bn ht; rw [g.ev hv, sf]; exact LC ht
  case makeInterface t x =>
    obtain ⟨v, hv, ht⟩ := bn ht;rw [g.ev hv, sf];unfold Instr.makeInterface;cases hd : P.underlying t with
    | none => simp only [hd] at ht; exact ht.elim
    | some d =>
      rw [ar, aD hd];cases d <;> simp only [hd] at ht <;> first | exact ht.elim | exact ht
  case makeFunc fn fi ca =>
    obtain ⟨vs, dU, ht⟩ := hZ ht;obtain ⟨us, hus, ht⟩ := hZ ht;rw [sf];have e1 : fi.map a.eval = vs.toArray := by apply Xv.1; simpa using g.Pn dU
    have e2 : ca.map a.eval = us.toArray := by apply Xv.1; simpa using g.Pn hus
    rw [e1, e2];exact ht
  case makeMap t r =>
    cases r with
    | none => rw [sf]; exact PF ht
    | some r => exact ht.elim
  case makeSlice t l c =>
    obtain ⟨v, hv, ht⟩ := bn ht;obtain ⟨u, hu, ht⟩ := bn ht;rw [g.ev hv, g.ev hu, sf];exact lF ht
  case slice t x lo hi mx =>
    obtain ⟨v, hv, ht⟩ := bn ht;obtain ⟨vs, dU, ht⟩ := hZ ht;have dU := g.Pn dU;rw [g.ev hv, sf];unfold TM at ht
    cases lo <;> cases hi <;> cases mx <;> simp only [Option.toList, List.nil_append, List.append_nil, List.map_cons, List.map_nil, List.cons_append] at dU <;> subst dU <;>
      first | exact ht.elim | exact Ju ht
  case fieldAddr s x f =>
    obtain ⟨v, hv, ht⟩ := bn ht;rw [g.ev hv, sf];cases hd : P.underlying s with
    | none => cases v <;> simp only [hd] at ht <;> exact ht.elim
    | some d =>
      cases v <;> first
        | (cases d <;> simp only [hd] at ht <;> exact ht.elim)
        | skip
      rename_i p;cases d <;> simp only [hd] at ht <;> first | exact ht.elim | skip
      rename_i fs;cases hf : fs[f]? with
      | none => simp only [hf] at ht; exact ht.elim
      | some fd =>
        simp only [hf] at ht;cases hc : P.cellsOf fd.type with
        | zero => simp only [hc] at ht; exact ht.elim
        | succ m =>
          simp only [hc] at ht;obtain ⟨q, rfl, ht⟩ := fK ht
          have hi : ∃ i, P.info? fd.type = some i := by
            cases hi : P.info? fd.type with
            | none => simp [Program.cellsOf, hi] at hc
            | some i => exact ⟨i, rfl⟩
          obtain ⟨i, hi⟩ := hi;unfold Instr.fieldAt;rw [ar, aD hd];simp only [hf];show aQ P (fieldPlace q fd >>= fun y => (pure (Value.pointer (some y)) : Sem ZB)) h _;unfold fieldPlace;rw [ar, ar, bM hi, hc];exact ht
  case field s x f =>
    obtain ⟨v, hv, ht⟩ := bn ht;rw [g.ev hv, sf];cases hd : P.underlying s with
    | none => cases v <;> simp only [hd] at ht <;> exact ht.elim
    | some d =>
      cases v <;> first
        | (cases d <;> simp only [hd] at ht <;> exact ht.elim)
        | skip
      rename_i cs;cases d <;> simp only [hd] at ht <;> first | exact ht.elim | skip
      rename_i fs;cases hf : fs[f]? with
      | none => simp only [hf] at ht; exact ht.elim
      | some fd =>
        simp only [hf] at ht;unfold Instr.field;rw [ar, aD hd];simp only [hf];show aQ P (part fd.type cs fd.offset) h _;exact ND ht
  case indexAddr t x i =>
    obtain ⟨v, hv, ht1⟩ := bn ht;obtain ⟨u, hu, ht2⟩ := bn ht1;clear ht ht1;rw [g.ev hv, g.ev hu, sf];clear hv hu;unfold xA at ht2;generalize hd : P.underlying t = ud at ht2;split at ht2
    · rename_i p len cp k m el
      rcases fx ht2 with ⟨_, ht⟩ | ⟨hT, ht⟩
      · exact ht.elim
      · have hT : mz P el = true := by simpa using hT
        obtain ⟨i, hi⟩ := XJ.1 hT;obtain ⟨hb, ht⟩ := ht;obtain ⟨q, rfl, ht⟩ := fK ht;unfold Instr.indexAt;show aQ P (underlying t >>= _) h _;rw [ar, aD hd];show aQ P (underlying t >>= _) h _;rw [ar, aD hd];show aQ P (if 0 <= m /\ m < len then (sizeOf el >>= fun z => (pure (Value.pointer (some (q.add (m.toNat * z)))) : Sem ZB)) else _) h _;rw [W2 hb, ar, bM hi];exact ht
    · rename_i p k m len el
      rcases fx ht2 with ⟨_, ht⟩ | ⟨hT, ht⟩
      · exact ht.elim
      · have hT : mz P el = true := by simpa using hT
        obtain ⟨i, hi⟩ := XJ.1 hT;obtain ⟨hb, ht⟩ := ht;obtain ⟨q, rfl, ht⟩ := fK ht;unfold Instr.indexAt;show aQ P (underlying t >>= _) h _;rw [ar, aD hd];show aQ P (underlying t >>= _) h _;rw [ar, aD hd];show aQ P (if 0 <= m /\ m < len then (sizeOf el >>= fun z => (pure (Value.pointer (some (q.add (m.toNat * z)))) : Sem ZB)) else _) h _;rw [W2 hb, ar, bM hi];exact ht
    · exact ht2.elim
  case index t x i =>
    obtain ⟨v, hv, ht1⟩ := bn ht;obtain ⟨u, hu, ht2⟩ := bn ht1;clear ht ht1;rw [g.ev hv, g.ev hu, sf];clear hv hu;unfold FP at ht2;generalize hd : P.underlying t = ud at ht2;split at ht2
    · rename_i s k m
      obtain ⟨hb, ht⟩ := ht2;unfold Instr.index;show aQ P (underlying t >>= _) h _;rw [ar, aD hd]
      have hs : s[m.toNat]? = some (s.data.toList.getD m.toNat 0) := by
        have hlt : m.toNat < s.size :=ad
        have : s[m.toNat]? = some s[m.toNat] := by simp [hlt]
        rw [this]
        congr 1
        have h2 : m.toNat < s.data.toList.length := by simpa using hlt
        rw [X8, WT h2] <;> rfl
      show aQ P (match (if 0 <= m then s[m.toNat]? else none) with | some b => (pure (Value.int .u8 b.toNat) : Sem ZB) | none => boundsPanic k m s.size .index) h _;rw [W2 hb.1, hs];exact ht
    · exact mR ht2
    · exact ht2.elim
  case lookup t m x ok =>
    obtain ⟨v, hv, ht⟩ := bn ht;obtain ⟨u, hu, ht⟩ := bn ht;rw [g.ev hv, g.ev hu, sf];generalize hd : P.underlying t = ud at ht;split at ht
    · cases ok <;> simp only at ht <;> exact mR ht
    · exact ht.elim
  case mapUpdate t m x y =>
    obtain ⟨v, hv, ht⟩ := bn ht;obtain ⟨u, hu, ht⟩ := bn ht;obtain ⟨w, hw, ht⟩ := bn ht;rw [g.ev hv, g.ev hu, g.ev hw, Vq];exact ht
  case insert t m x y =>
    obtain ⟨v, hv, ht⟩ := bn ht;obtain ⟨u, hu, ht⟩ := bn ht;obtain ⟨w, hw, ht⟩ := bn ht;rw [g.ev hv, g.ev hu, g.ev hw, Vq];exact ht
  case mapEntry t m x =>
    obtain ⟨v, hv, ht⟩ := bn ht;obtain ⟨u, hu, ht⟩ := bn ht;rw [g.ev hv, g.ev hu, sf];generalize hd : P.underlying t = ud at ht;split at ht
    · exact mR ht
    · exact ht.elim
  case entryStore t m x y =>
    obtain ⟨v, hv, ht⟩ := bn ht;obtain ⟨u, hu, ht⟩ := bn ht;obtain ⟨w, hw, ht⟩ := bn ht;rw [g.ev hv, g.ev hu, g.ev hw, Vq];exact ht
  case range t x =>
    obtain ⟨v, hv, ht⟩ := bn ht;rw [g.ev hv, sf];exact Pq ht
  case next it b =>
    obtain ⟨v, hv, ht⟩ := bn ht;rw [g.ev hv, sf];generalize hd : P.underlying type = ud at ht;split at ht
    · rename_i ts
      generalize hts : ts.toList = tl at ht;cases tl with
      | nil =>
        refine dE _ _ _ _ ?_ ht;rintro v h' (⟨rfl, hx⟩ | ⟨x, rfl, hx⟩)
        · exact hx
        · rw [du] at hx; exact hx
      | cons t0 ts =>
        refine dE _ _ _ _ ?_ ht;rintro v h' (⟨rfl, hx⟩ | ⟨x, rfl, hx⟩)
        · exact hx
        · rw [du] at hx; exact hx
    · exact ht.elim
  case entry it =>
    obtain ⟨v, hv, ht⟩ := bn ht;rw [g.ev hv, sf];exact mR ht
  case typeAssert x t d ok =>
    obtain ⟨v, hv, ht⟩ := bn ht;rw [g.ev hv, sf];cases ok <;> simp only at ht <;> exact mR ht
  case extract x i =>
    obtain ⟨v, hv, ht⟩ := bn ht;rw [g.ev hv, sf];cases v with
    | tuple vs =>
      unfold Instr.extract;show aQ P (match vs[i]? with | some v => pure v | none => stuck "Extract: no such component") h _
      rw [<- X5];cases hi : vs.toList[i]? with
      | none => simp only [hi] at ht; exact ht.elim
      | some w => simp only [hi] at ht; exact ht
    | _ => exact ht.elim
  case call c =>
    rw [ar];unfold resolve;cases hc : c.callee with
    | builtin b =>
      simp only [hc] at ht;obtain ⟨vs, dU, ht⟩ := hZ ht;have e1 : c.args.map a.eval = vs.toArray := by apply Xv.1; simpa using g.Pn dU
      simp only [e1];exact DK ht
    | invoke r m => simp only [hc] at ht; exact ht.elim
    | value f =>
      simp only [hc] at ht;cases htm : EG f with
      | true =>
        simp only [htm] at ht;obtain ⟨gv, hg, ht⟩ := bn ht;obtain ⟨vs, dU, ht⟩ := hZ ht;have e1 : c.args.map a.eval = vs.toArray := by apply Xv.1; simpa using g.Pn dU
        simp only [e1, g.ev hg];obtain ⟨f', fi, ca, rfl, ht, fn, hfn, hb, hn⟩ := ht
        have hbd : ft P f' = true := by
          unfold ft;rw [hfn];simp [hb, hn]
        show aQ P (callFunc f' (fi ++ vs.toArray ++ ca)) h _
        have e2 : (fi.toList ++ vs ++ ca.toList).toArray = fi ++ vs.toArray ++ ca := by
          apply Xv.1; simp
        rw [<- e2, vG hbd];refine HC.mono ht ?_;rintro v h' ⟨x, rfl, hx⟩;rw [du] at hx;exact hx
      | false =>
        simp only [htm] at ht;obtain ⟨gv, hg, ht⟩ := bn ht;obtain ⟨vs, dU, ht⟩ := hZ ht;have e1 : c.args.map a.eval = vs.toArray := by apply Xv.1; simpa using g.Pn dU
        simp only [e1, g.ev hg]
        obtain ⟨f, fi, ca, rfl⟩ : ∃ f fi ca, gv = .func (.func f) fi ca := by
          cases gv with
          | func fn fi ca => cases fn <;> first | exact ht.elim | exact ⟨_, _, _, rfl⟩
          | _ => exact ht.elim
        have := N1 (show AU P f (fi.toList ++ vs ++ ca.toList) type kk L K h from ht);show aQ P (callFunc f (fi ++ vs.toArray ++ ca)) h _
        have e2 : (fi.toList ++ vs ++ ca.toList).toArray = fi ++ vs.toArray ++ ca := by
          apply Xv.1; simp
        rw [<- e2];exact this
  all_goals exact ht.elim
end ops
end Go.Sx
