/- A framework of our own, part O: what a tree asks of an operation, the operation does. No condition. -/
import Derived.Test.YtlpcncdglfjnoaaGreatDoorSxX
set_option linter.all false
set_option maxHeartbeats 4000000
namespace Go.Sx
section sems
variable {P:Program} {h:Hp}
theorem eW {α:Type} (f:Program->Sem α) (K:α->Hp->Prop):aP P (program >>= f) h K=aP P (f P) h K:=by
 rw [ar]; rfl
theorem aC {t:TypeId} {d:TypeDesc} (hd:P.underlying t=some d) (K:TypeDesc->Hp->Prop):aP P (underlying t) h K=K d h:=by
 unfold underlying; rw [eW,hd]; rfl
theorem info_of_underlying {t:TypeId} {d:TypeDesc} (hd:P.underlying t=some d):∃ i,P.info? t=some i:=by
 unfold Program.underlying at hd;cases hi:P.info? t with
 | none=>rw [hi] at hd; simp at hd
 | some i=>exact ⟨i,rfl⟩
theorem fq {t:TypeId} {i:TypeInfo} (hi:P.info? t=some i) (K:TypeInfo->Hp->Prop):aP P (typeInfo t) h K=K i h:=by
 unfold typeInfo; rw [eW,hi]; rfl
theorem cr {t:TypeId} {i:TypeInfo} (hi:P.info? t=some i):P.cellsOf t=i.size:=by
 simp [Program.cellsOf,hi]
theorem bJ {t:TypeId} {i:TypeInfo} (hi:P.info? t=some i) (K:Nat->Hp->Prop):aP P (sizeOf t) h K=K (P.cellsOf t) h:=by
 unfold sizeOf; rw [ar,fq hi,cr hi]; rfl
theorem cT {t:TypeId} {z:YB} (hz:(P.info? t).bind (·.zero)=some z) (K:YB->Hp->Prop):aP P (zeroValue t) h K=K z h:=by
 cases hi:P.info? t with
 | none=>rw [hi] at hz; simp at hz
 | some i =>
  rw [hi] at hz; simp at hz;unfold zeroValue; rw [ar,fq hi,hz]; rfl
theorem jd {t:TypeId} {b:Bool} (hb:cw P t=some b) (K:Bool->Hp->Prop):aP P (isAgg t) h K=K b h:=by
 unfold cw at hb;cases hd:P.underlying t with
 | none=>rw [hd] at hb; simp at hb
 | some d =>
  rw [hd] at hb;unfold isAgg; rw [ar,aC hd]
  all_goals (cases d <;> simp at hb <;> subst hb <;> rfl)
theorem sy {t:TypeId} {b:Bool} (hb:cw P t=some b):∃ i,P.info? t=some i:=by
 unfold cw at hb;cases hd:P.underlying t with
 | none=>rw [hd] at hb; simp at hb
 | some d=>exact info_of_underlying hd
theorem lI (a:YC):∀ (vs:List YB) (i:Nat) (acc:Array YB) (K:Array YB->Hp->Prop),aG h a i vs->K (acc++vs.toArray) h ->
  aP P (loadCellsFrom a i vs.length acc) h K
 | [],i,acc,K,_,hk=>by
  have hk':K acc h:=by simpa using hk
  exact hk'
 | v::vs,i,acc,K,hc,hk=>by
  simp only [List.length_cons,loadCellsFrom];rw [ar];refine ⟨v,hc.1,lI a vs (i+1) (acc.push v) K hc.2 ?_⟩;have e:acc.push v++vs.toArray=acc++(v::vs).toArray:=by
   apply W6.1; simp
  rw [e]; exact hk
theorem cU {a:YC} {n:Nat} {vs:List YB} (hn:vs.length=n) (hc:aG h a 0 vs) (K:Array YB->Hp->Prop) (hk:K vs.toArray h):aP P (loadCells a n) h K:=by
 subst hn;exact lI a vs 0 #[] K hc (by simpa using hk)
theorem ff (a:YC):∀ (vs:List YB) (h:Hp) (i:Nat) (K:Unit->Hp->Prop),xD h a i vs->K () (ri h a i vs)->aP P (storeCells a vs i) h K
 | [],h,i,K,_,hk=>hk
 | v::vs,h,i,K,hc,hk=>by
  simp only [storeCells];rw [ar];exact ⟨hc.1,hc.2.1,hc.2.2.1,ff a vs _ (i+1) K hc.2.2.2 hk⟩
end sems
structure Nd where
 n:Nat
 d:List Deferred
instance:Coe Nd Nat:=⟨Nd.n⟩
structure gb (n:Nd) (e:Env) (a:Act):Prop where
 size:a.tmps.size=n.n
 defers:a.defers=n.d
 get:∀ s v,cJ e s=some v->a.tmps.getD s undef=v
theorem gb.ev {n:Nd} {e:Env} {a:Act} (g:gb n e a) {x:Operand} {v:YB} (hx:ev e x=some v):a.eval x=v:=by
 cases x with
 | tmp t=>exact g.get t v hx
 | const w=>simpa [Sx.ev,Act.eval] using hx
 | global i=>simpa [Sx.ev,Act.eval] using hx
 | func f=>simpa [Sx.ev,Act.eval] using hx
theorem dl (e:Env) (s:Nat) (v:Option YB) (t:Nat):cJ ((s,v)::e) t=if s=t then v else cJ e t:=by
 simp only [cJ]
 by_cases h:s=t
 ·subst h; simp
 ·have:Nat.beq s t=false:=by
   cases hb:Nat.beq s t
   ·rfl
   ·exact (h (WD hb)).elim
  rw [this,Ww h]; rfl
theorem gb.put {n:Nd} {e:Env} {a:Act} (g:gb n e a) (dst:Option Tmp) (v:YB):gb n (dO n e dst v) (a.put dst v):=by
 cases dst with
 | none=>exact g
 | some d =>
  refine ⟨by simp [Act.put,g.size],by simp [Act.put,g.defers],fun s u hu=>?_⟩;simp only [dO] at hu;cases hb:Nat.blt d n with
  | true =>
   have hd:d<n:=by simpa [Nat.blt_eq] using hb
   rw [hb] at hu;simp only [cond_true,dl] at hu;simp only [Act.put,Array.getD_eq_getD_getElem?,Array.getElem?_setIfInBounds]
   by_cases hs:d=s
   ·subst hs;rw [WC rfl] at hu;simp at hu; subst hu;simp [g.size,hd]
   ·rw [Ww hs] at hu;rw [Ww hs]
    have:=g.get s u hu
    simpa [Array.getD_eq_getD_getElem?] using this
  | false =>
   rw [hb] at hu;have hd:¬ d<n:=by intro hh; rw [<- Nat.blt_eq] at hh; rw [hb] at hh; cases hh
   have hput:a.put (some d) v=a:=by
    simp only [Act.put]
    have:a.tmps.setIfInBounds d v=a.tmps:=Array.setIfInBounds_eq_of_size_le (by rw [g.size]; exact Nat.le_of_not_lt hd)
    rw [this]
   rw [hput];exact g.get s u hu
theorem gb.u7 {n:Nd} {e:Env} {a:Act} (g:gb n e a) {s:Nat} {v:YB} (hv:cJ e s=some v) (w:YB) (hw:w=v):gb n (dO n e (some s) w) a:=by
 subst hw;refine ⟨g.size,g.defers,fun t u hu=>?_⟩;simp only [dO] at hu;cases hb:Nat.blt s n with
 | true =>
  rw [hb] at hu;simp only [cond_true,dl] at hu
  by_cases hs:s=t
  ·subst hs; rw [WC rfl] at hu; simp at hu; subst hu; exact g.get s w hv
  ·rw [Ww hs] at hu; exact g.get t u hu
 | false=>rw [hb] at hu; exact g.get t u hu
section trees
variable {L:Lp} {K:YB->Hp->Prop} {h:Hp}
theorem br {e:Env} {x:Operand} {k:YB->T} (ht:bQ e x k L K h):∃ v,ev e x=some v/\k v L K h:=by
 unfold bQ at ht;cases hx:ev e x with
 | none=>rw [hx] at ht; exact ht.elim
 | some v=>rw [hx] at ht; exact ⟨v,rfl,ht⟩
theorem hQ {e:Env}:∀ {xs:List Operand} {k:List YB->T},gQ e xs k L K h->∃ vs,xs.map (ev e)=vs.map some/\k vs L K h
 | [],k,ht=>⟨[],rfl,ht⟩
 | x::xs,k,ht=>by
  obtain ⟨v,hv,ht⟩:=br ht;obtain ⟨vs,dU,ht⟩:=hQ ht;exact ⟨v::vs,by simp [hv,dU],ht⟩
theorem gb.OL {n:Nd} {e:Env} {a:Act} (g:gb n e a):∀ {xs:List Operand} {vs:List YB},xs.map (Sx.ev e)=vs.map some->xs.map a.eval=vs
 | [],[],_=>rfl
 | x::xs,v::vs,hh=>by
  simp only [List.map_cons,List.cons.injEq] at hh;simp only [List.map_cons,g.ev hh.1,g.OL hh.2]
 | [],v::vs,hh=>by simp at hh
 | x::xs,[],hh=>by simp at hh
theorem fE {p:Option YC} {k:YC->T} (ht:T.bd p k L K h):∃ a,p=some a/\k a L K h:=by
 cases p with
 | none=>exact ht.elim
 | some a=>exact ⟨a,rfl,ht⟩
theorem fy {b:Bool} {t u:T} (ht:(cond b t u) L K h):(b=true/\t L K h)\/(b=false/\u L K h):=by
 cases b
 ·exact .inr ⟨rfl,ht⟩
 ·exact .inl ⟨rfl,ht⟩
end trees
section ops
variable {P:Program} {L:Lp} {K:YB->Hp->Prop} {h:Hp}
theorem rZ {s:Sem YB} {R:YB->Hp->Prop}:aP P (do pure (Next.value (<- s))) h (BH P R)=aP P s h R:=by
 rw [ar]; rfl
theorem U5 {s:Sem Unit} {R:YB->Hp->Prop}:aP P (do s; pure Next.skip) h (BH P R)=aP P s h (fun _ h'=>R undef h'):=by
 rw [ar]; rfl
theorem mK {s:Sem YB} {tup:Bool} {cs:List fx} {kk:YB->T} (ht:T.dW P s tup cs (jh _ fun l=>kk (rv tup cs l)) L K h) :
  aP P s h (fun v h'=>kk v L K h'):=by
 refine dE _ _ _ _ ?_ ht;rintro v h' ⟨x,rfl,hx⟩;rw [dr] at hx;exact hx
theorem kI {s:Sem YB} {el:TypeId} {kk:YB->T} (ht:T.dW P s false [(false,[.slice el])] (fun p l c=>kk (.slice p l c)) L K h) :
  aP P s h (fun v h'=>kk v L K h'):=by
 refine dE _ _ _ _ ?_ ht;rintro v h' ⟨x,rfl,hx⟩;exact hx
theorem O9 {s:Sem YB} {kk:YB->T} (ht:T.dW P s false [(false,[.bool])] (fun b=>kk (.bool b)) L K h):aP P s h (fun v h'=>kk v L K h'):=by
 refine dE _ _ _ _ ?_ ht;rintro v h' ⟨x,rfl,hx⟩;exact hx
theorem CJ {s:Sem YB} {kk:YB->T} (ht:T.dW P s false [(false,[.int .i64])] (fun b=>kk (.int .i64 b)) L K h):aP P s h (fun v h'=>kk v L K h'):=by
 refine dE _ _ _ _ ?_ ht;rintro v h' ⟨x,rfl,hx⟩;exact hx
theorem Qh {s:Sem YB} {kk:YB->T} (ht:T.dW P s false [(false,[.string])] (fun b=>kk (.string b)) L K h):aP P s h (fun v h'=>kk v L K h'):=by
 refine dE _ _ _ _ ?_ ht;rintro v h' ⟨x,rfl,hx⟩;exact hx
theorem Py {s:Sem YB} {a b:TypeId} {kk:YB->T} (ht:T.dW P s false [(false,[.map a b])] (fun b=>kk (.map b)) L K h):aP P s h (fun v h'=>kk v L K h'):=by
 refine dE _ _ _ _ ?_ ht;rintro v h' ⟨x,rfl,hx⟩;exact hx
theorem Ql {s:Sem YB} {a:TypeId} {kk:YB->T} (ht:T.dW P s false [(false,[.pointer a])] (fun b=>kk (.pointer b)) L K h):aP P s h (fun v h'=>kk v L K h'):=by
 refine dE _ _ _ _ ?_ ht;rintro v h' ⟨x,rfl,hx⟩;exact hx
theorem OV {s:Sem YB} {kk:T} (ht:T.dW P s true [] kk L K h):aP P s h (fun v h'=>v=.tuple #[]/\kk L K h'):=by
 refine dE _ _ _ _ ?_ ht;rintro v h' ⟨x,rfl,hx⟩;exact ⟨rfl,hx⟩
theorem Qa {op : BinOp} {k : IntKind} {m n : Int} {kk : YB -> T} (hs : mh op = false) (t : TypeId) (ht : G6 op k m n kk L K h) :
    aP P (binOp op t (.int k m) (.int k n)) h (fun v h' => kk v L K h') := by
  cases op <;> simp only [mh, Bool.true_eq_false] at hs <;> simp only [G6] at ht <;>
    first
    | exact ht.elim
    | (simp only [binOp, Op.intArith, Op.intDiv, Op.intBits, Op.intCmp, ne_eq, not_true_eq_false, if_false]; exact ht)
    | (obtain ⟨h0, ht⟩ := ht
       simp only [binOp, Op.intDiv, ne_eq, not_true_eq_false, if_false, if_neg h0]; exact ht)
theorem JD {op:BinOp} {k k':IntKind} {m n:Int} {kk:YB->T} (hs:mh op=true) (t:TypeId) (ht:zu op k m n kk L K h) :
  aP P (binOp op t (.int k m) (.int k' n)) h (fun v h'=>kk v L K h'):=by
 cases op <;> simp only [mh,Bool.false_eq_true] at hs <;> simp only [zu] at ht <;> obtain ⟨h0,ht⟩:=ht <;>
  simp only [binOp,Op.shift,if_neg (Int.not_lt.2 h0)] <;> exact ht
theorem Qn {op : BinOp} {m n : YA} {kk : YB -> T} (t : TypeId) (ht : GR op m n kk L K h) :
    aP P (binOp op t (.string m) (.string n)) h (fun v h' => kk v L K h') := by
  cases op <;> simp only [GR] at ht <;>
    first
    | exact ht.elim
    | (simp only [binOp, Op.stringOp]; exact ht)
    | (obtain ⟨h0, ht⟩ := ht
       simp only [binOp, Op.stringOp, if_neg (Int.not_lt.2 h0)]; exact ht)
def AN:YB->Bool
 | .nilIface=>false
 | .agg _=>false
 | _=>true
theorem fQ {op:BinOp} {t:TypeId} {x y:Operand} {a b:YB} (ha:AN a=true) {R:YB->Hp->Prop} :
  aP P (do eqGuard op t x y a b; binOp op t a b) h R=aP P (binOp op t a b) h R:=by
 rw [ar]
 have:∀ K:Unit->Hp->Prop,aP P (eqGuard op t x y a b) h K=K () h:=by
  intro K;cases op <;> first | rfl | (cases a <;> first | (simp [AN] at ha; done) | rfl)
 rw [this]
theorem GO {t:TypeId} (hd:P.underlying t=some .bool) (m n:Bool) (R:Bool->Hp->Prop):aP P (Op.equal t (.bool m) (.bool n)) h R=R (m==n) h:=by
 show aP P (Op.equalIn (9999+1) t (.bool m) (.bool n)) h R=_;unfold Op.equalIn;rw [ar,aC hd]; rfl
theorem Ax {t e:TypeId} (hd:P.underlying t=some (.pointer e)) (p:Option YC) (R:Bool->Hp->Prop):aP P (Op.equal t (.pointer p) (.pointer none)) h R=R p.isNone h:=by
 show aP P (Op.equalIn (9999+1) t (.pointer p) (.pointer none)) h R=_;unfold Op.equalIn;rw [ar,aC hd]; cases p <;> rfl
theorem yb {t e:TypeId} (hd:P.underlying t=some (.slice e)) (p:Option YC) (l c:Nat) (R:Bool->Hp->Prop):aP P (Op.equal t (.slice p l c) (.slice none 0 0)) h R=R p.isNone h:=by
 show aP P (Op.equalIn (9999+1) t (.slice p l c) (.slice none 0 0)) h R=_;unfold Op.equalIn;rw [ar,aC hd]; cases p <;> rfl
theorem AG {t a b:TypeId} (hd:P.underlying t=some (.map a b)) (p:Option Nat) (R:Bool->Hp->Prop):aP P (Op.equal t (.map p) (.map none)) h R=R p.isNone h:=by
 show aP P (Op.equalIn (9999+1) t (.map p) (.map none)) h R=_;unfold Op.equalIn;rw [ar,aC hd]; cases p <;> rfl
theorem uq {op:BinOp} {t:TypeId} {a b:YB} {r:Bool} {kk:YB->T}
  (hq:∀ R:Bool->Hp->Prop,aP P (Op.equal t a b) h R=R r h)
  (h1:binOp .eql t a b=(do pure (.bool (<- Op.equal t a b)))) (h2:binOp .neq t a b=(do pure (.bool (!(<- Op.equal t a b)))))
  (ht:asked op r kk T.fail L K h):aP P (binOp op t a b) h (fun v h'=>kk v L K h'):=by
 cases op <;> simp only [asked] at ht <;> first
  | exact ht.elim
  | (rw [h1,ar,hq]; exact ht)
  | (rw [h2,ar,hq]; exact ht)
theorem OT {op:BinOp} {t:TypeId} {x y:Operand} {a b:YB} {kk:YB->T} (ht:P' P op t x y a b kk L K h) :
  aP P (do eqGuard op t x y a b; binOp op t a b) h (fun v h'=>kk v L K h'):=O9 ht
theorem OE {e:Env} {op:BinOp} {t:TypeId} {x y:Operand} {a b:YB} {kk:YB->T} (hy:ev e y=some b)
  (ht:C5 P op t x y a b kk L K h):aP P (do eqGuard op t x y a b; binOp op t a b) h (fun v h'=>kk v L K h'):=by
 have hnil:∀ q,b=.pointer q->isNil y=true->q=none:=by
  intro q hq hn;cases y <;> simp only [isNil,Bool.false_eq_true] at hn;rename_i c;simp only [Sx.ev,Option.some.injEq] at hy;subst hy; subst hq;cases q with
  | none=>rfl
  | some a=>simp [isNil] at hn
 have hnilS:∀ q l c,b=.slice q l c->isNil y=true->q=none/\l=0/\c=0:=by
  intro q l c hq hn;cases y <;> simp only [isNil,Bool.false_eq_true] at hn;rename_i c;simp only [Sx.ev,Option.some.injEq] at hy;subst hy; subst hq;cases q with
  | none =>
   cases l <;> cases c <;> simp [isNil] at hn <;> exact ⟨rfl,rfl,rfl⟩
  | some a=>simp [isNil] at hn
 have hnilM:∀ q,b=.map q->isNil y=true->q=none:=by
  intro q hq hn;cases y <;> simp only [isNil,Bool.false_eq_true] at hn;rename_i c;simp only [Sx.ev,Option.some.injEq] at hy;subst hy; subst hq;cases q with
  | none=>rfl
  | some a=>simp [isNil] at hn
 unfold C5 at ht;cases hpt:qU P t x y with
 | false=>simp only [hpt] at ht; exact OT ht
 | true =>
 simp only [hpt] at ht;unfold sE at ht;split at ht
 ·rename_i k m k' n;rw [fQ rfl];cases hs:mh op with
  | true=>simp only [hs] at ht; exact JD hs t ht
  | false =>
   simp only [hs] at ht
   by_cases hk:k=k'
   ·subst hk;simp only [decide_true] at ht;exact Qa hs t ht
   ·simp only [hk,decide_false] at ht;exact ht.elim
 ·rw [fQ rfl]; exact Qn t ht
 ·rename_i m n;rw [fQ rfl];cases hd:P.underlying t with
  | none=>simp only [hd] at ht; exact ht.elim
  | some d =>
   cases d <;> simp only [hd] at ht <;> first
    | exact ht.elim
    | exact uq (fun R=>GO hd m n R) rfl rfl ht
 ·rename_i p q;cases hd:P.underlying t with
  | none=>simp only [hd] at ht; exact ht.elim
  | some d =>
   cases d <;> simp only [hd] at ht <;> first
    | exact ht.elim
    | skip
   have hn:isNil y=true:=by simpa [qU,hd] using hpt
   obtain rfl:=hnil q rfl hn;rw [fQ rfl]; exact uq (fun R=>Ax hd p R) rfl rfl ht
 ·rename_i p l c q l' c';cases hd:P.underlying t with
  | none=>simp only [hd] at ht; exact ht.elim
  | some d =>
   cases d <;> simp only [hd] at ht <;> first
    | exact ht.elim
    | skip
   have hn:isNil y=true:=by simpa [qU,hd] using hpt
   obtain ⟨rfl,rfl,rfl⟩:=hnilS q _ _ rfl hn;rw [fQ rfl]; exact uq (fun R=>yb hd p l c R) rfl rfl ht
 ·rename_i p q;cases hd:P.underlying t with
  | none=>simp only [hd] at ht; exact ht.elim
  | some d =>
   cases d <;> simp only [hd] at ht <;> first
    | exact ht.elim
    | skip
   have hn:isNil y=true:=by simpa [qU,hd] using hpt
   obtain rfl:=hnilM q rfl hn;rw [fQ rfl]; exact uq (fun R=>AG hd p R) rfl rfl ht
 ·exact ht.elim
theorem RZ {op:UnOp} {a:YB} {kk:YB->T} (ht:S7 op a kk L K h):aP P (Op.unary op a) h (fun v h'=>kk v L K h'):=by
 unfold S7 at ht;split at ht
 ·exact ht
 ·exact ht
 ·exact ht
 ·exact ht.elim
theorem KP {s d:TypeId} {a:YB} {kk:YB->T} (ht:xo P s d a kk L K h):aP P (convert s d a) h (fun v h'=>kk v L K h'):=by
 unfold xo at ht;generalize hs:P.underlying s=us at ht;generalize hd:P.underlying d=ud at ht;split at ht
 ·unfold convert;rw [ar,aC hs,ar,aC hd];exact ht
 ·unfold convert;rw [ar,aC hs,ar,aC hd];exact ht
 ·exact ht.elim
 ·exact kI ht
 ·exact Qh ht
 ·exact ht.elim
theorem dA (y:Nat) (code:BoundsCode) {v:YB} {k:IntKind} {i:Int} (hv:v=.int k i) (h0:0<=i) (h1:i<=y) (R:Nat->Hp->Prop) :
  aP P (Instr.sliceBound v y code) h R=R i.toNat h:=by
 subst hv;unfold Instr.sliceBound;rw [ar];show aP P (if 0<=i/\i<=↑y then pure i.toNat else boundsPanic k i ↑y code) h R=_;rw [WC ⟨h0,h1⟩]; rfl
theorem qM {v:YB} (hv:ef (some v)=true):∃ k i,v=.int k i:=by
 cases v <;> simp only [ef,Bool.false_eq_true] at hv;exact ⟨_,_,rfl⟩
theorem nL (isSlice:Bool) (len cap:Nat) {lo hi:Option YB} (il:ef lo=true) (ih:ef hi=true)
  (h0:0<=jR lo) (h1:jR lo<=j1 len hi) (h2:j1 len hi<=cap) (R:Nat × Nat × Nat->Hp->Prop) :
  aP P (Instr.sliceBounds isSlice len cap lo hi none) h R=R ((jR lo).toNat,(j1 len hi).toNat,cap) h:=by
 unfold Instr.sliceBounds;cases hi with
 | none =>
  cases lo with
  | none=>rfl
  | some v =>
   obtain ⟨k,i,rfl⟩:=qM il;have h0':0<=i:=h0;have h1':i<=len:=h1;show aP P (Instr.sliceBound (.int k i) len _ >>= fun l=>pure (l,len,cap)) h R=_;rw [ar,dA len _ rfl h0' h1']; rfl
 | some u =>
  obtain ⟨ku,iu,rfl⟩:=qM ih;have hu0:(0:Int)<=iu:=Int.le_trans h0 h1;cases lo with
  | none =>
   show aP P (Instr.sliceBound (.int ku iu) cap _ >>= fun hh=>pure (0,hh,cap)) h R=_;have h2':iu<=cap:=h2;rw [ar,dA cap _ rfl hu0 h2']; rfl
  | some v =>
   obtain ⟨k,i,rfl⟩:=qM il;show aP P (Instr.sliceBound (.int ku iu) cap _ >>= fun hh=>Instr.sliceBound (.int k i) hh _ >>= fun l=>pure (l,hh,cap)) h R=_;have h0':0<=i:=h0;have h1':i<=iu:=h1;have h2':iu<=cap:=h2;rw [ar,dA cap _ rfl hu0 h2',ar,dA _ _ rfl h0' (by rw [Int.toNat_of_nonneg hu0]; exact h1')]; rfl
theorem Jn {t:TypeId} {a:YB} {lo hi mx:Option YB} {kk:YB->T} (ht:iH P t a lo hi mx kk L K h) :
  aP P (Instr.sliceAt t a lo hi mx) h (fun v h'=>kk v L K h'):=by
 unfold iH at ht;cases hint:ef lo && ef hi && ef mx with
 | false=>simp only [hint] at ht; exact ht.elim
 | true =>
  simp only [hint] at ht;simp only [Bool.and_eq_true] at hint;obtain ⟨⟨il,ih⟩,im⟩:=hint;cases hd:P.underlying t with
  | none=>simp only [hd] at ht; exact kI ht
  | some d =>
   cases d <;> simp only [hd] at ht <;> first | exact kI ht | skip
   case string =>
    cases mx with
    | some m=>cases a <;> exact ht.elim
    | none =>
    cases a <;> first | exact ht.elim | skip
    rename_i s;obtain ⟨⟨h0,h1,h2⟩,ht⟩:=ht;unfold Instr.sliceAt;rw [ar,aC hd];show aP P (Instr.slice t (.string s) lo hi none) h _;unfold Instr.slice;rw [ar,aC hd];show aP P (Instr.sliceBounds false s.size s.size lo hi none >>= fun x=>(pure (Value.string (s.extract x.1 x.2.1)):Sem YB)) h _;rw [ar,nL false _ _ il ih h0 h1 h2];exact ht
   case slice el =>
    cases mx with
    | some m=>exact kI ht
    | none =>
    cases a <;> first | exact ht.elim | skip
    rename_i p len cap;simp only at ht;cases hT:mM P el with
    | false=>simp only [hT] at ht; exact ht.elim
    | true =>
     simp only [hT] at ht;obtain ⟨⟨h0,h1,h2⟩,ht⟩:=ht;obtain ⟨i,hi'⟩:=Xn.1 hT;unfold Instr.sliceAt;rw [ar,aC hd];show aP P (Instr.slice t (.slice p len cap) lo hi none) h _;unfold Instr.slice;rw [ar,aC hd];show aP P (Instr.sliceBounds true len cap lo hi none >>= fun x=>sizeOf el >>= fun size=>(pure (Value.slice (if x.2.2=x.1 then p else p.map (·.add (x.1*size))) (x.2.1-x.1) (x.2.2-x.1)):Sem YB)) h _;rw [ar,nL true _ _ il ih h0 h1 h2,ar,bJ hi'];exact ht
theorem K2 {t:TypeId} {cs:Array YB} {off:Nat} {kk:YB->T} (ht:sI P t cs.toList off kk L K h) :
  aP P (part t cs off) h (fun v h'=>kk v L K h'):=by
 have hx:∀ n,((cs.toList.drop off).take n).toArray=cs.extract off (off+n):=by
  intro n;apply W6.1;simp [Array.toList_extract,List.extract_eq_drop_take]
 unfold sI at ht;generalize hd:P.underlying t=ud at ht;split at ht
 ·obtain ⟨i,hi⟩:=info_of_underlying hd;unfold part;rw [ar,jd (b:=true) (by simp [cw,hd])];show aP P (sizeOf t >>= fun n=>(pure (Value.agg (cs.extract off (off+n))):Sem YB)) h _;rw [ar,bJ hi,<- hx];exact ht
 ·obtain ⟨i,hi⟩:=info_of_underlying hd;unfold part;rw [ar,jd (b:=true) (by simp [cw,hd])];show aP P (sizeOf t >>= fun n=>(pure (Value.agg (cs.extract off (off+n))):Sem YB)) h _;rw [ar,bJ hi,<- hx];exact ht
 ·rename_i d hns hna;unfold part;rw [ar,jd (b:=false) (by simp only [cw,hd])];show aP P (match cs[off]? with | some v => pure v | none => stuck "part: no such cell") h _
  rw [<- XF];cases hv:cs.toList[off]? with
  | none=>simp only [hv] at ht; exact ht.elim
  | some v=>simp only [hv] at ht; exact ht
 ·exact ht.elim
theorem tV {f:FuncId} (hb:fA P f=true) (args:Array YB) (R:Next->Hp->Prop):aP P (callFunc f args) h R=R (.enter f args) h:=by
 unfold fA at hb;unfold callFunc;rw [eW];cases hf:P.funcs[f]? with
 | none=>rw [hf] at hb; simp at hb
 | some fn =>
  rw [hf] at hb;simp only [Bool.and_eq_true,Bool.not_eq_true'] at hb;obtain ⟨h1,h2⟩:=hb;have h3:fn.body.isNone=false:=by cases hbd:fn.body <;> simp_all
  simp only [h2,h3]; rfl
theorem NY {f:FuncId} {args:List YB} {t:TypeId} {kk:YB->T} (ht:Bz P f args t kk L K h) :
  aP P (callFunc f args.toArray) h (BH P fun v h'=>kk v L K h'):=by
 unfold Bz at ht;cases hb:fA P f with
 | false =>
  simp only [hb] at ht
  have:=mK ht
  unfold FO at this;rw [ar] at this;refine dE _ _ _ _ ?_ this;intro x h' hx;cases x <;> first | exact hx | exact hx.elim
 | true =>
  simp only [hb] at ht;rw [tV hb];refine HC.mono ht ?_;rintro v h' ⟨x,rfl,hx⟩;rw [dr] at hx;exact hx
theorem P3 {c:Call} {t:TypeId} {args:List YB} {kk:YB->T} (ht:zd P c t args kk L K h) :
  aP P (Builtin.len_ c.argTypes t args.toArray) h (fun v h'=>kk v L K h'):=by
 unfold zd at ht;cases hd:(c.argTypes[0]?).bind P.underlying with
 | none=>simp only [hd] at ht; exact CJ ht
 | some d =>
  obtain ⟨t0,ht0,hd'⟩:=Wq.1 hd;cases d <;> simp only [hd] at ht <;> first | exact CJ ht | skip
  case string =>
   split at ht
   ·unfold Builtin.len_;simp only [ht0];show aP P (underlying t0 >>= _) h _;rw [ar,aC hd'];exact ht
   ·exact ht.elim
  case slice el =>
   split at ht
   ·unfold Builtin.len_;simp only [ht0];show aP P (underlying t0 >>= _) h _;rw [ar,aC hd'];exact ht
   ·exact ht.elim
theorem Qj {c:Call} {t:TypeId} {args:List YB} {kk:YB->T} (ht:Jg P c args kk L K h) :
  aP P (Builtin.cap_ c.argTypes t args.toArray) h (fun v h'=>kk v L K h'):=by
 unfold Jg at ht;cases hd:(c.argTypes[0]?).bind P.underlying with
 | none=>simp only [hd] at ht; exact ht.elim
 | some d =>
  obtain ⟨t0,ht0,hd'⟩:=Wq.1 hd;cases d <;> simp only [hd] at ht <;> first | exact ht.elim | skip
  split at ht
  ·unfold Builtin.cap_;simp only [ht0];show aP P (underlying t0 >>= _) h _;rw [ar,aC hd'];exact ht
  ·exact ht.elim
inductive kp:List (Nat × YB)->List (Nat × List YB)->Prop
 | nil:kp [] []
 | cons {i:Nat} {v:YB} {l:List YB} {ps:List (Nat × YB)} {r:List (Nat × List YB)} (h:v.cells.toList=l) (t:kp ps r):kp ((i,v)::ps) ((i,l)::r)
theorem IE {v:YB} (h:eR v=true):v.cells.toList=ji v:=by
 cases v <;> first | rfl | (simp [eR] at h)
theorem xj {v:YB} (h:eR v=false):v.cells.toList=[v]:=by
 cases v <;> first | rfl | (simp [eR] at h)
theorem rS {agg:Nat->Option Bool}:∀ {ps:List (Nat × YB)} {k:List (Nat × List YB)->T},eX agg ps k L K h->∃ r,kp ps r/\k r L K h
 | [],k,ht=>⟨[],.nil,ht⟩
 | (i,v)::l,k,ht=>by
  simp only [eX] at ht;cases ha:agg i with
  | none=>rw [ha] at ht; exact ht.elim
  | some b =>
   rw [ha] at ht;cases b with
   | true =>
    rcases fy ht with ⟨hv,ht⟩ | ⟨_,ht⟩
    ·obtain ⟨r,hr,hk⟩:=rS ht;exact ⟨_,.cons (IE hv) hr,hk⟩
    ·exact ht.elim
   | false =>
    rcases fy ht with ⟨_,ht⟩ | ⟨hv,ht⟩
    ·exact ht.elim
    ·obtain ⟨r,hr,hk⟩:=rS ht;exact ⟨_,.cons (xj hv) hr,hk⟩
theorem zx:∀ (l:List YB) (off k:Nat) (cs:Array YB),((l.zipIdx k).foldl (fun (cs:Array YB) (x:YB × Nat)=>cs.setIfInBounds (off+x.2) x.1) cs)=(rY cs.toList (off+k) l).toArray
 | [],off,k,cs=>by simp [rY]
 | v::l,off,k,cs=>by
  rw [List.zipIdx_cons,Xk,zx l off (k+1)];simp only [rY,Array.toList_setIfInBounds] <;> rfl
theorem B3 {place:Nat->Option (Nat × Nat)} {ps:List (Nat × YB)} {r:List (Nat × List YB)} (hc:kp ps r):∀ {c cs:List YB},fh place c r=some cs->Instr.fill place c.toArray ps=some cs.toArray:=by
 induction hc with
 | nil=>intro c cs h; simp [fh] at h; subst h; rfl
 | @cons i v l ps r hv _ ih =>
  intro c cs h;unfold fh at h;unfold Instr.fill;split at h
  ·cases h
  ·rename_i off size hp;rw [hp];simp only;have hs:v.cells.size=l.length:=by rw [<- hv,Xs]
   cases hb:!(Nat.beq l.length size) || Nat.blt c.length (off+l.length) with
   | true=>rw [hb] at h; cases h
   | false =>
    rw [hb] at h;simp only [Bool.or_eq_false_iff,Bool.not_eq_false'] at hb;have h1:l.length=size:=WD hb.1;have h2:¬ c.length<off+l.length:=fun hlt=>by
     have:=Nat.ble_eq_true_of_le hlt
     rw [show Nat.blt c.length (off+l.length)=Nat.ble (c.length+1) (off+l.length) from rfl,this] at hb;exact absurd hb.2 aj
    rw [Ww (by simp [hs,h1]; omega)];have e:v.cells.zipIdx.foldl (fun cs (x:YB × Nat)=>cs.setIfInBounds (off+x.2) x.1) c.toArray=(rY c off l).toArray:=by
     rw [<- Array.foldl_toList,Array.toList_zipIdx,hv];exact zx l off 0 c.toArray
    have:=ih h
    rw [<- e] at this;exact this
theorem Du {b:Builtin} {c:Call} {t:TypeId} {args:List YB} {consts:Array Bool} {kk:YB->T} (ht:qy P b c t args kk L K h) :
  aP P (builtin b c.argTypes t consts args.toArray) h (BH P fun v h'=>kk v L K h'):=by
 unfold qy at ht;split at ht
 ·show aP P (do pure (Next.value (<- Builtin.len_ c.argTypes t args.toArray))) h _;rw [rZ]; exact P3 ht
 ·show aP P (do pure (Next.value (<- Builtin.cap_ c.argTypes t args.toArray))) h _;rw [rZ]; exact Qj ht
 ·show aP P (do pure (Next.value (<- Builtin.append_ c.argTypes t args.toArray))) h _;rw [rZ]; exact kI ht
 ·show aP P (do pure (Next.value (<- Builtin.copy_ c.argTypes t args.toArray))) h _;rw [rZ]; exact CJ ht
 ·show aP P (do pure (Next.value (<- Builtin.min_ c.argTypes t args.toArray))) h _;rw [rZ]; exact mK ht
 ·show aP P (do pure (Next.value (<- Builtin.max_ c.argTypes t args.toArray))) h _;rw [rZ]; exact mK ht
 ·show aP P (do pure (Next.value (<- Builtin.delete_ c.argTypes t args.toArray))) h _;rw [rZ];exact dE _ _ _ _ (fun v h' ⟨e,hk⟩=>by subst e; exact hk) (OV ht)
 ·show aP P (do pure (Next.value (<- Builtin.unsafeString_ c.argTypes t args.toArray))) h _;rw [rZ]; exact mK ht
 ·show aP P (do pure (Next.value (<- Builtin.unsafeSliceData_ c.argTypes t args.toArray))) h _;rw [rZ]; exact mK ht
 ·exact ht.elim
theorem Ly {vs:List YB} {e:TypeId} {kk:YB->T} (ht:T.new vs e (fun a=>kk (.pointer (some a))) L K h) {cs:Array YB} (hv:cs=vs.toArray) :
  aP P (do pure (Value.pointer (some (<- newRow e cs)))) h (fun v h'=>kk v L K h'):=by
 subst hv;exact ht
theorem BN {n:Nat} {t:TypeId} {p:Option YC} {kk:YC->List YB->YB->T} {b:Bool} (hb:cw P t=some b)
  (ht:(match b with
   | true=>(bif (eO P 9 t).length==P.cellsOf t then T.bd p fun a=>T.ah a (eO P 9 t) (jh _ fun l=>kk a l (.agg l.toArray)) else T.fail)
   | false=>T.bd p fun a=>T.ah a (cy P t).2 (jh _ fun l=>kk a l (l.headD undef))) L K h) :
  ∃ a l v,p=some a/\aG h a 0 l/\kk a l v L K h/\∀ h' (R:YB->Hp->Prop),aG h' a 0 l->R v h'->aP P (Instr.loadAt t (.pointer p)) h' R:=by
 obtain ⟨i,hi⟩:=sy hb;cases b with
 | true =>
  simp only at ht;cases hl:(eO P 9 t).length==P.cellsOf t with
  | false=>rw [hl] at ht; exact ht.elim
  | true =>
   rw [hl] at ht;have hl':(eO P 9 t).length=P.cellsOf t:=by simpa using hl
   obtain ⟨a,rfl,ht⟩:=fE ht;obtain ⟨x,hc,ht⟩:=ht;rw [dr] at ht;refine ⟨a,dU _ x,_,rfl,hc,ht,fun h' R hc' hk=>?_⟩;unfold Instr.loadAt;show aP P (loadVar t a) h' R;unfold loadVar;rw [ar,jd hb];show aP P (sizeOf t >>= fun n=>loadCells a n >>= fun cs=>(pure (Value.agg cs):Sem YB)) h' R;rw [ar,bJ hi,ar];exact cU (by rw [tp,hl']) hc' _ hk
 | false =>
  simp only at ht;obtain ⟨a,rfl,ht⟩:=fE ht;obtain ⟨x,hc,ht⟩:=ht;rw [dr] at ht;have h1:∃ d,(cy P t).2=[d]:=by
   unfold cw at hb;unfold cy;cases hd:P.underlying t with
   | none=>rw [hd] at hb; simp at hb
   | some d=>rw [hd] at hb; cases d <;> simp at hb <;> exact ⟨_,rfl⟩
  obtain ⟨d,hd⟩:=h1;refine ⟨a,dU _ x,_,rfl,hc,ht,fun h' R hc' hk=>?_⟩;revert x;rw [hd];intro x hc ht hc' hk;unfold Instr.loadAt;show aP P (loadVar t a) h' R;unfold loadVar;rw [ar,jd hb];have hc0:=hc'.1
  have:a.add 0=a:=by simp [Addr.add]
  rw [this] at hc0;exact ⟨_,hc0,hk⟩
theorem Mt {n : Nd} {e : Env} {a : Act} (g : gb n e a) {t : TypeId} {x : Operand} {kk : YC -> List YB -> YB -> T} (ht : qI P t x e kk L K h) :
    ∃ p l v, ev e x = some (.pointer (some p)) /\ aG h p 0 l /\ kk p l v L K h /\ ∀ h' (R : YB -> Hp -> Prop), aG h' p 0 l -> R v h' -> aP P (Instr.loadAt t (.pointer (some p))) h' R := by
  unfold qI at ht;obtain ⟨v, hv, ht⟩ := br ht;cases hb : cw P t with
  | none => cases v <;> simp only [hb] at ht <;> exact ht.elim
  | some b =>
    cases v <;> first
      | (cases b <;> simp only [hb] at ht <;> exact ht.elim)
      | (rename_i p
         have ht' : (match b with
            | true => (bif (eO P 9 t).length == P.cellsOf t then T.bd p fun a => T.ah a (eO P 9 t) (jh _ fun l => kk a l (.agg l.toArray)) else T.fail)
            | false => T.bd p fun a => T.ah a (cy P t).2 (jh _ fun l => kk a l (l.headD undef))) L K h := by
            cases b <;> simp only [hb] at ht <;> exact ht
         obtain ⟨q, l, v, rfl, hc, hk, hall⟩ := BN (n := n) hb ht';exact ⟨q, l, v, hv, hc, hk, hall⟩)
theorem G2 {n : Nd} {o : Oper} {e : Env} {a : Act} (g : gb n e a) {kk : YB -> T} (ht : tR P o e kk L K h) :
    U3 P o a.eval h (fun v h' => kk v L K h') := by
  obtain ⟨dst, op, type, pos, after, guard⟩ := o;unfold U3;cases op <;> simp only [tR] at ht <;> unfold execOp <;> simp only
  case move x => obtain ⟨v, hv, ht⟩ := br ht; rw [g.ev hv]; exact ht
  case assign x => obtain ⟨v, hv, ht⟩ := br ht; rw [g.ev hv]; exact ht
  case pick c x y =>
    obtain ⟨v, hv, ht⟩ := br ht;rw [g.ev hv]
    cases v <;> simp only at ht <;> first
      | exact ht.elim
      | (rename_i b
         rw [ar];show aP P (pure b) h _;cases b
         · obtain ⟨w, hw, ht⟩ := br (show bQ e y kk L K h from ht); rw [g.ev hw]; exact ht
         · obtain ⟨w, hw, ht⟩ := br (show bQ e x kk L K h from ht); rw [g.ev hw]; exact ht)
  case alloc t =>
    cases hz : (P.info? t).bind (·.zero) with
    | none => simp only [hz] at ht; exact ht.elim
    | some z =>
      simp only [hz] at ht;rw [rZ];unfold Instr.alloc;rw [ar, cT hz];exact Ly ht aj
  case box t x =>
    obtain ⟨v, hv, ht⟩ := br ht;rw [g.ev hv, rZ];unfold Instr.box newVar;cases hb : cw P t with
    | none => simp only [hb] at ht; exact ht.elim
    | some b =>
      cases b <;> simp only [hb] at ht <;> rcases fy ht with ⟨hv, ht⟩ | ⟨hv, ht⟩ <;> first
        | exact ht.elim
        | (refine Ly ht ?_
           cases v <;> first | (simp [eR] at hv; done) | simp [Value.cells, ji])
  case build t ps =>
    obtain ⟨vs, dU, ht⟩ := hQ ht;have dU := g.OL dU
    have hps : (ps.map fun x => (x.1, a.eval x.2)).toList = (ps.toList.map (·.1)).zip vs := by
      rw [<- dU];simp only [Array.toList_map];generalize ps.toList = l
      induction l with
      | nil => rfl
      | cons p l ih => simp [ih]
    rw [rZ];unfold Instr.build;rw [ar];cases hz : (P.info? t).bind (·.zero) with
    | none =>
      generalize P.underlying t = ud at ht;cases ud with
      | none => simp only [hz] at ht; exact ht.elim
      | some d => cases d <;> simp only [hz] at ht <;> exact ht.elim
    | some z =>
      rw [cT hz];show aP P (underlying t >>= _) h _;cases hd : P.underlying t with
      | none => simp only [hd] at ht; exact ht.elim
      | some d =>
        rw [ar, aC hd];cases d <;> simp only [hd, hz] at ht <;> first | exact ht.elim | skip
        case array len el =>
          rcases fy ht with ⟨_, ht⟩ | ⟨hT, ht⟩
          · exact ht.elim
          · have hT : mM P el = true := by simpa using hT
            obtain ⟨i, hi⟩ := Xn.1 hT;simp only;rw [ar, bJ hi];have hps' : (Array.map (fun x => (x.1, a.eval x.2)) ps).toList = (ps.toList.map (·.1)).zip vs := hps;obtain ⟨ls, hls, ht⟩ := rS ht;cases hf : fh (fun i => some (i * P.cellsOf el, P.cellsOf el)) z.cells.toList ls with
            | none => simp only [hf] at ht; exact ht.elim
            | some cs =>
              simp only [hf] at ht;rw [hps', B3 hls hf];exact ht
        case struct fs =>
          rcases fy ht with ⟨_, ht⟩ | ⟨hT, ht⟩
          · exact ht.elim
          · have hT : (fs.all fun f => mM P f.type) = true := by simpa using hT
            simp only;rw [ar]
            have hm : ∀ R : Array (Nat × Nat) -> Hp -> Prop, aP P (fs.mapM fun f => do pure (f.offset, <- sizeOf f.type)) h R = R (fs.map fun f => (f.offset, P.cellsOf f.type)) h := by
              intro R;rw [Array.mapM_eq_mapM_toList]
              have hT' : ∀ f ∈ fs.toList, mM P f.type = true := by
                intro f hf; exact (Array.all_eq_true_iff_forall_mem.1 hT) f (by simpa using hf)
              have : ∀ (l : List Field) (R : List (Nat × Nat) -> Hp -> Prop), (∀ f ∈ l, mM P f.type = true) ->
                  aP P (l.mapM fun f => (do pure (f.offset, <- sizeOf f.type) : Sem (Nat × Nat))) h R = R (l.map fun f => (f.offset, P.cellsOf f.type)) h := by
                intro l
                induction l with
                | nil => intro R _; rfl
                | cons f l ih =>
                  intro R hl;obtain ⟨i, hi⟩ := Xn.1 (hl f aj);rw [List.mapM_cons, ar, ar, bJ hi];show aP P ((l.mapM fun f => (do pure (f.offset, <- sizeOf f.type) : Sem (Nat × Nat))) >>= _) h R = _;rw [ar, ih _ (fun f hf => hl f (by simp [hf]))] <;> rfl
              show aP P (List.toArray <$> _) h R = _;rw [map_eq_pure_bind, ar, this _ _ hT'];show R (List.toArray _) h = _
              congr 1
              apply W6.1
              simp
            rw [hm];obtain ⟨ls, hls, ht⟩ := rS ht;cases hf : fh (fun i => (fs.map fun f => (f.offset, P.cellsOf f.type))[i]?) z.cells.toList ls with
            | none => simp only [hf] at ht; exact ht.elim
            | some cs =>
              simp only [hf] at ht;have hps' : (Array.map (fun x => (x.1, a.eval x.2)) ps).toList = (ps.toList.map (·.1)).zip vs := hps;rw [hps', B3 hls hf];exact ht
  case buildSlice t len ps =>
    obtain ⟨vs, dU, ht⟩ := hQ ht;have dU := g.OL dU
    have hps : (ps.map fun x => (x.1, a.eval x.2)) = ((ps.toList.map (·.1)).zip vs).toArray := by
      apply W6.1;rw [<- dU];simp only [Array.toList_map];generalize ps.toList = l
      induction l with
      | nil => rfl
      | cons p l ih => simpa using ih
    rw [rZ];have hps' : (Array.map (fun x => (x.1, a.eval x.2)) ps) = ((ps.toList.map (·.1)).zip vs).toArray := hps;rw [hps'];exact kI ht
  case load t x =>
    have ht' : qI P t x e (fun _ _ v => kk v) L K h := ht;obtain ⟨p, l, v, hv, hc, hk, hall⟩ := Mt g ht';rw [g.ev hv, rZ];exact hall h _ hc hk
  case store t x y =>
    obtain ⟨v, hv, ht⟩ := br ht;obtain ⟨u, hu, ht⟩ := br ht;rw [g.ev hv, g.ev hu, U5];cases hb : cw P t with
    | none => cases v <;> simp only [hb] at ht <;> exact ht.elim
    | some b =>
      obtain ⟨i, hi⟩ := sy hb
      cases v <;> first
        | (cases b <;> simp only [hb] at ht <;> exact ht.elim)
        | skip
      rename_i p;cases b <;> simp only [hb] at ht
      · rcases fy ht with ⟨hl, ht⟩ | ⟨hl, ht⟩
        · rcases fy ht with ⟨hag, ht⟩ | ⟨hag, ht⟩
          · exact ht.elim
          · obtain ⟨q, rfl, ht⟩ := fE ht
            obtain ⟨hc, ht⟩ := ht;unfold Instr.storeAt storeVar;show aP P (sizeOf t >>= _) h _;rw [ar, bJ hi];have hcl : u.cells = #[u] := by cases u <;> first | (simp [eR] at hag; done) | rfl
            have h1 : P.cellsOf t = 1 := by simpa using hl
            rw [hcl, h1];exact ff q [u] h 0 _ hc ht
        · exact ht.elim
      · rcases fy ht with ⟨hag, ht⟩ | ⟨hag, ht⟩
        · rcases fy ht with ⟨hl, ht⟩ | ⟨hl, ht⟩
          · obtain ⟨q, rfl, ht⟩ := fE ht
            obtain ⟨hc, ht⟩ := ht;unfold Instr.storeAt storeVar;show aP P (sizeOf t >>= _) h _;rw [ar, bJ hi];obtain ⟨cs, rfl⟩ : ∃ cs, u = .agg cs := by cases u <;> first | (simp [eR] at hag; done) | exact ⟨_, rfl⟩
            have h1 : cs.size = P.cellsOf t := by simpa [ji] using hl
            show aP P (if cs.size ≠ P.cellsOf t then _ else storeCells q cs.toList 0) h _;rw [Ww (by simp [h1])];exact ff q cs.toList h 0 _ hc ht
          · exact ht.elim
        · exact ht.elim
  case nilCheck x =>
    obtain ⟨v, hv, ht⟩ := br ht;rw [g.ev hv];cases v with
    | pointer p => obtain ⟨q, rfl, ht⟩ := fE ht; exact ht
    | func fn fi ca => cases fn <;> first | exact ht.elim | exact ht
    | iface t w => exact ht
    | _ => exact ht.elim
  case binOp op t x y yt =>
    obtain ⟨v, hv, ht⟩ := br ht;obtain ⟨u, hu, ht⟩ := br ht;rw [g.ev hv, g.ev hu, rZ];exact OE hu ht
  case unOp op t x => obtain ⟨v, hv, ht⟩ := br ht; rw [g.ev hv, rZ]; exact RZ ht
  case convert s d x => obtain ⟨v, hv, ht⟩ := br ht; rw [g.ev hv, rZ]; exact KP ht
  case makeInterface t x =>
    obtain ⟨v, hv, ht⟩ := br ht;rw [g.ev hv, rZ];unfold Instr.makeInterface;cases hd : P.underlying t with
    | none => simp only [hd] at ht; exact ht.elim
    | some d =>
      rw [ar, aC hd];cases d <;> simp only [hd] at ht <;> first | exact ht.elim | exact ht
  case makeFunc fn fi ca =>
    obtain ⟨vs, dU, ht⟩ := hQ ht;obtain ⟨us, hus, ht⟩ := hQ ht;rw [rZ];have e1 : fi.map a.eval = vs.toArray := by apply W6.1; simpa using g.OL dU
    have e2 : ca.map a.eval = us.toArray := by apply W6.1; simpa using g.OL hus
    rw [e1, e2];exact ht
  case makeMap t r =>
    cases r with
    | none => rw [rZ]; exact Py ht
    | some r => exact ht.elim
  case makeSlice t l c =>
    obtain ⟨v, hv, ht⟩ := br ht;obtain ⟨u, hu, ht⟩ := br ht;rw [g.ev hv, g.ev hu, rZ];exact kI ht
  case slice t x lo hi mx =>
    obtain ⟨v, hv, ht⟩ := br ht;obtain ⟨vs, dU, ht⟩ := hQ ht;have dU := g.OL dU;rw [g.ev hv, rZ];unfold Tt at ht
    cases lo <;> cases hi <;> cases mx <;> simp only [Option.toList, List.nil_append, List.append_nil, List.map_cons, List.map_nil, List.cons_append] at dU <;> subst dU <;>
      first | exact ht.elim | exact Jn ht
  case fieldAddr s x f =>
    obtain ⟨v, hv, ht⟩ := br ht;rw [g.ev hv, rZ];cases hd : P.underlying s with
    | none => cases v <;> simp only [hd] at ht <;> exact ht.elim
    | some d =>
      cases v <;> first
        | (cases d <;> simp only [hd] at ht <;> exact ht.elim)
        | skip
      rename_i p;cases d <;> simp only [hd] at ht <;> first | exact ht.elim | skip
      rename_i fs;cases hf : fs[f]? with
      | none => simp only [hf] at ht; exact ht.elim
      | some fd =>
        simp only [hf] at ht;cases hc : P.cellsOf fd.type with
        | zero => simp only [hc] at ht; exact ht.elim
        | succ m =>
          simp only [hc] at ht;obtain ⟨q, rfl, ht⟩ := fE ht
          have hi : ∃ i, P.info? fd.type = some i := by
            cases hi : P.info? fd.type with
            | none => simp [Program.cellsOf, hi] at hc
            | some i => exact ⟨i, rfl⟩
          obtain ⟨i, hi⟩ := hi;unfold Instr.fieldAt;rw [ar, aC hd];simp only [hf];show aP P (fieldPlace q fd >>= fun y => (pure (Value.pointer (some y)) : Sem YB)) h _;unfold fieldPlace;rw [ar, ar, bJ hi, hc];exact ht
  case field s x f =>
    obtain ⟨v, hv, ht⟩ := br ht;rw [g.ev hv, rZ];cases hd : P.underlying s with
    | none => cases v <;> simp only [hd] at ht <;> exact ht.elim
    | some d =>
      cases v <;> first
        | (cases d <;> simp only [hd] at ht <;> exact ht.elim)
        | skip
      rename_i cs;cases d <;> simp only [hd] at ht <;> first | exact ht.elim | skip
      rename_i fs;cases hf : fs[f]? with
      | none => simp only [hf] at ht; exact ht.elim
      | some fd =>
        simp only [hf] at ht;unfold Instr.field;rw [ar, aC hd];simp only [hf];show aP P (part fd.type cs fd.offset) h _;exact K2 ht
  case indexAddr t x i =>
    obtain ⟨v, hv, ht1⟩ := br ht;obtain ⟨u, hu, ht2⟩ := br ht1;clear ht ht1;rw [g.ev hv, g.ev hu, rZ];clear hv hu;unfold wZ at ht2;generalize hd : P.underlying t = ud at ht2;split at ht2
    · rename_i p len cp k m el
      rcases fy ht2 with ⟨_, ht⟩ | ⟨hT, ht⟩
      · exact ht.elim
      · have hT : mM P el = true := by simpa using hT
        obtain ⟨i, hi⟩ := Xn.1 hT;obtain ⟨hb, ht⟩ := ht;obtain ⟨q, rfl, ht⟩ := fE ht;unfold Instr.indexAt;show aP P (underlying t >>= _) h _;rw [ar, aC hd];show aP P (underlying t >>= _) h _;rw [ar, aC hd];show aP P (if 0 <= m /\ m < len then (sizeOf el >>= fun z => (pure (Value.pointer (some (q.add (m.toNat * z)))) : Sem YB)) else _) h _;rw [WC hb, ar, bJ hi];exact ht
    · rename_i p k m len el
      rcases fy ht2 with ⟨_, ht⟩ | ⟨hT, ht⟩
      · exact ht.elim
      · have hT : mM P el = true := by simpa using hT
        obtain ⟨i, hi⟩ := Xn.1 hT;obtain ⟨hb, ht⟩ := ht;obtain ⟨q, rfl, ht⟩ := fE ht;unfold Instr.indexAt;show aP P (underlying t >>= _) h _;rw [ar, aC hd];show aP P (underlying t >>= _) h _;rw [ar, aC hd];show aP P (if 0 <= m /\ m < len then (sizeOf el >>= fun z => (pure (Value.pointer (some (q.add (m.toNat * z)))) : Sem YB)) else _) h _;rw [WC hb, ar, bJ hi];exact ht
    · exact ht2.elim
  case index t x i =>
    obtain ⟨v, hv, ht1⟩ := br ht;obtain ⟨u, hu, ht2⟩ := br ht1;clear ht ht1;rw [g.ev hv, g.ev hu, rZ];clear hv hu;unfold Gd at ht2;generalize hd : P.underlying t = ud at ht2;split at ht2
    · rename_i s k m
      obtain ⟨hb, ht⟩ := ht2;unfold Instr.index;show aP P (underlying t >>= _) h _;rw [ar, aC hd]
      have hs : s[m.toNat]? = some (s.data.toList.getD m.toNat 0) := by
        have hlt : m.toNat < s.size :=ad
        have : s[m.toNat]? = some s[m.toNat] := by simp [hlt]
        rw [this]
        congr 1
        have h2 : m.toNat < s.data.toList.length := by simpa using hlt
        rw [XI, Wu h2] <;> rfl
      show aP P (match (if 0 <= m then s[m.toNat]? else none) with | some b => (pure (Value.int .u8 b.toNat) : Sem YB) | none => boundsPanic k m s.size .index) h _;rw [WC hb.1, hs];exact ht
    · exact mK ht2
    · exact ht2.elim
  case lookup t m x ok =>
    obtain ⟨v, hv, ht⟩ := br ht;obtain ⟨u, hu, ht⟩ := br ht;rw [g.ev hv, g.ev hu, rZ];generalize hd : P.underlying t = ud at ht;split at ht
    · cases ok <;> simp only at ht <;> exact mK ht
    · exact ht.elim
  case mapUpdate t m x y =>
    obtain ⟨v, hv, ht⟩ := br ht;obtain ⟨u, hu, ht⟩ := br ht;obtain ⟨w, hw, ht⟩ := br ht;rw [g.ev hv, g.ev hu, g.ev hw, U5];exact ht
  case insert t m x y =>
    obtain ⟨v, hv, ht⟩ := br ht;obtain ⟨u, hu, ht⟩ := br ht;obtain ⟨w, hw, ht⟩ := br ht;rw [g.ev hv, g.ev hu, g.ev hw, U5];exact ht
  case mapEntry t m x =>
    obtain ⟨v, hv, ht⟩ := br ht;obtain ⟨u, hu, ht⟩ := br ht;rw [g.ev hv, g.ev hu, rZ];generalize hd : P.underlying t = ud at ht;split at ht
    · exact mK ht
    · exact ht.elim
  case entryStore t m x y =>
    obtain ⟨v, hv, ht⟩ := br ht;obtain ⟨u, hu, ht⟩ := br ht;obtain ⟨w, hw, ht⟩ := br ht;rw [g.ev hv, g.ev hu, g.ev hw, U5];exact ht
  case range t x =>
    obtain ⟨v, hv, ht⟩ := br ht;rw [g.ev hv, rZ];exact Ql ht
  case next it b =>
    obtain ⟨v, hv, ht⟩ := br ht;rw [g.ev hv, rZ];generalize hd : P.underlying type = ud at ht;split at ht
    · rename_i ts
      generalize hts : ts.toList = tl at ht;cases tl with
      | nil =>
        refine dE _ _ _ _ ?_ ht;rintro v h' (⟨rfl, hx⟩ | ⟨x, rfl, hx⟩)
        · exact hx
        · rw [dr] at hx; exact hx
      | cons t0 ts =>
        refine dE _ _ _ _ ?_ ht;rintro v h' (⟨rfl, hx⟩ | ⟨x, rfl, hx⟩)
        · exact hx
        · rw [dr] at hx; exact hx
    · exact ht.elim
  case entry it =>
    obtain ⟨v, hv, ht⟩ := br ht;rw [g.ev hv, rZ];exact mK ht
  case typeAssert x t d ok =>
    obtain ⟨v, hv, ht⟩ := br ht;rw [g.ev hv, rZ];cases ok <;> simp only at ht <;> exact mK ht
  case extract x i =>
    obtain ⟨v, hv, ht⟩ := br ht;rw [g.ev hv, rZ];cases v with
    | tuple vs =>
      unfold Instr.extract;show aP P (match vs[i]? with | some v => pure v | none => stuck "Extract: no such component") h _
      rw [<- XF];cases hi : vs.toList[i]? with
      | none => simp only [hi] at ht; exact ht.elim
      | some w => simp only [hi] at ht; exact ht
    | _ => exact ht.elim
  case call c =>
    rw [ar];unfold resolve;cases hc : c.callee with
    | builtin b =>
      simp only [hc] at ht;obtain ⟨vs, dU, ht⟩ := hQ ht;have e1 : c.args.map a.eval = vs.toArray := by apply W6.1; simpa using g.OL dU
      simp only [e1];exact Du ht
    | invoke r m => simp only [hc] at ht; exact ht.elim
    | value f =>
      simp only [hc] at ht;cases htm : EW f with
      | true =>
        simp only [htm] at ht;obtain ⟨gv, hg, ht⟩ := br ht;obtain ⟨vs, dU, ht⟩ := hQ ht;have e1 : c.args.map a.eval = vs.toArray := by apply W6.1; simpa using g.OL dU
        simp only [e1, g.ev hg];obtain ⟨f', fi, ca, rfl, ht, fn, hfn, hb, hn⟩ := ht
        have hbd : fA P f' = true := by
          unfold fA;rw [hfn];simp [hb, hn]
        show aP P (callFunc f' (fi ++ vs.toArray ++ ca)) h _
        have e2 : (fi.toList ++ vs ++ ca.toList).toArray = fi ++ vs.toArray ++ ca := by
          apply W6.1; simp
        rw [<- e2, tV hbd];refine HC.mono ht ?_;rintro v h' ⟨x, rfl, hx⟩;rw [dr] at hx;exact hx
      | false =>
        simp only [htm] at ht;obtain ⟨gv, hg, ht⟩ := br ht;obtain ⟨vs, dU, ht⟩ := hQ ht;have e1 : c.args.map a.eval = vs.toArray := by apply W6.1; simpa using g.OL dU
        simp only [e1, g.ev hg]
        obtain ⟨f, fi, ca, rfl⟩ : ∃ f fi ca, gv = .func (.func f) fi ca := by
          cases gv with
          | func fn fi ca => cases fn <;> first | exact ht.elim | exact ⟨_, _, _, rfl⟩
          | _ => exact ht.elim
        have := NY (show Bz P f (fi.toList ++ vs ++ ca.toList) type kk L K h from ht);show aP P (callFunc f (fi ++ vs.toArray ++ ca)) h _
        have e2 : (fi.toList ++ vs ++ ca.toList).toArray = fi ++ vs.toArray ++ ca := by
          apply W6.1; simp
        rw [<- e2];exact this
  all_goals exact ht.elim
end ops
end Go.Sx
