/- Part of the framework. No condition. -/
import Derived.Test.YthbffkdafjboiaaGreatDoorSxX
set_option linter.all false
set_option maxHeartbeats 4000000
namespace Go.Sx
section sems
variable {P:Program} {h:Hp}
def fj {α:Type} (f:Program->Sem α) (K:α->Hp->Prop):aS P (program >>= f) h K=aS P (f P) h K:=by
 rw [ar]; rfl
def aF {t:TypeId} {d:TypeDesc} (hd:P.underlying t=some d) (K:TypeDesc->Hp->Prop):aS P (underlying t) h K=K d h:=by
 unfold underlying; rw [fj,hd]; rfl
def info_of_underlying {t:TypeId} {d:TypeDesc} (hd:P.underlying t=some d):∃ i,P.info? t=some i:=by
 unfold Program.underlying at hd;cases hi:P.info? t with
 | none=>rw [hi] at hd; simp at hd
 | some i=>exact ⟨i,rfl⟩
def gw {t:TypeId} {i:TypeInfo} (hi:P.info? t=some i) (K:TypeInfo->Hp->Prop):aS P (typeInfo t) h K=K i h:=by
 unfold typeInfo; rw [fj,hi]; rfl
def cE {t:TypeId} {i:TypeInfo} (hi:P.info? t=some i):P.cellsOf t=i.size:=by
 simp [Program.cellsOf,hi]
def bS {t:TypeId} {i:TypeInfo} (hi:P.info? t=some i) (K:Nat->Hp->Prop):aS P (sizeOf t) h K=K (P.cellsOf t) h:=by
 unfold sizeOf; rw [ar,gw hi,cE hi]; rfl
def dp {t:TypeId} {z:ZB} (hz:(P.info? t).bind (·.zero)=some z) (K:ZB->Hp->Prop):aS P (zeroValue t) h K=K z h:=by
 cases hi:P.info? t with
 | none=>rw [hi] at hz; simp at hz
 | some i =>
  rw [hi] at hz; simp at hz;unfold zeroValue; rw [ar,gw hi,hz]; rfl
def ju {t:TypeId} {b:Bool} (hb:cB P t=some b) (K:Bool->Hp->Prop):aS P (isAgg t) h K=K b h:=by
 unfold cB at hb;cases hd:P.underlying t with
 | none=>rw [hd] at hb; simp at hb
 | some d =>
  rw [hd] at hb;unfold isAgg; rw [ar,aF hd]
  all_goals (cases d <;> simp at hb <;> subst hb <;> rfl)
def sr {t:TypeId} {b:Bool} (hb:cB P t=some b):∃ i,P.info? t=some i:=by
 unfold cB at hb;cases hd:P.underlying t with
 | none=>rw [hd] at hb; simp at hb
 | some d=>exact info_of_underlying hd
theorem lR (a:Zx):∀ (vs:List ZB) (i:Nat) (acc:Array ZB) (K:Array ZB->Hp->Prop),aJ h a i vs->K (acc++vs.toArray) h ->
  aS P (loadCellsFrom a i vs.length acc) h K
 | [],i,acc,K,_,hk=>by
  have hk':K acc h:=by simpa using hk
  exact hk'
 | v::vs,i,acc,K,hc,hk=>by
  simp only [List.length_cons,loadCellsFrom];rw [ar];refine ⟨v,hc.1,lR a vs (i+1) (acc.push v) K hc.2 ?_⟩;have e:acc.push v++vs.toArray=acc++(v::vs).toArray:=by
   apply XM.1; simp
  rw [e]; exact hk
def dH {a:Zx} {n:Nat} {vs:List ZB} (hn:vs.length=n) (hc:aJ h a 0 vs) (K:Array ZB->Hp->Prop) (hk:K vs.toArray h):aS P (loadCells a n) h K:=by
 subst hn;exact lR a vs 0 #[] K hc (by simpa using hk)
theorem fx (a:Zx):∀ (vs:List ZB) (h:Hp) (i:Nat) (K:Unit->Hp->Prop),xK h a i vs->K () (rp h a i vs)->aS P (storeCells a vs i) h K
 | [],h,i,K,_,hk=>hk
 | v::vs,h,i,K,hc,hk=>by
  simp only [storeCells];rw [ar];exact ⟨hc.1,hc.2.1,hc.2.2.1,fx a vs _ (i+1) K hc.2.2.2 hk⟩
end sems
structure Nd where
 n:Nat
 d:List Deferred
instance:Coe Nd Nat:=⟨Nd.n⟩
structure gu (n:Nd) (e:Env) (a:Act):Prop where
 size:a.tmps.size=n.n
 defers:a.defers=n.d
 get:∀ s v,cM e s=some v->a.tmps.getD s undef=v
def gu.ev {n:Nd} {e:Env} {a:Act} (g:gu n e a) {x:Operand} {v:ZB} (hx:ev e x=some v):a.eval x=v:=by
 cases x with
 | tmp t=>exact g.get t v hx
 | const w=>simpa [Sx.ev,Act.eval] using hx
 | global i=>simpa [Sx.ev,Act.eval] using hx
 | func f=>simpa [Sx.ev,Act.eval] using hx
def du (e:Env) (s:Nat) (v:Option ZB) (t:Nat):cM ((s,v)::e) t=if s=t then v else cM e t:=by
 simp only [cM]
 by_cases h:s=t
 ·subst h; simp
 ·have:Nat.beq s t=false:=by
   cases hb:Nat.beq s t
   ·rfl
   ·exact (h (Xg hb)).elim
  rw [this,W6 h]; rfl
def gu.put {n:Nd} {e:Env} {a:Act} (g:gu n e a) (dst:Option Tmp) (v:ZB):gu n (dV n e dst v) (a.put dst v):=by
 cases dst with
 | none=>exact g
 | some d =>
  refine ⟨by simp [Act.put,g.size],by simp [Act.put,g.defers],fun s u hu=>?_⟩;simp only [dV] at hu;cases hb:Nat.blt d n with
  | true =>
   have hd:d<n:=by simpa [Nat.blt_eq] using hb
   rw [hb] at hu;simp only [cond_true,du] at hu;simp only [Act.put,Array.getD_eq_getD_getElem?,Array.getElem?_setIfInBounds]
   by_cases hs:d=s
   ·subst hs;rw [Xb rfl] at hu;simp at hu; subst hu;simp [g.size,hd]
   ·rw [W6 hs] at hu;rw [W6 hs]
    have:=g.get s u hu
    simpa [Array.getD_eq_getD_getElem?] using this
  | false =>
   rw [hb] at hu;have hd:¬ d<n:=by intro hh; rw [<- Nat.blt_eq] at hh; rw [hb] at hh; cases hh
   have hput:a.put (some d) v=a:=by
    simp only [Act.put]
    have:a.tmps.setIfInBounds d v=a.tmps:=Array.setIfInBounds_eq_of_size_le (by rw [g.size]; exact Nat.le_of_not_lt hd)
    rw [this]
   rw [hput];exact g.get s u hu
def gu.ur {n:Nd} {e:Env} {a:Act} (g:gu n e a) {s:Nat} {v:ZB} (hv:cM e s=some v) (w:ZB) (hw:w=v):gu n (dV n e (some s) w) a:=by
 subst hw;refine ⟨g.size,g.defers,fun t u hu=>?_⟩;simp only [dV] at hu;cases hb:Nat.blt s n with
 | true =>
  rw [hb] at hu;simp only [cond_true,du] at hu
  by_cases hs:s=t
  ·subst hs; rw [Xb rfl] at hu; simp at hu; subst hu; exact g.get s w hv
  ·rw [W6 hs] at hu; exact g.get t u hu
 | false=>rw [hb] at hu; exact g.get t u hu
section trees
variable {L:Lp} {K:ZB->Hp->Prop} {h:Hp}
def bz {e:Env} {x:Operand} {k:ZB->T} (ht:bU e x k L K h):∃ v,ev e x=some v/\k v L K h:=by
 unfold bU at ht;cases hx:ev e x with
 | none=>rw [hx] at ht; exact ht.elim
 | some v=>rw [hx] at ht; exact ⟨v,rfl,ht⟩
theorem iF {e:Env}:∀ {xs:List Operand} {k:List ZB->T},gY e xs k L K h->∃ vs,xs.map (ev e)=vs.map some/\k vs L K h
 | [],k,ht=>⟨[],rfl,ht⟩
 | x::xs,k,ht=>by
  obtain ⟨v,hv,ht⟩:=bz ht;obtain ⟨vs,dZ,ht⟩:=iF ht;exact ⟨v::vs,by simp [hv,dZ],ht⟩
theorem gu.Ps {n:Nd} {e:Env} {a:Act} (g:gu n e a):∀ {xs:List Operand} {vs:List ZB},xs.map (Sx.ev e)=vs.map some->xs.map a.eval=vs
 | [],[],_=>rfl
 | x::xs,v::vs,hh=>by
  simp only [List.map_cons,List.cons.injEq] at hh;simp only [List.map_cons,g.ev hh.1,g.Ps hh.2]
 | [],v::vs,hh=>by simp at hh
 | x::xs,[],hh=>by simp at hh
def fW {p:ZC} {k:Zx->T} (ht:T.bF p k L K h):∃ a,p=some a/\k a L K h:=by
 cases p with
 | none=>exact ht.elim
 | some a=>exact ⟨a,rfl,ht⟩
def fH {b:Bool} {t u:T} (ht:(cond b t u) L K h):(b=true/\t L K h)\/(b=false/\u L K h):=by
 cases b
 ·exact .inr ⟨rfl,ht⟩
 ·exact .inl ⟨rfl,ht⟩
end trees
section ops
variable {P:Program} {L:Lp} {K:ZB->Hp->Prop} {h:Hp}
def sg {s:Sem ZB} {R:ZB->Hp->Prop}:aS P (do pure (Next.value (<- s))) h (BN P R)=aS P s h R:=by
 rw [ar]; rfl
def VE {s:Sem Unit} {R:ZB->Hp->Prop}:aS P (do s; pure Next.skip) h (BN P R)=aS P s h (fun _ h'=>R undef h'):=by
 rw [ar]; rfl
def mW {s:Sem ZB} {tup:Bool} {cs:List fE} {kk:ZB->T} (ht:T.ek P s tup cs (jj _ fun l=>kk (rv tup cs l)) L K h) :
  aS P s h (fun v h'=>kk v L K h'):=by
 refine dK _ _ _ _ ?_ ht;rintro v h' ⟨x,rfl,hx⟩;rw [dE] at hx;exact hx
def lT {s:Sem ZB} {el:TypeId} {kk:ZB->T} (ht:T.ek P s false [(false,[.slice el])] (fun p l c=>kk (.slice p l c)) L K h) :
  aS P s h (fun v h'=>kk v L K h'):=by
 refine dK _ _ _ _ ?_ ht;rintro v h' ⟨x,rfl,hx⟩;exact hx
def P9 {s:Sem ZB} {kk:ZB->T} (ht:T.ek P s false [(false,[.bool])] (fun b=>kk (.bool b)) L K h):aS P s h (fun v h'=>kk v L K h'):=by
 refine dK _ _ _ _ ?_ ht;rintro v h' ⟨x,rfl,hx⟩;exact hx
def Cw {s:Sem ZB} {kk:ZB->T} (ht:T.ek P s false [(false,[.int .i64])] (fun b=>kk (.int .i64 b)) L K h):aS P s h (fun v h'=>kk v L K h'):=by
 refine dK _ _ _ _ ?_ ht;rintro v h' ⟨x,rfl,hx⟩;exact hx
def OV {s:Sem ZB} {kk:ZB->T} (ht:T.ek P s false [(false,[.string])] (fun b=>kk (.string b)) L K h):aS P s h (fun v h'=>kk v L K h'):=by
 refine dK _ _ _ _ ?_ ht;rintro v h' ⟨x,rfl,hx⟩;exact hx
def PO {s:Sem ZB} {a b:TypeId} {kk:ZB->T} (ht:T.ek P s false [(false,[.map a b])] (fun b=>kk (.map b)) L K h):aS P s h (fun v h'=>kk v L K h'):=by
 refine dK _ _ _ _ ?_ ht;rintro v h' ⟨x,rfl,hx⟩;exact hx
def PD {s:Sem ZB} {a:TypeId} {kk:ZB->T} (ht:T.ek P s false [(false,[.pointer a])] (fun b=>kk (.pointer b)) L K h):aS P s h (fun v h'=>kk v L K h'):=by
 refine dK _ _ _ _ ?_ ht;rintro v h' ⟨x,rfl,hx⟩;exact hx
def Om {s:Sem ZB} {kk:T} (ht:T.ek P s true [] kk L K h):aS P s h (fun v h'=>v=.tuple #[]/\kk L K h'):=by
 refine dK _ _ _ _ ?_ ht;rintro v h' ⟨x,rfl,hx⟩;exact ⟨rfl,hx⟩
def OC {op : BinOp} {k : IntKind} {m n : Int} {kk : ZB -> T} (hs : ml op = false) (t : TypeId) (ht : G1 op k m n kk L K h) :
    aS P (binOp op t (.int k m) (.int k n)) h (fun v h' => kk v L K h') := by
  cases op <;> simp only [ml, Bool.true_eq_false] at hs <;> simp only [G1] at ht <;>
    first
    | exact ht.elim
    | (simp only [binOp, Op.intArith, Op.intDiv, Op.intBits, Op.intCmp, ne_eq, not_true_eq_false, if_false]; exact ht)
    | (obtain ⟨h0, ht⟩ := ht
       simp only [binOp, Op.intDiv, ne_eq, not_true_eq_false, if_false, if_neg h0]; exact ht)
def Ka {op:BinOp} {k k':IntKind} {m n:Int} {kk:ZB->T} (hs:ml op=true) (t:TypeId) (ht:zd op k m n kk L K h) :
  aS P (binOp op t (.int k m) (.int k' n)) h (fun v h'=>kk v L K h'):=by
 cases op <;> simp only [ml,Bool.false_eq_true] at hs <;> simp only [zd] at ht <;> obtain ⟨h0,ht⟩:=ht <;>
  simp only [binOp,Op.shift,if_neg (Int.not_lt.2 h0)] <;> exact ht
def Qx {op : BinOp} {m n : ZA} {kk : ZB -> T} (t : TypeId) (ht : GV op m n kk L K h) :
    aS P (binOp op t (.string m) (.string n)) h (fun v h' => kk v L K h') := by
  cases op <;> simp only [GV] at ht <;>
    first
    | exact ht.elim
    | (simp only [binOp, Op.stringOp]; exact ht)
    | (obtain ⟨h0, ht⟩ := ht
       simp only [binOp, Op.stringOp, if_neg (Int.not_lt.2 h0)]; exact ht)
def A3:ZB->Bool
 | .nilIface=>false
 | .agg _=>false
 | _=>true
def fY {op:BinOp} {t:TypeId} {x y:Operand} {a b:ZB} (ha:A3 a=true) {R:ZB->Hp->Prop} :
  aS P (do eqGuard op t x y a b; binOp op t a b) h R=aS P (binOp op t a b) h R:=by
 rw [ar]
 have:∀ K:Unit->Hp->Prop,aS P (eqGuard op t x y a b) h K=K () h:=by
  intro K;cases op <;> first | rfl | (cases a <;> first | (simp [A3] at ha; done) | rfl)
 rw [this]
def Gx {t:TypeId} (hd:P.underlying t=some .bool) (m n:Bool) (R:Bool->Hp->Prop):aS P (Op.equal t (.bool m) (.bool n)) h R=R (m==n) h:=by
 show aS P (Op.equalIn (9999+1) t (.bool m) (.bool n)) h R=_;unfold Op.equalIn;rw [ar,aF hd]; rfl
def AN {t e:TypeId} (hd:P.underlying t=some (.pointer e)) (p:ZC) (R:Bool->Hp->Prop):aS P (Op.equal t (.pointer p) (.pointer none)) h R=R p.isNone h:=by
 show aS P (Op.equalIn (9999+1) t (.pointer p) (.pointer none)) h R=_;unfold Op.equalIn;rw [ar,aF hd]; cases p <;> rfl
def xY {t e:TypeId} (hd:P.underlying t=some (.slice e)) (p:ZC) (l c:Nat) (R:Bool->Hp->Prop):aS P (Op.equal t (.slice p l c) (.slice none 0 0)) h R=R p.isNone h:=by
 show aS P (Op.equalIn (9999+1) t (.slice p l c) (.slice none 0 0)) h R=_;unfold Op.equalIn;rw [ar,aF hd]; cases p <;> rfl
def AH {t a b:TypeId} (hd:P.underlying t=some (.map a b)) (p:Option Nat) (R:Bool->Hp->Prop):aS P (Op.equal t (.map p) (.map none)) h R=R p.isNone h:=by
 show aS P (Op.equalIn (9999+1) t (.map p) (.map none)) h R=_;unfold Op.equalIn;rw [ar,aF hd]; cases p <;> rfl
def uk {op:BinOp} {t:TypeId} {a b:ZB} {r:Bool} {kk:ZB->T}
  (hq:∀ R:Bool->Hp->Prop,aS P (Op.equal t a b) h R=R r h)
  (h1:binOp .eql t a b=(do pure (.bool (<- Op.equal t a b)))) (h2:binOp .neq t a b=(do pure (.bool (!(<- Op.equal t a b)))))
  (ht:asked op r kk T.fail L K h):aS P (binOp op t a b) h (fun v h'=>kk v L K h'):=by
 cases op <;> simp only [asked] at ht <;> first
  | exact ht.elim
  | (rw [h1,ar,hq]; exact ht)
  | (rw [h2,ar,hq]; exact ht)
def Qz {op:BinOp} {t:TypeId} {x y:Operand} {a b:ZB} {kk:ZB->T} (ht:Ol P op t x y a b kk L K h) :
  aS P (do eqGuard op t x y a b; binOp op t a b) h (fun v h'=>kk v L K h'):=P9 ht
def PG {e:Env} {op:BinOp} {t:TypeId} {x y:Operand} {a b:ZB} {kk:ZB->T} (hy:ev e y=some b)
  (ht:CT P op t x y a b kk L K h):aS P (do eqGuard op t x y a b; binOp op t a b) h (fun v h'=>kk v L K h'):=by
 have hnil:∀ q,b=.pointer q->isNil y=true->q=none:=by
  intro q hq hn;cases y <;> simp only [isNil,Bool.false_eq_true] at hn;rename_i c;simp only [Sx.ev,Option.some.injEq] at hy;subst hy; subst hq;cases q with
  | none=>rfl
  | some a=>simp [isNil] at hn
 have hnilS:∀ q l c,b=.slice q l c->isNil y=true->q=none/\l=0/\c=0:=by
  intro q l c hq hn;cases y <;> simp only [isNil,Bool.false_eq_true] at hn;rename_i c;simp only [Sx.ev,Option.some.injEq] at hy;subst hy; subst hq;cases q with
  | none =>
   cases l <;> cases c <;> simp [isNil] at hn <;> exact ⟨rfl,rfl,rfl⟩
  | some a=>simp [isNil] at hn
 have hnilM:∀ q,b=.map q->isNil y=true->q=none:=by
  intro q hq hn;cases y <;> simp only [isNil,Bool.false_eq_true] at hn;rename_i c;simp only [Sx.ev,Option.some.injEq] at hy;subst hy; subst hq;cases q with
  | none=>rfl
  | some a=>simp [isNil] at hn
 unfold CT at ht;cases hpt:q8 P t x y with
 | false=>simp only [hpt] at ht; exact Qz ht
 | true =>
 simp only [hpt] at ht;unfold sq at ht;split at ht
 ·rename_i k m k' n;rw [fY rfl];cases hs:ml op with
  | true=>simp only [hs] at ht; exact Ka hs t ht
  | false =>
   simp only [hs] at ht
   by_cases hk:k=k'
   ·subst hk;simp only [decide_true] at ht;exact OC hs t ht
   ·simp only [hk,decide_false] at ht;exact ht.elim
 ·rw [fY rfl]; exact Qx t ht
 ·rename_i m n;rw [fY rfl];cases hd:P.underlying t with
  | none=>simp only [hd] at ht; exact ht.elim
  | some d =>
   cases d <;> simp only [hd] at ht <;> first
    | exact ht.elim
    | exact uk (fun R=>Gx hd m n R) rfl rfl ht
 ·rename_i p q;cases hd:P.underlying t with
  | none=>simp only [hd] at ht; exact ht.elim
  | some d =>
   cases d <;> simp only [hd] at ht <;> first
    | exact ht.elim
    | skip
   have hn:isNil y=true:=by simpa [q8,hd] using hpt
   obtain rfl:=hnil q rfl hn;rw [fY rfl]; exact uk (fun R=>AN hd p R) rfl rfl ht
 ·rename_i p l c q l' c';cases hd:P.underlying t with
  | none=>simp only [hd] at ht; exact ht.elim
  | some d =>
   cases d <;> simp only [hd] at ht <;> first
    | exact ht.elim
    | skip
   have hn:isNil y=true:=by simpa [q8,hd] using hpt
   obtain ⟨rfl,rfl,rfl⟩:=hnilS q _ _ rfl hn;rw [fY rfl]; exact uk (fun R=>xY hd p l c R) rfl rfl ht
 ·rename_i p q;cases hd:P.underlying t with
  | none=>simp only [hd] at ht; exact ht.elim
  | some d =>
   cases d <;> simp only [hd] at ht <;> first
    | exact ht.elim
    | skip
   have hn:isNil y=true:=by simpa [q8,hd] using hpt
   obtain rfl:=hnilM q rfl hn;rw [fY rfl]; exact uk (fun R=>AH hd p R) rfl rfl ht
 ·exact ht.elim
def R6 {op:UnOp} {a:ZB} {kk:ZB->T} (ht:TB op a kk L K h):aS P (Op.unary op a) h (fun v h'=>kk v L K h'):=by
 unfold TB at ht;split at ht
 ·exact ht
 ·exact ht
 ·exact ht
 ·exact ht.elim
def MQ {s d:TypeId} {a:ZB} {kk:ZB->T} (ht:xf P s d a kk L K h):aS P (convert s d a) h (fun v h'=>kk v L K h'):=by
 unfold xf at ht;generalize hs:P.underlying s=us at ht;generalize hd:P.underlying d=ud at ht;split at ht
 ·unfold convert;rw [ar,aF hs,ar,aF hd];exact ht
 ·unfold convert;rw [ar,aF hs,ar,aF hd];exact ht
 ·exact ht.elim
 ·exact lT ht
 ·exact OV ht
 ·exact ht.elim
def ez (y:Nat) (code:BoundsCode) {v:ZB} {k:IntKind} {i:Int} (hv:v=.int k i) (h0:0<=i) (h1:i<=y) (R:Nat->Hp->Prop) :
  aS P (Instr.sliceBound v y code) h R=R i.toNat h:=by
 subst hv;unfold Instr.sliceBound;rw [ar];show aS P (if 0<=i/\i<=↑y then pure i.toNat else boundsPanic k i ↑y code) h R=_;rw [Xb ⟨h0,h1⟩]; rfl
def qp {v:ZB} (hv:ep (some v)=true):∃ k i,v=.int k i:=by
 cases v <;> simp only [ep,Bool.false_eq_true] at hv;exact ⟨_,_,rfl⟩
def nl (isSlice:Bool) (len cap:Nat) {lo hi:Option ZB} (il:ep lo=true) (ih:ep hi=true)
  (h0:0<=j3 lo) (h1:j3 lo<=kw len hi) (h2:kw len hi<=cap) (R:Nat × Nat × Nat->Hp->Prop) :
  aS P (Instr.sliceBounds isSlice len cap lo hi none) h R=R ((j3 lo).toNat,(kw len hi).toNat,cap) h:=by
 unfold Instr.sliceBounds;cases hi with
 | none =>
  cases lo with
  | none=>rfl
  | some v =>
   obtain ⟨k,i,rfl⟩:=qp il;have h0':0<=i:=h0;have h1':i<=len:=h1;show aS P (Instr.sliceBound (.int k i) len _ >>= fun l=>pure (l,len,cap)) h R=_;rw [ar,ez len _ rfl h0' h1']; rfl
 | some u =>
  obtain ⟨ku,iu,rfl⟩:=qp ih;have hu0:(0:Int)<=iu:=Int.le_trans h0 h1;cases lo with
  | none =>
   show aS P (Instr.sliceBound (.int ku iu) cap _ >>= fun hh=>pure (0,hh,cap)) h R=_;have h2':iu<=cap:=h2;rw [ar,ez cap _ rfl hu0 h2']; rfl
  | some v =>
   obtain ⟨k,i,rfl⟩:=qp il;show aS P (Instr.sliceBound (.int ku iu) cap _ >>= fun hh=>Instr.sliceBound (.int k i) hh _ >>= fun l=>pure (l,hh,cap)) h R=_;have h0':0<=i:=h0;have h1':i<=iu:=h1;have h2':iu<=cap:=h2;rw [ar,ez cap _ rfl hu0 h2',ar,ez _ _ rfl h0' (by rw [Int.toNat_of_nonneg hu0]; exact h1')]; rfl
def IF {t:TypeId} {a:ZB} {lo hi mx:Option ZB} {kk:ZB->T} (ht:iI P t a lo hi mx kk L K h) :
  aS P (Instr.sliceAt t a lo hi mx) h (fun v h'=>kk v L K h'):=by
 unfold iI at ht;cases hint:ep lo && ep hi && ep mx with
 | false=>simp only [hint] at ht; exact ht.elim
 | true =>
  simp only [hint] at ht;simp only [Bool.and_eq_true] at hint;obtain ⟨⟨il,ih⟩,im⟩:=hint;cases hd:P.underlying t with
  | none=>simp only [hd] at ht; exact lT ht
  | some d =>
   cases d <;> simp only [hd] at ht <;> first | exact lT ht | skip
   case string =>
    cases mx with
    | some m=>cases a <;> exact ht.elim
    | none =>
    cases a <;> first | exact ht.elim | skip
    rename_i s;obtain ⟨⟨h0,h1,h2⟩,ht⟩:=ht;unfold Instr.sliceAt;rw [ar,aF hd];show aS P (Instr.slice t (.string s) lo hi none) h _;unfold Instr.slice;rw [ar,aF hd];show aS P (Instr.sliceBounds false s.size s.size lo hi none >>= fun x=>(pure (Value.string (s.extract x.1 x.2.1)):Sem ZB)) h _;rw [ar,nl false _ _ il ih h0 h1 h2];exact ht
   case slice el =>
    cases mx with
    | some m=>exact lT ht
    | none =>
    cases a <;> first | exact ht.elim | skip
    rename_i p len cap;simp only at ht;cases hT:mV P el with
    | false=>simp only [hT] at ht; exact ht.elim
    | true =>
     simp only [hT] at ht;obtain ⟨⟨h0,h1,h2⟩,ht⟩:=ht;obtain ⟨i,hi'⟩:=X0.1 hT;unfold Instr.sliceAt;rw [ar,aF hd];show aS P (Instr.slice t (.slice p len cap) lo hi none) h _;unfold Instr.slice;rw [ar,aF hd];show aS P (Instr.sliceBounds true len cap lo hi none >>= fun x=>sizeOf el >>= fun size=>(pure (Value.slice (if x.2.2=x.1 then p else p.map (·.add (x.1*size))) (x.2.1-x.1) (x.2.2-x.1)):Sem ZB)) h _;rw [ar,nl true _ _ il ih h0 h1 h2,ar,bS hi'];exact ht
def KI {t:TypeId} {cs:Array ZB} {off:Nat} {kk:ZB->T} (ht:sy P t cs.toList off kk L K h) :
  aS P (part t cs off) h (fun v h'=>kk v L K h'):=by
 have hx:∀ n,((cs.toList.drop off).take n).toArray=cs.extract off (off+n):=by
  intro n;apply XM.1;simp [Array.toList_extract,List.extract_eq_drop_take]
 unfold sy at ht;generalize hd:P.underlying t=ud at ht;split at ht
 ·obtain ⟨i,hi⟩:=info_of_underlying hd;unfold part;rw [ar,ju (b:=true) (by simp [cB,hd])];show aS P (sizeOf t >>= fun n=>(pure (Value.agg (cs.extract off (off+n))):Sem ZB)) h _;rw [ar,bS hi,<- hx];exact ht
 ·obtain ⟨i,hi⟩:=info_of_underlying hd;unfold part;rw [ar,ju (b:=true) (by simp [cB,hd])];show aS P (sizeOf t >>= fun n=>(pure (Value.agg (cs.extract off (off+n))):Sem ZB)) h _;rw [ar,bS hi,<- hx];exact ht
 ·rename_i d hns hna;unfold part;rw [ar,ju (b:=false) (by simp only [cB,hd])];show aS P (match cs[off]? with | some v => pure v | none => stuck "part: no such cell") h _
  rw [<- Yn];cases hv:cs.toList[off]? with
  | none=>simp only [hv] at ht; exact ht.elim
  | some v=>simp only [hv] at ht; exact ht
 ·exact ht.elim
def vj {f:FuncId} (hb:fF P f=true) (args:Array ZB) (R:Next->Hp->Prop):aS P (callFunc f args) h R=R (.enter f args) h:=by
 unfold fF at hb;unfold callFunc;rw [fj];cases hf:P.funcs[f]? with
 | none=>rw [hf] at hb; simp at hb
 | some fn =>
  rw [hf] at hb;simp only [Bool.and_eq_true,Bool.not_eq_true'] at hb;obtain ⟨h1,h2⟩:=hb;have h3:fn.body.isNone=false:=by cases hbd:fn.body <;> simp_all
  simp only [h2,h3]; rfl
def Mq {f:FuncId} {args:List ZB} {t:TypeId} {kk:ZB->T} (ht:BS P f args t kk L K h) :
  aS P (callFunc f args.toArray) h (BN P fun v h'=>kk v L K h'):=by
 unfold BS at ht;cases hb:fF P f with
 | false =>
  simp only [hb] at ht
  have:=mW ht
  unfold G3 at this;rw [ar] at this;refine dK _ _ _ _ ?_ this;intro x h' hx;cases x <;> first | exact hx | exact hx.elim
 | true =>
  simp only [hb] at ht;rw [vj hb];refine HC.mono ht ?_;rintro v h' ⟨x,rfl,hx⟩;rw [dE] at hx;exact hx
def OY {c:Call} {t:TypeId} {args:List ZB} {kk:ZB->T} (ht:yQ P c t args kk L K h) :
  aS P (Builtin.len_ c.argTypes t args.toArray) h (fun v h'=>kk v L K h'):=by
 unfold yQ at ht;cases hd:(c.argTypes[0]?).bind P.underlying with
 | none=>simp only [hd] at ht; exact Cw ht
 | some d =>
  obtain ⟨t0,ht0,hd'⟩:=W1.1 hd;cases d <;> simp only [hd] at ht <;> first | exact Cw ht | skip
  case string =>
   split at ht
   ·unfold Builtin.len_;simp only [ht0];show aS P (underlying t0 >>= _) h _;rw [ar,aF hd'];exact ht
   ·exact ht.elim
  case slice el =>
   split at ht
   ·unfold Builtin.len_;simp only [ht0];show aS P (underlying t0 >>= _) h _;rw [ar,aF hd'];exact ht
   ·exact ht.elim
def OP {c:Call} {t:TypeId} {args:List ZB} {kk:ZB->T} (ht:I9 P c args kk L K h) :
  aS P (Builtin.cap_ c.argTypes t args.toArray) h (fun v h'=>kk v L K h'):=by
 unfold I9 at ht;cases hd:(c.argTypes[0]?).bind P.underlying with
 | none=>simp only [hd] at ht; exact ht.elim
 | some d =>
  obtain ⟨t0,ht0,hd'⟩:=W1.1 hd;cases d <;> simp only [hd] at ht <;> first | exact ht.elim | skip
  split at ht
  ·unfold Builtin.cap_;simp only [ht0];show aS P (underlying t0 >>= _) h _;rw [ar,aF hd'];exact ht
  ·exact ht.elim
inductive kL:List (Nat × ZB)->List (Nat × List ZB)->Prop
 | nil:kL [] []
 | cons {i:Nat} {v:ZB} {l:List ZB} {ps:List (Nat × ZB)} {r:List (Nat × List ZB)} (h:v.cells.toList=l) (t:kL ps r):kL ((i,v)::ps) ((i,l)::r)
def JB {v:ZB} (h:eN v=true):v.cells.toList=jy v:=by
 cases v <;> first | rfl | (simp [eN] at h)
def xC {v:ZB} (h:eN v=false):v.cells.toList=[v]:=by
 cases v <;> first | rfl | (simp [eN] at h)
theorem rF {agg:Nat->Option Bool}:∀ {ps:List (Nat × ZB)} {k:List (Nat × List ZB)->T},fc agg ps k L K h->∃ r,kL ps r/\k r L K h
 | [],k,ht=>⟨[],.nil,ht⟩
 | (i,v)::l,k,ht=>by
  simp only [fc] at ht;cases ha:agg i with
  | none=>rw [ha] at ht; exact ht.elim
  | some b =>
   rw [ha] at ht;cases b with
   | true =>
    rcases fH ht with ⟨hv,ht⟩ | ⟨_,ht⟩
    ·obtain ⟨r,hr,hk⟩:=rF ht;exact ⟨_,.cons (JB hv) hr,hk⟩
    ·exact ht.elim
   | false =>
    rcases fH ht with ⟨_,ht⟩ | ⟨hv,ht⟩
    ·exact ht.elim
    ·obtain ⟨r,hr,hk⟩:=rF ht;exact ⟨_,.cons (xC hv) hr,hk⟩
theorem yP:∀ (l:List ZB) (off k:Nat) (cs:Array ZB),((l.zipIdx k).foldl (fun (cs:Array ZB) (x:ZB × Nat)=>cs.setIfInBounds (off+x.2) x.1) cs)=(r7 cs.toList (off+k) l).toArray
 | [],off,k,cs=>by simp [r7]
 | v::l,off,k,cs=>by
  rw [List.zipIdx_cons,XE,yP l off (k+1)];simp only [r7,Array.toList_setIfInBounds] <;> rfl
def Cy {place:Nat->Option (Nat × Nat)} {ps:List (Nat × ZB)} {r:List (Nat × List ZB)} (hc:kL ps r):∀ {c cs:List ZB},ft place c r=some cs->Instr.fill place c.toArray ps=some cs.toArray:=by
 induction hc with
 | nil=>intro c cs h; simp [ft] at h; subst h; rfl
 | @cons i v l ps r hv _ ih =>
  intro c cs h;unfold ft at h;unfold Instr.fill;split at h
  ·cases h
  ·rename_i off size hp;rw [hp];simp only;have hs:v.cells.size=l.length:=by rw [<- hv,Yb]
   cases hb:!(Nat.beq l.length size) || Nat.blt c.length (off+l.length) with
   | true=>rw [hb] at h; cases h
   | false =>
    rw [hb] at h;simp only [Bool.or_eq_false_iff,Bool.not_eq_false'] at hb;have h1:l.length=size:=Xg hb.1;have h2:¬ c.length<off+l.length:=fun hlt=>by
     have:=Nat.ble_eq_true_of_le hlt
     rw [show Nat.blt c.length (off+l.length)=Nat.ble (c.length+1) (off+l.length) from rfl,this] at hb;exact absurd hb.2 aj
    rw [W6 (by simp [hs,h1]; omega)];have e:v.cells.zipIdx.foldl (fun cs (x:ZB × Nat)=>cs.setIfInBounds (off+x.2) x.1) c.toArray=(r7 c off l).toArray:=by
     rw [<- Array.foldl_toList,Array.toList_zipIdx,hv];exact yP l off 0 c.toArray
    have:=ih h
    rw [<- e] at this;exact this
def E0 {b:Builtin} {c:Call} {t:TypeId} {args:List ZB} {consts:Array Bool} {kk:ZB->T} (ht:qR P b c t args kk L K h) :
  aS P (builtin b c.argTypes t consts args.toArray) h (BN P fun v h'=>kk v L K h'):=by
 unfold qR at ht;split at ht
 ·show aS P (do pure (Next.value (<- Builtin.len_ c.argTypes t args.toArray))) h _;rw [sg]; exact OY ht
 ·show aS P (do pure (Next.value (<- Builtin.cap_ c.argTypes t args.toArray))) h _;rw [sg]; exact OP ht
 ·show aS P (do pure (Next.value (<- Builtin.append_ c.argTypes t args.toArray))) h _;rw [sg]; exact lT ht
 ·show aS P (do pure (Next.value (<- Builtin.copy_ c.argTypes t args.toArray))) h _;rw [sg]; exact Cw ht
 ·show aS P (do pure (Next.value (<- Builtin.min_ c.argTypes t args.toArray))) h _;rw [sg]; exact mW ht
 ·show aS P (do pure (Next.value (<- Builtin.max_ c.argTypes t args.toArray))) h _;rw [sg]; exact mW ht
 ·show aS P (do pure (Next.value (<- Builtin.delete_ c.argTypes t args.toArray))) h _;rw [sg];exact dK _ _ _ _ (fun v h' ⟨e,hk⟩=>by subst e; exact hk) (Om ht)
 ·show aS P (do pure (Next.value (<- Builtin.unsafeString_ c.argTypes t args.toArray))) h _;rw [sg]; exact mW ht
 ·show aS P (do pure (Next.value (<- Builtin.unsafeSliceData_ c.argTypes t args.toArray))) h _;rw [sg]; exact mW ht
 ·exact ht.elim
def NU {vs:List ZB} {e:TypeId} {kk:ZB->T} (ht:T.new vs e (fun a=>kk (.pointer (some a))) L K h) {cs:Array ZB} (hv:cs=vs.toArray) :
  aS P (do pure (Value.pointer (some (<- newRow e cs)))) h (fun v h'=>kk v L K h'):=by
 subst hv;exact ht
def Bi {n:Nat} {t:TypeId} {p:ZC} {kk:Zx->List ZB->ZB->T} {b:Bool} (hb:cB P t=some b)
  (ht:(match b with
   | true=>(bif (eU P 9 t).length==P.cellsOf t then T.bF p fun a=>T.ah a (eU P 9 t) (jj _ fun l=>kk a l (.agg l.toArray)) else T.fail)
   | false=>T.bF p fun a=>T.ah a (cz P t).2 (jj _ fun l=>kk a l (l.headD undef))) L K h) :
  ∃ a l v,p=some a/\aJ h a 0 l/\kk a l v L K h/\∀ h' (R:ZB->Hp->Prop),aJ h' a 0 l->R v h'->aS P (Instr.loadAt t (.pointer p)) h' R:=by
 obtain ⟨i,hi⟩:=sr hb;cases b with
 | true =>
  simp only at ht;cases hl:(eU P 9 t).length==P.cellsOf t with
  | false=>rw [hl] at ht; exact ht.elim
  | true =>
   rw [hl] at ht;have hl':(eU P 9 t).length=P.cellsOf t:=by simpa using hl
   obtain ⟨a,rfl,ht⟩:=fW ht;obtain ⟨x,hc,ht⟩:=ht;rw [dE] at ht;refine ⟨a,dZ _ x,_,rfl,hc,ht,fun h' R hc' hk=>?_⟩;unfold Instr.loadAt;show aS P (loadVar t a) h' R;unfold loadVar;rw [ar,ju hb];show aS P (sizeOf t >>= fun n=>loadCells a n >>= fun cs=>(pure (Value.agg cs):Sem ZB)) h' R;rw [ar,bS hi,ar];exact dH (by rw [tG,hl']) hc' _ hk
 | false =>
  simp only at ht;obtain ⟨a,rfl,ht⟩:=fW ht;obtain ⟨x,hc,ht⟩:=ht;rw [dE] at ht;have h1:∃ d,(cz P t).2=[d]:=by
   unfold cB at hb;unfold cz;cases hd:P.underlying t with
   | none=>rw [hd] at hb; simp at hb
   | some d=>rw [hd] at hb; cases d <;> simp at hb <;> exact ⟨_,rfl⟩
  obtain ⟨d,hd⟩:=h1;refine ⟨a,dZ _ x,_,rfl,hc,ht,fun h' R hc' hk=>?_⟩;revert x;rw [hd];intro x hc ht hc' hk;unfold Instr.loadAt;show aS P (loadVar t a) h' R;unfold loadVar;rw [ar,ju hb];have hc0:=hc'.1
  have:a.add 0=a:=by simp [Addr.add]
  rw [this] at hc0;exact ⟨_,hc0,hk⟩
def Ll {n : Nd} {e : Env} {a : Act} (g : gu n e a) {t : TypeId} {x : Operand} {kk : Zx -> List ZB -> ZB -> T} (ht : qH P t x e kk L K h) :
    ∃ p l v, ev e x = some (.pointer (some p)) /\ aJ h p 0 l /\ kk p l v L K h /\ ∀ h' (R : ZB -> Hp -> Prop), aJ h' p 0 l -> R v h' -> aS P (Instr.loadAt t (.pointer (some p))) h' R := by
  unfold qH at ht;obtain ⟨v, hv, ht⟩ := bz ht;cases hb : cB P t with
  | none => cases v <;> simp only [hb] at ht <;> exact ht.elim
  | some b =>
    cases v <;> first
      | (cases b <;> simp only [hb] at ht <;> exact ht.elim)
      | (rename_i p
         have ht' : (match b with
            | true => (bif (eU P 9 t).length == P.cellsOf t then T.bF p fun a => T.ah a (eU P 9 t) (jj _ fun l => kk a l (.agg l.toArray)) else T.fail)
            | false => T.bF p fun a => T.ah a (cz P t).2 (jj _ fun l => kk a l (l.headD undef))) L K h := by
            cases b <;> simp only [hb] at ht <;> exact ht
         obtain ⟨q, l, v, rfl, hc, hk, hall⟩ := Bi (n := n) hb ht';exact ⟨q, l, v, hv, hc, hk, hall⟩)
def Gp {n : Nd} {o : Oper} {e : Env} {a : Act} (g : gu n e a) {kk : ZB -> T} (ht : tS P o e kk L K h) :
    VB P o a.eval h (fun v h' => kk v L K h') := by
  obtain ⟨dst, op, type, pos, after, guard⟩ := o;unfold VB;cases op <;> simp only [tS] at ht <;> unfold execOp <;> simp only
  case move x => obtain ⟨v, hv, ht⟩ := bz ht; rw [g.ev hv]; exact ht
  case assign x => obtain ⟨v, hv, ht⟩ := bz ht; rw [g.ev hv]; exact ht
  case pick c x y =>
    obtain ⟨v, hv, ht⟩ := bz ht;rw [g.ev hv]
    cases v <;> simp only at ht <;> first
      | exact ht.elim
      | (rename_i b
         rw [ar];show aS P (pure b) h _;cases b
         · obtain ⟨w, hw, ht⟩ := bz (show bU e y kk L K h from ht); rw [g.ev hw]; exact ht
         · obtain ⟨w, hw, ht⟩ := bz (show bU e x kk L K h from ht); rw [g.ev hw]; exact ht)
  case alloc t =>
    cases hz : (P.info? t).bind (·.zero) with
    | none => simp only [hz] at ht; exact ht.elim
    | some z =>
      simp only [hz] at ht;rw [sg];unfold Instr.alloc;rw [ar, dp hz];exact NU ht aj
  case box t x =>
    obtain ⟨v, hv, ht⟩ := bz ht;rw [g.ev hv, sg];unfold Instr.box newVar;cases hb : cB P t with
    | none => simp only [hb] at ht; exact ht.elim
    | some b =>
      cases b <;> simp only [hb] at ht <;> rcases fH ht with ⟨hv, ht⟩ | ⟨hv, ht⟩ <;> first
        | exact ht.elim
        | (refine NU ht ?_
           cases v <;> first | (simp [eN] at hv; done) | simp [Value.cells, jy])
  case build t ps =>
    obtain ⟨vs, dZ, ht⟩ := iF ht;have dZ := g.Ps dZ
    have hps : (ps.map fun x => (x.1, a.eval x.2)).toList = (ps.toList.map (·.1)).zip vs := by
      rw [<- dZ];simp only [Array.toList_map];generalize ps.toList = l
      induction l with
      | nil => rfl
      | cons p l ih => simp [ih]
    rw [sg];unfold Instr.build;rw [ar];cases hz : (P.info? t).bind (·.zero) with
    | none =>
      generalize P.underlying t = ud at ht;cases ud with
      | none => simp only [hz] at ht; exact ht.elim
      | some d => cases d <;> simp only [hz] at ht <;> exact ht.elim
    | some z =>
      rw [dp hz];show aS P (underlying t >>= _) h _;cases hd : P.underlying t with
      | none => simp only [hd] at ht; exact ht.elim
      | some d =>
        rw [ar, aF hd];cases d <;> simp only [hd, hz] at ht <;> first | exact ht.elim | skip
        case array len el =>
          rcases fH ht with ⟨_, ht⟩ | ⟨hT, ht⟩
          · exact ht.elim
          · have hT : mV P el = true := by simpa using hT
            obtain ⟨i, hi⟩ := X0.1 hT;simp only;rw [ar, bS hi];have hps' : (Array.map (fun x => (x.1, a.eval x.2)) ps).toList = (ps.toList.map (·.1)).zip vs := hps;obtain ⟨ls, hls, ht⟩ := rF ht;cases hf : ft (fun i => some (i * P.cellsOf el, P.cellsOf el)) z.cells.toList ls with
            | none => simp only [hf] at ht; exact ht.elim
            | some cs =>
              simp only [hf] at ht;rw [hps', Cy hls hf];exact ht
        case struct fs =>
          rcases fH ht with ⟨_, ht⟩ | ⟨hT, ht⟩
          · exact ht.elim
          · have hT : (fs.all fun f => mV P f.type) = true := by simpa using hT
            simp only;rw [ar]
            have hm : ∀ R : Array (Nat × Nat) -> Hp -> Prop, aS P (fs.mapM fun f => do pure (f.offset, <- sizeOf f.type)) h R = R (fs.map fun f => (f.offset, P.cellsOf f.type)) h := by
              intro R;rw [Array.mapM_eq_mapM_toList]
              have hT' : ∀ f ∈ fs.toList, mV P f.type = true := by
                intro f hf; exact (Array.all_eq_true_iff_forall_mem.1 hT) f (by simpa using hf)
              have : ∀ (l : List Field) (R : List (Nat × Nat) -> Hp -> Prop), (∀ f ∈ l, mV P f.type = true) ->
                  aS P (l.mapM fun f => (do pure (f.offset, <- sizeOf f.type) : Sem (Nat × Nat))) h R = R (l.map fun f => (f.offset, P.cellsOf f.type)) h := by
                intro l
                induction l with
                | nil => intro R _; rfl
                | cons f l ih =>
                  intro R hl;obtain ⟨i, hi⟩ := X0.1 (hl f aj);rw [List.mapM_cons, ar, ar, bS hi];show aS P ((l.mapM fun f => (do pure (f.offset, <- sizeOf f.type) : Sem (Nat × Nat))) >>= _) h R = _;rw [ar, ih _ (fun f hf => hl f (by simp [hf]))] <;> rfl
              show aS P (List.toArray <$> _) h R = _;rw [map_eq_pure_bind, ar, this _ _ hT'];show R (List.toArray _) h = _
              congr 1
              apply XM.1
              simp
            rw [hm];obtain ⟨ls, hls, ht⟩ := rF ht;cases hf : ft (fun i => (fs.map fun f => (f.offset, P.cellsOf f.type))[i]?) z.cells.toList ls with
            | none => simp only [hf] at ht; exact ht.elim
            | some cs =>
              simp only [hf] at ht;have hps' : (Array.map (fun x => (x.1, a.eval x.2)) ps).toList = (ps.toList.map (·.1)).zip vs := hps;rw [hps', Cy hls hf];exact ht
  case buildSlice t len ps =>
    obtain ⟨vs, dZ, ht⟩ := iF ht;have dZ := g.Ps dZ
    have hps : (ps.map fun x => (x.1, a.eval x.2)) = ((ps.toList.map (·.1)).zip vs).toArray := by
      apply XM.1;rw [<- dZ];simp only [Array.toList_map];generalize ps.toList = l
      induction l with
      | nil => rfl
      | cons p l ih => simpa using ih
    rw [sg];have hps' : (Array.map (fun x => (x.1, a.eval x.2)) ps) = ((ps.toList.map (·.1)).zip vs).toArray := hps;rw [hps'];exact lT ht
  case load t x =>
    have ht' : qH P t x e (fun _ _ v => kk v) L K h := ht;obtain ⟨p, l, v, hv, hc, hk, hall⟩ := Ll g ht';rw [g.ev hv, sg];exact hall h _ hc hk
  case store t x y =>
    obtain ⟨v, hv, ht⟩ := bz ht;obtain ⟨u, hu, ht⟩ := bz ht;rw [g.ev hv, g.ev hu, VE];cases hb : cB P t with
    | none => cases v <;> simp only [hb] at ht <;> exact ht.elim
    | some b =>
      obtain ⟨i, hi⟩ := sr hb
      cases v <;> first
        | (cases b <;> simp only [hb] at ht <;> exact ht.elim)
        | skip
      rename_i p;cases b <;> simp only [hb] at ht
      · rcases fH ht with ⟨hl, ht⟩ | ⟨hl, ht⟩
        · rcases fH ht with ⟨hag, ht⟩ | ⟨hag, ht⟩
          · exact ht.elim
          · obtain ⟨q, rfl, ht⟩ := fW ht
            obtain ⟨hc, ht⟩ := ht;unfold Instr.storeAt storeVar;show aS P (sizeOf t >>= _) h _;rw [ar, bS hi];have hcl : u.cells = #[u] := by cases u <;> first | (simp [eN] at hag; done) | rfl
            have h1 : P.cellsOf t = 1 := by simpa using hl
            rw [hcl, h1];exact fx q [u] h 0 _ hc ht
        · exact ht.elim
      · rcases fH ht with ⟨hag, ht⟩ | ⟨hag, ht⟩
        · rcases fH ht with ⟨hl, ht⟩ | ⟨hl, ht⟩
          · obtain ⟨q, rfl, ht⟩ := fW ht
            obtain ⟨hc, ht⟩ := ht;unfold Instr.storeAt storeVar;show aS P (sizeOf t >>= _) h _;rw [ar, bS hi];obtain ⟨cs, rfl⟩ : ∃ cs, u = .agg cs := by cases u <;> first | (simp [eN] at hag; done) | exact ⟨_, rfl⟩
            have h1 : cs.size = P.cellsOf t := by simpa [jy] using hl
            show aS P (if cs.size ≠ P.cellsOf t then _ else storeCells q cs.toList 0) h _;rw [W6 (by simp [h1])];exact fx q cs.toList h 0 _ hc ht
          · exact ht.elim
        · exact ht.elim
  case nilCheck x =>
    obtain ⟨v, hv, ht⟩ := bz ht;rw [g.ev hv];cases v with
    | pointer p => obtain ⟨q, rfl, ht⟩ := fW ht; exact ht
    | func fn fi ca => cases fn <;> first | exact ht.elim | exact ht
    | iface t w => exact ht
    | _ => exact ht.elim
  case binOp op t x y yt =>
    obtain ⟨v, hv, ht⟩ := bz ht;obtain ⟨u, hu, ht⟩ := bz ht;rw [g.ev hv, g.ev hu, sg];exact PG hu ht
  case unOp op t x => obtain ⟨v, hv, ht⟩ := bz ht; rw [g.ev hv, sg]; exact R6 ht
  case convert s d x => obtain ⟨v, hv, ht⟩ := bz ht; rw [g.ev hv, sg]; exact MQ ht
  case makeInterface t x =>
    obtain ⟨v, hv, ht⟩ := bz ht;rw [g.ev hv, sg];unfold Instr.makeInterface;cases hd : P.underlying t with
    | none => simp only [hd] at ht; exact ht.elim
    | some d =>
      rw [ar, aF hd];cases d <;> simp only [hd] at ht <;> first | exact ht.elim | exact ht
  case makeFunc fn fi ca =>
    obtain ⟨vs, dZ, ht⟩ := iF ht;obtain ⟨us, hus, ht⟩ := iF ht;rw [sg];have e1 : fi.map a.eval = vs.toArray := by apply XM.1; simpa using g.Ps dZ
    have e2 : ca.map a.eval = us.toArray := by apply XM.1; simpa using g.Ps hus
    rw [e1, e2];exact ht
  case makeMap t r =>
    cases r with
    | none => rw [sg]; exact PO ht
    | some r => exact ht.elim
  case makeSlice t l c =>
    obtain ⟨v, hv, ht⟩ := bz ht;obtain ⟨u, hu, ht⟩ := bz ht;rw [g.ev hv, g.ev hu, sg];exact lT ht
  case slice t x lo hi mx =>
    obtain ⟨v, hv, ht⟩ := bz ht;obtain ⟨vs, dZ, ht⟩ := iF ht;have dZ := g.Ps dZ;rw [g.ev hv, sg];unfold TI at ht
    cases lo <;> cases hi <;> cases mx <;> simp only [Option.toList, List.nil_append, List.append_nil, List.map_cons, List.map_nil, List.cons_append] at dZ <;> subst dZ <;>
      first | exact ht.elim | exact IF ht
  case fieldAddr s x f =>
    obtain ⟨v, hv, ht⟩ := bz ht;rw [g.ev hv, sg];cases hd : P.underlying s with
    | none => cases v <;> simp only [hd] at ht <;> exact ht.elim
    | some d =>
      cases v <;> first
        | (cases d <;> simp only [hd] at ht <;> exact ht.elim)
        | skip
      rename_i p;cases d <;> simp only [hd] at ht <;> first | exact ht.elim | skip
      rename_i fs;cases hf : fs[f]? with
      | none => simp only [hf] at ht; exact ht.elim
      | some fd =>
        simp only [hf] at ht;cases hc : P.cellsOf fd.type with
        | zero => simp only [hc] at ht; exact ht.elim
        | succ m =>
          simp only [hc] at ht;obtain ⟨q, rfl, ht⟩ := fW ht
          have hi : ∃ i, P.info? fd.type = some i := by
            cases hi : P.info? fd.type with
            | none => simp [Program.cellsOf, hi] at hc
            | some i => exact ⟨i, rfl⟩
          obtain ⟨i, hi⟩ := hi;unfold Instr.fieldAt;rw [ar, aF hd];simp only [hf];show aS P (fieldPlace q fd >>= fun y => (pure (Value.pointer (some y)) : Sem ZB)) h _;unfold fieldPlace;rw [ar, ar, bS hi, hc];exact ht
  case field s x f =>
    obtain ⟨v, hv, ht⟩ := bz ht;rw [g.ev hv, sg];cases hd : P.underlying s with
    | none => cases v <;> simp only [hd] at ht <;> exact ht.elim
    | some d =>
      cases v <;> first
        | (cases d <;> simp only [hd] at ht <;> exact ht.elim)
        | skip
      rename_i cs;cases d <;> simp only [hd] at ht <;> first | exact ht.elim | skip
      rename_i fs;cases hf : fs[f]? with
      | none => simp only [hf] at ht; exact ht.elim
      | some fd =>
        simp only [hf] at ht;unfold Instr.field;rw [ar, aF hd];simp only [hf];show aS P (part fd.type cs fd.offset) h _;exact KI ht
  case indexAddr t x i =>
    obtain ⟨v, hv, ht1⟩ := bz ht;obtain ⟨u, hu, ht2⟩ := bz ht1;clear ht ht1;rw [g.ev hv, g.ev hu, sg];clear hv hu;unfold xF at ht2;generalize hd : P.underlying t = ud at ht2;split at ht2
    · rename_i p len cp k m el
      rcases fH ht2 with ⟨_, ht⟩ | ⟨hT, ht⟩
      · exact ht.elim
      · have hT : mV P el = true := by simpa using hT
        obtain ⟨i, hi⟩ := X0.1 hT;obtain ⟨hb, ht⟩ := ht;obtain ⟨q, rfl, ht⟩ := fW ht;unfold Instr.indexAt;show aS P (underlying t >>= _) h _;rw [ar, aF hd];show aS P (underlying t >>= _) h _;rw [ar, aF hd];show aS P (if 0 <= m /\ m < len then (sizeOf el >>= fun z => (pure (Value.pointer (some (q.add (m.toNat * z)))) : Sem ZB)) else _) h _;rw [Xb hb, ar, bS hi];exact ht
    · rename_i p k m len el
      rcases fH ht2 with ⟨_, ht⟩ | ⟨hT, ht⟩
      · exact ht.elim
      · have hT : mV P el = true := by simpa using hT
        obtain ⟨i, hi⟩ := X0.1 hT;obtain ⟨hb, ht⟩ := ht;obtain ⟨q, rfl, ht⟩ := fW ht;unfold Instr.indexAt;show aS P (underlying t >>= _) h _;rw [ar, aF hd];show aS P (underlying t >>= _) h _;rw [ar, aF hd];show aS P (if 0 <= m /\ m < len then (sizeOf el >>= fun z => (pure (Value.pointer (some (q.add (m.toNat * z)))) : Sem ZB)) else _) h _;rw [Xb hb, ar, bS hi];exact ht
    · exact ht2.elim
  case index t x i =>
    obtain ⟨v, hv, ht1⟩ := bz ht;obtain ⟨u, hu, ht2⟩ := bz ht1;clear ht ht1;rw [g.ev hv, g.ev hu, sg];clear hv hu;unfold F6 at ht2;generalize hd : P.underlying t = ud at ht2;split at ht2
    · rename_i s k m
      obtain ⟨hb, ht⟩ := ht2;unfold Instr.index;show aS P (underlying t >>= _) h _;rw [ar, aF hd]
      have hs : s[m.toNat]? = some (s.data.toList.getD m.toNat 0) := by
        have hlt : m.toNat < s.size :=ad
        have : s[m.toNat]? = some s[m.toNat] := by simp [hlt]
        rw [this]
        congr 1
        have h2 : m.toNat < s.data.toList.length := by simpa using hlt
        rw [XT, W5 h2] <;> rfl
      show aS P (match (if 0 <= m then s[m.toNat]? else none) with | some b => (pure (Value.int .u8 b.toNat) : Sem ZB) | none => boundsPanic k m s.size .index) h _;rw [Xb hb.1, hs];exact ht
    · exact mW ht2
    · exact ht2.elim
  case lookup t m x ok =>
    obtain ⟨v, hv, ht⟩ := bz ht;obtain ⟨u, hu, ht⟩ := bz ht;rw [g.ev hv, g.ev hu, sg];generalize hd : P.underlying t = ud at ht;split at ht
    · cases ok <;> simp only at ht <;> exact mW ht
    · exact ht.elim
  case mapUpdate t m x y =>
    obtain ⟨v, hv, ht⟩ := bz ht;obtain ⟨u, hu, ht⟩ := bz ht;obtain ⟨w, hw, ht⟩ := bz ht;rw [g.ev hv, g.ev hu, g.ev hw, VE];exact ht
  case insert t m x y =>
    obtain ⟨v, hv, ht⟩ := bz ht;obtain ⟨u, hu, ht⟩ := bz ht;obtain ⟨w, hw, ht⟩ := bz ht;rw [g.ev hv, g.ev hu, g.ev hw, VE];exact ht
  case mapEntry t m x =>
    obtain ⟨v, hv, ht⟩ := bz ht;obtain ⟨u, hu, ht⟩ := bz ht;rw [g.ev hv, g.ev hu, sg];generalize hd : P.underlying t = ud at ht;split at ht
    · exact mW ht
    · exact ht.elim
  case entryStore t m x y =>
    obtain ⟨v, hv, ht⟩ := bz ht;obtain ⟨u, hu, ht⟩ := bz ht;obtain ⟨w, hw, ht⟩ := bz ht;rw [g.ev hv, g.ev hu, g.ev hw, VE];exact ht
  case range t x =>
    obtain ⟨v, hv, ht⟩ := bz ht;rw [g.ev hv, sg];exact PD ht
  case next it b =>
    obtain ⟨v, hv, ht⟩ := bz ht;rw [g.ev hv, sg];generalize hd : P.underlying type = ud at ht;split at ht
    · rename_i ts
      generalize hts : ts.toList = tl at ht;cases tl with
      | nil =>
        refine dK _ _ _ _ ?_ ht;rintro v h' (⟨rfl, hx⟩ | ⟨x, rfl, hx⟩)
        · exact hx
        · rw [dE] at hx; exact hx
      | cons t0 ts =>
        refine dK _ _ _ _ ?_ ht;rintro v h' (⟨rfl, hx⟩ | ⟨x, rfl, hx⟩)
        · exact hx
        · rw [dE] at hx; exact hx
    · exact ht.elim
  case entry it =>
    obtain ⟨v, hv, ht⟩ := bz ht;rw [g.ev hv, sg];exact mW ht
  case typeAssert x t d ok =>
    obtain ⟨v, hv, ht⟩ := bz ht;rw [g.ev hv, sg];cases ok <;> simp only at ht <;> exact mW ht
  case extract x i =>
    obtain ⟨v, hv, ht⟩ := bz ht;rw [g.ev hv, sg];cases v with
    | tuple vs =>
      unfold Instr.extract;show aS P (match vs[i]? with | some v => pure v | none => stuck "Extract: no such component") h _
      rw [<- Yn];cases hi : vs.toList[i]? with
      | none => simp only [hi] at ht; exact ht.elim
      | some w => simp only [hi] at ht; exact ht
    | _ => exact ht.elim
  case call c =>
    rw [ar];unfold resolve;cases hc : c.callee with
    | builtin b =>
      simp only [hc] at ht;obtain ⟨vs, dZ, ht⟩ := iF ht;have e1 : c.args.map a.eval = vs.toArray := by apply XM.1; simpa using g.Ps dZ
      simp only [e1];exact E0 ht
    | invoke r m => simp only [hc] at ht; exact ht.elim
    | value f =>
      simp only [hc] at ht;cases htm : Eg f with
      | true =>
        simp only [htm] at ht;obtain ⟨gv, hg, ht⟩ := bz ht;obtain ⟨vs, dZ, ht⟩ := iF ht;have e1 : c.args.map a.eval = vs.toArray := by apply XM.1; simpa using g.Ps dZ
        simp only [e1, g.ev hg];obtain ⟨f', fi, ca, rfl, ht, fn, hfn, hb, hn⟩ := ht
        have hbd : fF P f' = true := by
          unfold fF;rw [hfn];simp [hb, hn]
        show aS P (callFunc f' (fi ++ vs.toArray ++ ca)) h _
        have e2 : (fi.toList ++ vs ++ ca.toList).toArray = fi ++ vs.toArray ++ ca := by
          apply XM.1; simp
        rw [<- e2, vj hbd];refine HC.mono ht ?_;rintro v h' ⟨x, rfl, hx⟩;rw [dE] at hx;exact hx
      | false =>
        simp only [htm] at ht;obtain ⟨gv, hg, ht⟩ := bz ht;obtain ⟨vs, dZ, ht⟩ := iF ht;have e1 : c.args.map a.eval = vs.toArray := by apply XM.1; simpa using g.Ps dZ
        simp only [e1, g.ev hg]
        obtain ⟨f, fi, ca, rfl⟩ : ∃ f fi ca, gv = .func (.func f) fi ca := by
          cases gv with
          | func fn fi ca => cases fn <;> first | exact ht.elim | exact ⟨_, _, _, rfl⟩
          | _ => exact ht.elim
        have := Mq (show BS P f (fi.toList ++ vs ++ ca.toList) type kk L K h from ht);show aS P (callFunc f (fi ++ vs.toArray ++ ca)) h _
        have e2 : (fi.toList ++ vs ++ ca.toList).toArray = fi ++ vs.toArray ++ ca := by
          apply XM.1; simp
        rw [<- e2];exact this
  all_goals exact ht.elim
end ops
end Go.Sx
