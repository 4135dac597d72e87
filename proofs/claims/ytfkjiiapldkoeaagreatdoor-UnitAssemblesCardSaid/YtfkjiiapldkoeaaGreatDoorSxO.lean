/- Part of the framework. No condition. -/
import Derived.Test.YtfkjiiapldkoeaaGreatDoorSxX
set_option linter.all false
set_option maxHeartbeats 4000000
namespace Go.Sx
section sems
variable {P:Program} {h:Hp}
def eF {α:Type} (f:Program->Sem α) (K:α->Hp->Prop):aV P (program >>= f) h K=aV P (f P) h K:=by
 rw [aD]; rfl
def aL {t:TypeId} {d:TypeDesc} (hd:P.underlying t=some d) (K:TypeDesc->Hp->Prop):aV P (underlying t) h K=K d h:=by
 unfold underlying; rw [eF,hd]; rfl
def info_of_underlying {t:TypeId} {d:TypeDesc} (hd:P.underlying t=some d):∃ i,P.info? t=some i:=by
 unfold Program.underlying at hd;cases hi:P.info? t with
 | none=>rw [hi] at hd; simp at hd
 | some i=>exact ⟨i,rfl⟩
def jg {t:TypeId} {i:TypeInfo} (hi:P.info? t=some i) (K:TypeInfo->Hp->Prop):aV P (typeInfo t) h K=K i h:=by
 unfold typeInfo; rw [eF,hi]; rfl
def eC {t:TypeId} {i:TypeInfo} (hi:P.info? t=some i):P.cellsOf t=i.size:=by
 simp [Program.cellsOf,hi]
def bV {t:TypeId} {i:TypeInfo} (hi:P.info? t=some i) (K:Nat->Hp->Prop):aV P (sizeOf t) h K=K (P.cellsOf t) h:=by
 unfold sizeOf; rw [aD,jg hi,eC hi]; rfl
def eO {t:TypeId} {z:XB} (hz:(P.info? t).bind (·.zero)=some z) (K:XB->Hp->Prop):aV P (zeroValue t) h K=K z h:=by
 cases hi:P.info? t with
 | none=>rw [hi] at hz; simp at hz
 | some i =>
  rw [hi] at hz; simp at hz;unfold zeroValue; rw [aD,jg hi,hz]; rfl
def iZ {t:TypeId} {b:Bool} (hb:du P t=some b) (K:Bool->Hp->Prop):aV P (isAgg t) h K=K b h:=by
 unfold du at hb;cases hd:P.underlying t with
 | none=>rw [hd] at hb; simp at hb
 | some d =>
  rw [hd] at hb;unfold isAgg; rw [aD,aL hd]
  all_goals (cases d <;> simp at hb <;> subst hb <;> rfl)
def rQ {t:TypeId} {b:Bool} (hb:du P t=some b):∃ i,P.info? t=some i:=by
 unfold du at hb;cases hd:P.underlying t with
 | none=>rw [hd] at hb; simp at hb
 | some d=>exact info_of_underlying hd
theorem lp (a:XC):∀ (vs:List XB) (i:Nat) (acc:Array XB) (K:Array XB->Hp->Prop),bk h a i vs->K (acc++vs.toArray) h ->
  aV P (loadCellsFrom a i vs.length acc) h K
 | [],i,acc,K,_,hk=>by
  have hk':K acc h:=by simpa using hk
  exact hk'
 | v::vs,i,acc,K,hc,hk=>by
  simp only [List.length_cons,loadCellsFrom];rw [aD];refine ⟨v,hc.1,lp a vs (i+1) (acc.push v) K hc.2 ?_⟩;have e:acc.push v++vs.toArray=acc++(v::vs).toArray:=by
   apply O5.1; simp
  rw [e]; exact hk
def fM {a:XC} {n:Nat} {vs:List XB} (hn:vs.length=n) (hc:bk h a 0 vs) (K:Array XB->Hp->Prop) (hk:K vs.toArray h):aV P (loadCells a n) h K:=by
 subst hn;exact lp a vs 0 #[] K hc (by simpa using hk)
theorem fc (a:XC):∀ (vs:List XB) (h:Hp) (i:Nat) (K:Unit->Hp->Prop),CI h a i vs->K () (yS h a i vs)->aV P (storeCells a vs i) h K
 | [],h,i,K,_,hk=>hk
 | v::vs,h,i,K,hc,hk=>by
  simp only [storeCells];rw [aD];exact ⟨hc.1,hc.2.1,hc.2.2.1,fc a vs _ (i+1) K hc.2.2.2 hk⟩
end sems
structure Nd where
 n:Nat
 d:List Deferred
instance:Coe Nd Nat:=⟨Nd.n⟩
structure jO (n:Nd) (e:Env) (a:Act):Prop where
 size:a.tmps.size=n.n
 defers:a.defers=n.d
 get:∀ s v,cF e s=some v->a.tmps.getD s undef=v
def jO.ev {n:Nd} {e:Env} {a:Act} (g:jO n e a) {x:Operand} {v:XB} (hx:ev e x=some v):a.eval x=v:=by
 cases x with
 | tmp t=>exact g.get t v hx
 | const w=>simpa [Sx.ev,Act.eval] using hx
 | global i=>simpa [Sx.ev,Act.eval] using hx
 | func f=>simpa [Sx.ev,Act.eval] using hx
def eo (e:Env) (s:Nat) (v:Option XB) (t:Nat):cF ((s,v)::e) t=if s=t then v else cF e t:=by
 simp only [cF]
 by_cases h:s=t
 ·subst h; simp
 ·have:Nat.beq s t=false:=by
   cases hb:Nat.beq s t
   ·rfl
   ·exact (h (Ps hb)).elim
  rw [this,OG h]; rfl
def jO.put {n:Nd} {e:Env} {a:Act} (g:jO n e a) (dst:Option Tmp) (v:XB):jO n (eR n e dst v) (a.put dst v):=by
 cases dst with
 | none=>exact g
 | some d =>
  refine ⟨by simp [Act.put,g.size],by simp [Act.put,g.defers],fun s u hu=>?_⟩;simp only [eR] at hu;cases hb:Nat.blt d n with
  | true =>
   have hd:d<n:=by simpa [Nat.blt_eq] using hb
   rw [hb] at hu;simp only [cond_true,eo] at hu;simp only [Act.put,Array.getD_eq_getD_getElem?,Array.getElem?_setIfInBounds]
   by_cases hs:d=s
   ·subst hs;rw [OH rfl] at hu;simp at hu; subst hu;simp [g.size,hd]
   ·rw [OG hs] at hu;rw [OG hs]
    have:=g.get s u hu
    simpa [Array.getD_eq_getD_getElem?] using this
  | false =>
   rw [hb] at hu;have hd:¬ d<n:=by intro hh; rw [<- Nat.blt_eq] at hh; rw [hb] at hh; cases hh
   have hput:a.put (some d) v=a:=by
    simp only [Act.put]
    have:a.tmps.setIfInBounds d v=a.tmps:=Array.setIfInBounds_eq_of_size_le (by rw [g.size]; exact Nat.le_of_not_lt hd)
    rw [this]
   rw [hput];exact g.get s u hu
def jO.tK {n:Nd} {e:Env} {a:Act} (g:jO n e a) {s:Nat} {v:XB} (hv:cF e s=some v) (w:XB) (hw:w=v):jO n (eR n e (some s) w) a:=by
 subst hw;refine ⟨g.size,g.defers,fun t u hu=>?_⟩;simp only [eR] at hu;cases hb:Nat.blt s n with
 | true =>
  rw [hb] at hu;simp only [cond_true,eo] at hu
  by_cases hs:s=t
  ·subst hs; rw [OH rfl] at hu; simp at hu; subst hu; exact g.get s w hv
  ·rw [OG hs] at hu; exact g.get t u hu
 | false=>rw [hb] at hu; exact g.get t u hu
section trees
variable {L:Lp} {K:XB->Hp->Prop} {h:Hp}
def bw {e:Env} {x:Operand} {k:XB->T} (ht:bP e x k L K h):∃ v,ev e x=some v/\k v L K h:=by
 unfold bP at ht;cases hx:ev e x with
 | none=>rw [hx] at ht; exact ht.elim
 | some v=>rw [hx] at ht; exact ⟨v,rfl,ht⟩
theorem ia {e:Env}:∀ {xs:List Operand} {k:List XB->T},iN e xs k L K h->∃ vs,xs.map (ev e)=vs.map some/\k vs L K h
 | [],k,ht=>⟨[],rfl,ht⟩
 | x::xs,k,ht=>by
  obtain ⟨v,hv,ht⟩:=bw ht;obtain ⟨vs,gb,ht⟩:=ia ht;exact ⟨v::vs,by simp [hv,gb],ht⟩
theorem jO.JR {n:Nd} {e:Env} {a:Act} (g:jO n e a):∀ {xs:List Operand} {vs:List XB},xs.map (Sx.ev e)=vs.map some->xs.map a.eval=vs
 | [],[],_=>rfl
 | x::xs,v::vs,hh=>by
  simp only [List.map_cons,List.cons.injEq] at hh;simp only [List.map_cons,g.ev hh.1,g.JR hh.2]
 | [],v::vs,hh=>by simp at hh
 | x::xs,[],hh=>by simp at hh
def fP {p:Option XC} {k:XC->T} (ht:T.aA p k L K h):∃ a,p=some a/\k a L K h:=by
 cases p with
 | none=>exact ht.elim
 | some a=>exact ⟨a,rfl,ht⟩
def fv {b:Bool} {t u:T} (ht:(cond b t u) L K h):(b=true/\t L K h)\/(b=false/\u L K h):=by
 cases b
 ·exact .inr ⟨rfl,ht⟩
 ·exact .inl ⟨rfl,ht⟩
end trees
section ops
variable {P:Program} {L:Lp} {K:XB->Hp->Prop} {h:Hp}
def rO {s:Sem XB} {R:XB->Hp->Prop}:aV P (do pure (Next.value (<- s))) h (As P R)=aV P s h R:=by
 rw [aD]; rfl
def Nu {s:Sem Unit} {R:XB->Hp->Prop}:aV P (do s; pure Next.skip) h (As P R)=aV P s h (fun _ h'=>R undef h'):=by
 rw [aD]; rfl
def mh {s:Sem XB} {tup:Bool} {cs:List fX} {kk:XB->T} (ht:T.fb P s tup cs (dJ _ fun l=>kk (rv tup cs l)) L K h) :
  aV P s h (fun v h'=>kk v L K h'):=by
 refine dP _ _ _ _ ?_ ht;rintro v h' ⟨x,rfl,hx⟩;rw [fz] at hx;exact hx
def lu {s:Sem XB} {el:TypeId} {kk:XB->T} (ht:T.fb P s false [(false,[.slice el])] (fun p l c=>kk (.slice p l c)) L K h) :
  aV P s h (fun v h'=>kk v L K h'):=by
 refine dP _ _ _ _ ?_ ht;rintro v h' ⟨x,rfl,hx⟩;exact hx
def Ks {s:Sem XB} {kk:XB->T} (ht:T.fb P s false [(false,[.bool])] (fun b=>kk (.bool b)) L K h):aV P s h (fun v h'=>kk v L K h'):=by
 refine dP _ _ _ _ ?_ ht;rintro v h' ⟨x,rfl,hx⟩;exact hx
def AR {s:Sem XB} {kk:XB->T} (ht:T.fb P s false [(false,[.int .i64])] (fun b=>kk (.int .i64 b)) L K h):aV P s h (fun v h'=>kk v L K h'):=by
 refine dP _ _ _ _ ?_ ht;rintro v h' ⟨x,rfl,hx⟩;exact hx
def JA {s:Sem XB} {kk:XB->T} (ht:T.fb P s false [(false,[.string])] (fun b=>kk (.string b)) L K h):aV P s h (fun v h'=>kk v L K h'):=by
 refine dP _ _ _ _ ?_ ht;rintro v h' ⟨x,rfl,hx⟩;exact hx
def Kd {s:Sem XB} {a b:TypeId} {kk:XB->T} (ht:T.fb P s false [(false,[.map a b])] (fun b=>kk (.map b)) L K h):aV P s h (fun v h'=>kk v L K h'):=by
 refine dP _ _ _ _ ?_ ht;rintro v h' ⟨x,rfl,hx⟩;exact hx
def JY {s:Sem XB} {a:TypeId} {kk:XB->T} (ht:T.fb P s false [(false,[.pointer a])] (fun b=>kk (.pointer b)) L K h):aV P s h (fun v h'=>kk v L K h'):=by
 refine dP _ _ _ _ ?_ ht;rintro v h' ⟨x,rfl,hx⟩;exact hx
def Jk {s:Sem XB} {kk:T} (ht:T.fb P s true [] kk L K h):aV P s h (fun v h'=>v=.tuple #[]/\kk L K h'):=by
 refine dP _ _ _ _ ?_ ht;rintro v h' ⟨x,rfl,hx⟩;exact ⟨rfl,hx⟩
def Jr {op : BinOp} {k : IntKind} {m n : Int} {kk : XB -> T} (hs : nN op = false) (t : TypeId) (ht : IS op k m n kk L K h) :
    aV P (binOp op t (.int k m) (.int k n)) h (fun v h' => kk v L K h') := by
  cases op <;> simp only [nN, Bool.true_eq_false] at hs <;> simp only [IS] at ht <;>
    first
    | exact ht.elim
    | (simp only [binOp, Op.intArith, Op.intDiv, Op.intBits, Op.intCmp, ne_eq, not_true_eq_false, if_false]; exact ht)
    | (obtain ⟨h0, ht⟩ := ht
       simp only [binOp, Op.intDiv, ne_eq, not_true_eq_false, if_false, if_neg h0]; exact ht)
def GD {op:BinOp} {k k':IntKind} {m n:Int} {kk:XB->T} (hs:nN op=true) (t:TypeId) (ht:xG op k m n kk L K h) :
  aV P (binOp op t (.int k m) (.int k' n)) h (fun v h'=>kk v L K h'):=by
 cases op <;> simp only [nN,Bool.false_eq_true] at hs <;> simp only [xG] at ht <;> obtain ⟨h0,ht⟩:=ht <;>
  simp only [binOp,Op.shift,if_neg (Int.not_lt.2 h0)] <;> exact ht
def KJ {op : BinOp} {m n : XA} {kk : XB -> T} (t : TypeId) (ht : IJ op m n kk L K h) :
    aV P (binOp op t (.string m) (.string n)) h (fun v h' => kk v L K h') := by
  cases op <;> simp only [IJ] at ht <;>
    first
    | exact ht.elim
    | (simp only [binOp, Op.stringOp]; exact ht)
    | (obtain ⟨h0, ht⟩ := ht
       simp only [binOp, Op.stringOp, if_neg (Int.not_lt.2 h0)]; exact ht)
def zE:XB->Bool
 | .nilIface=>false
 | .agg _=>false
 | _=>true
def fR {op:BinOp} {t:TypeId} {x y:Operand} {a b:XB} (ha:zE a=true) {R:XB->Hp->Prop} :
  aV P (do eqGuard op t x y a b; binOp op t a b) h R=aV P (binOp op t a b) h R:=by
 rw [aD]
 have:∀ K:Unit->Hp->Prop,aV P (eqGuard op t x y a b) h K=K () h:=by
  intro K;cases op <;> first | rfl | (cases a <;> first | (simp [zE] at ha; done) | rfl)
 rw [this]
def DW {t:TypeId} (hd:P.underlying t=some .bool) (m n:Bool) (R:Bool->Hp->Prop):aV P (Op.equal t (.bool m) (.bool n)) h R=R (m==n) h:=by
 show aV P (Op.equalIn (9999+1) t (.bool m) (.bool n)) h R=_;unfold Op.equalIn;rw [aD,aL hd]; rfl
def zl {t e:TypeId} (hd:P.underlying t=some (.pointer e)) (p:Option XC) (R:Bool->Hp->Prop):aV P (Op.equal t (.pointer p) (.pointer none)) h R=R p.isNone h:=by
 show aV P (Op.equalIn (9999+1) t (.pointer p) (.pointer none)) h R=_;unfold Op.equalIn;rw [aD,aL hd]; cases p <;> rfl
def wy {t e:TypeId} (hd:P.underlying t=some (.slice e)) (p:Option XC) (l c:Nat) (R:Bool->Hp->Prop):aV P (Op.equal t (.slice p l c) (.slice none 0 0)) h R=R p.isNone h:=by
 show aV P (Op.equalIn (9999+1) t (.slice p l c) (.slice none 0 0)) h R=_;unfold Op.equalIn;rw [aD,aL hd]; cases p <;> rfl
def ze {t a b:TypeId} (hd:P.underlying t=some (.map a b)) (p:Option Nat) (R:Bool->Hp->Prop):aV P (Op.equal t (.map p) (.map none)) h R=R p.isNone h:=by
 show aV P (Op.equalIn (9999+1) t (.map p) (.map none)) h R=_;unfold Op.equalIn;rw [aD,aL hd]; cases p <;> rfl
def tE {op:BinOp} {t:TypeId} {a b:XB} {r:Bool} {kk:XB->T}
  (hq:∀ R:Bool->Hp->Prop,aV P (Op.equal t a b) h R=R r h)
  (h1:binOp .eql t a b=(do pure (.bool (<- Op.equal t a b)))) (h2:binOp .neq t a b=(do pure (.bool (!(<- Op.equal t a b)))))
  (ht:asked op r kk T.fail L K h):aV P (binOp op t a b) h (fun v h'=>kk v L K h'):=by
 cases op <;> simp only [asked] at ht <;> first
  | exact ht.elim
  | (rw [h1,aD,hq]; exact ht)
  | (rw [h2,aD,hq]; exact ht)
def KK {op:BinOp} {t:TypeId} {x y:Operand} {a b:XB} {kk:XB->T} (ht:Mb P op t x y a b kk L K h) :
  aV P (do eqGuard op t x y a b; binOp op t a b) h (fun v h'=>kk v L K h'):=Ks ht
def JZ {e:Env} {op:BinOp} {t:TypeId} {x y:Operand} {a b:XB} {kk:XB->T} (hy:ev e y=some b)
  (ht:F0 P op t x y a b kk L K h):aV P (do eqGuard op t x y a b; binOp op t a b) h (fun v h'=>kk v L K h'):=by
 have hnil:∀ q,b=.pointer q->isNil y=true->q=none:=by
  intro q hq hn;cases y <;> simp only [isNil,Bool.false_eq_true] at hn;rename_i c;simp only [Sx.ev,Option.some.injEq] at hy;subst hy; subst hq;cases q with
  | none=>rfl
  | some a=>simp [isNil] at hn
 have hnilS:∀ q l c,b=.slice q l c->isNil y=true->q=none/\l=0/\c=0:=by
  intro q l c hq hn;cases y <;> simp only [isNil,Bool.false_eq_true] at hn;rename_i c;simp only [Sx.ev,Option.some.injEq] at hy;subst hy; subst hq;cases q with
  | none =>
   cases l <;> cases c <;> simp [isNil] at hn <;> exact ⟨rfl,rfl,rfl⟩
  | some a=>simp [isNil] at hn
 have hnilM:∀ q,b=.map q->isNil y=true->q=none:=by
  intro q hq hn;cases y <;> simp only [isNil,Bool.false_eq_true] at hn;rename_i c;simp only [Sx.ev,Option.some.injEq] at hy;subst hy; subst hq;cases q with
  | none=>rfl
  | some a=>simp [isNil] at hn
 unfold F0 at ht;cases hpt:vo P t x y with
 | false=>simp only [hpt] at ht; exact KK ht
 | true =>
 simp only [hpt] at ht;unfold BE at ht;split at ht
 ·rename_i k m k' n;rw [fR rfl];cases hs:nN op with
  | true=>simp only [hs] at ht; exact GD hs t ht
  | false =>
   simp only [hs] at ht
   by_cases hk:k=k'
   ·subst hk;simp only [decide_true] at ht;exact Jr hs t ht
   ·simp only [hk,decide_false] at ht;exact ht.elim
 ·rw [fR rfl]; exact KJ t ht
 ·rename_i m n;rw [fR rfl];cases hd:P.underlying t with
  | none=>simp only [hd] at ht; exact ht.elim
  | some d =>
   cases d <;> simp only [hd] at ht <;> first
    | exact ht.elim
    | exact tE (fun R=>DW hd m n R) rfl rfl ht
 ·rename_i p q;cases hd:P.underlying t with
  | none=>simp only [hd] at ht; exact ht.elim
  | some d =>
   cases d <;> simp only [hd] at ht <;> first
    | exact ht.elim
    | skip
   have hn:isNil y=true:=by simpa [vo,hd] using hpt
   obtain rfl:=hnil q rfl hn;rw [fR rfl]; exact tE (fun R=>zl hd p R) rfl rfl ht
 ·rename_i p l c q l' c';cases hd:P.underlying t with
  | none=>simp only [hd] at ht; exact ht.elim
  | some d =>
   cases d <;> simp only [hd] at ht <;> first
    | exact ht.elim
    | skip
   have hn:isNil y=true:=by simpa [vo,hd] using hpt
   obtain ⟨rfl,rfl,rfl⟩:=hnilS q _ _ rfl hn;rw [fR rfl]; exact tE (fun R=>wy hd p l c R) rfl rfl ht
 ·rename_i p q;cases hd:P.underlying t with
  | none=>simp only [hd] at ht; exact ht.elim
  | some d =>
   cases d <;> simp only [hd] at ht <;> first
    | exact ht.elim
    | skip
   have hn:isNil y=true:=by simpa [vo,hd] using hpt
   obtain rfl:=hnilM q rfl hn;rw [fR rfl]; exact tE (fun R=>ze hd p R) rfl rfl ht
 ·exact ht.elim
def Lm {op:UnOp} {a:XB} {kk:XB->T} (ht:Ma op a kk L K h):aV P (Op.unary op a) h (fun v h'=>kk v L K h'):=by
 unfold Ma at ht;split at ht
 ·exact ht
 ·exact ht
 ·exact ht
 ·exact ht.elim
def Iq {s d:TypeId} {a:XB} {kk:XB->T} (ht:BC P s d a kk L K h):aV P (convert s d a) h (fun v h'=>kk v L K h'):=by
 unfold BC at ht;generalize hs:P.underlying s=us at ht;generalize hd:P.underlying d=ud at ht;split at ht
 ·unfold convert;rw [aD,aL hs,aD,aL hd];exact ht
 ·unfold convert;rw [aD,aL hs,aD,aL hd];exact ht
 ·exact ht.elim
 ·exact lu ht
 ·exact JA ht
 ·exact ht.elim
def eu (y:Nat) (code:BoundsCode) {v:XB} {k:IntKind} {i:Int} (hv:v=.int k i) (h0:0<=i) (h1:i<=y) (R:Nat->Hp->Prop) :
  aV P (Instr.sliceBound v y code) h R=R i.toNat h:=by
 subst hv;unfold Instr.sliceBound;rw [aD];show aV P (if 0<=i/\i<=↑y then pure i.toNat else boundsPanic k i ↑y code) h R=_;rw [OH ⟨h0,h1⟩]; rfl
def pZ {v:XB} (hv:iS (some v)=true):∃ k i,v=.int k i:=by
 cases v <;> simp only [iS,Bool.false_eq_true] at hv;exact ⟨_,_,rfl⟩
def mz (isSlice:Bool) (len cap:Nat) {lo hi:Option XB} (il:iS lo=true) (ih:iS hi=true)
  (h0:0<=wv lo) (h1:wv lo<=tY len hi) (h2:tY len hi<=cap) (R:Nat × Nat × Nat->Hp->Prop) :
  aV P (Instr.sliceBounds isSlice len cap lo hi none) h R=R ((wv lo).toNat,(tY len hi).toNat,cap) h:=by
 unfold Instr.sliceBounds;cases hi with
 | none =>
  cases lo with
  | none=>rfl
  | some v =>
   obtain ⟨k,i,rfl⟩:=pZ il;have h0':0<=i:=h0;have h1':i<=len:=h1;show aV P (Instr.sliceBound (.int k i) len _ >>= fun l=>pure (l,len,cap)) h R=_;rw [aD,eu len _ rfl h0' h1']; rfl
 | some u =>
  obtain ⟨ku,iu,rfl⟩:=pZ ih;have hu0:(0:Int)<=iu:=Int.le_trans h0 h1;cases lo with
  | none =>
   show aV P (Instr.sliceBound (.int ku iu) cap _ >>= fun hh=>pure (0,hh,cap)) h R=_;have h2':iu<=cap:=h2;rw [aD,eu cap _ rfl hu0 h2']; rfl
  | some v =>
   obtain ⟨k,i,rfl⟩:=pZ il;show aV P (Instr.sliceBound (.int ku iu) cap _ >>= fun hh=>Instr.sliceBound (.int k i) hh _ >>= fun l=>pure (l,hh,cap)) h R=_;have h0':0<=i:=h0;have h1':i<=iu:=h1;have h2':iu<=cap:=h2;rw [aD,eu cap _ rfl hu0 h2',aD,eu _ _ rfl h0' (by rw [Int.toNat_of_nonneg hu0]; exact h1')]; rfl
def Fg {t:TypeId} {a:XB} {lo hi mx:Option XB} {kk:XB->T} (ht:kJ P t a lo hi mx kk L K h) :
  aV P (Instr.sliceAt t a lo hi mx) h (fun v h'=>kk v L K h'):=by
 unfold kJ at ht;cases hint:iS lo && iS hi && iS mx with
 | false=>simp only [hint] at ht; exact ht.elim
 | true =>
  simp only [hint] at ht;simp only [Bool.and_eq_true] at hint;obtain ⟨⟨il,ih⟩,im⟩:=hint;cases hd:P.underlying t with
  | none=>simp only [hd] at ht; exact lu ht
  | some d =>
   cases d <;> simp only [hd] at ht <;> first | exact lu ht | skip
   case string =>
    cases mx with
    | some m=>cases a <;> exact ht.elim
    | none =>
    cases a <;> first | exact ht.elim | skip
    rename_i s;obtain ⟨⟨h0,h1,h2⟩,ht⟩:=ht;unfold Instr.sliceAt;rw [aD,aL hd];show aV P (Instr.slice t (.string s) lo hi none) h _;unfold Instr.slice;rw [aD,aL hd];show aV P (Instr.sliceBounds false s.size s.size lo hi none >>= fun x=>(pure (Value.string (s.extract x.1 x.2.1)):Sem XB)) h _;rw [aD,mz false _ _ il ih h0 h1 h2];exact ht
   case slice el =>
    cases mx with
    | some m=>exact lu ht
    | none =>
    cases a <;> first | exact ht.elim | skip
    rename_i p len cap;simp only at ht;cases hT:sY P el with
    | false=>simp only [hT] at ht; exact ht.elim
    | true =>
     simp only [hT] at ht;obtain ⟨⟨h0,h1,h2⟩,ht⟩:=ht;obtain ⟨i,hi'⟩:=PG.1 hT;unfold Instr.sliceAt;rw [aD,aL hd];show aV P (Instr.slice t (.slice p len cap) lo hi none) h _;unfold Instr.slice;rw [aD,aL hd];show aV P (Instr.sliceBounds true len cap lo hi none >>= fun x=>sizeOf el >>= fun size=>(pure (Value.slice (if x.2.2=x.1 then p else p.map (·.add (x.1*size))) (x.2.1-x.1) (x.2.2-x.1)):Sem XB)) h _;rw [aD,mz true _ _ il ih h0 h1 h2,aD,bV hi'];exact ht
def G3 {t:TypeId} {cs:Array XB} {off:Nat} {kk:XB->T} (ht:xC P t cs.toList off kk L K h) :
  aV P (part t cs off) h (fun v h'=>kk v L K h'):=by
 have hx:∀ n,((cs.toList.drop off).take n).toArray=cs.extract off (off+n):=by
  intro n;apply O5.1;simp [Array.toList_extract,List.extract_eq_drop_take]
 unfold xC at ht;generalize hd:P.underlying t=ud at ht;split at ht
 ·obtain ⟨i,hi⟩:=info_of_underlying hd;unfold part;rw [aD,iZ (b:=true) (by simp [du,hd])];show aV P (sizeOf t >>= fun n=>(pure (Value.agg (cs.extract off (off+n))):Sem XB)) h _;rw [aD,bV hi,<- hx];exact ht
 ·obtain ⟨i,hi⟩:=info_of_underlying hd;unfold part;rw [aD,iZ (b:=true) (by simp [du,hd])];show aV P (sizeOf t >>= fun n=>(pure (Value.agg (cs.extract off (off+n))):Sem XB)) h _;rw [aD,bV hi,<- hx];exact ht
 ·rename_i d hns hna;unfold part;rw [aD,iZ (b:=false) (by simp only [du,hd])];show aV P (match cs[off]? with | some v => pure v | none => stuck "part: no such cell") h _
  rw [<- PC];cases hv:cs.toList[off]? with
  | none=>simp only [hv] at ht; exact ht.elim
  | some v=>simp only [hv] at ht; exact ht
 ·exact ht.elim
def uB {f:FuncId} (hb:ie P f=true) (args:Array XB) (R:Next->Hp->Prop):aV P (callFunc f args) h R=R (.enter f args) h:=by
 unfold ie at hb;unfold callFunc;rw [eF];cases hf:P.funcs[f]? with
 | none=>rw [hf] at hb; simp at hb
 | some fn =>
  rw [hf] at hb;simp only [Bool.and_eq_true,Bool.not_eq_true'] at hb;obtain ⟨h1,h2⟩:=hb;have h3:fn.body.isNone=false:=by cases hbd:fn.body <;> simp_all
  simp only [h2,h3]; rfl
def H' {f:FuncId} {args:List XB} {t:TypeId} {kk:XB->T} (ht:E3 P f args t kk L K h) :
  aV P (callFunc f args.toArray) h (As P fun v h'=>kk v L K h'):=by
 unfold E3 at ht;cases hb:ie P f with
 | false =>
  simp only [hb] at ht
  have:=mh ht
  unfold IY at this;rw [aD] at this;refine dP _ _ _ _ ?_ this;intro x h' hx;cases x <;> first | exact hx | exact hx.elim
 | true =>
  simp only [hb] at ht;rw [uB hb];refine HC.mono ht ?_;rintro v h' ⟨x,rfl,hx⟩;rw [fz] at hx;exact hx
def JB {c:Call} {t:TypeId} {args:List XB} {kk:XB->T} (ht:FC P c t args kk L K h) :
  aV P (Builtin.len_ c.argTypes t args.toArray) h (fun v h'=>kk v L K h'):=by
 unfold FC at ht;cases hd:(c.argTypes[0]?).bind P.underlying with
 | none=>simp only [hd] at ht; exact AR ht
 | some d =>
  obtain ⟨t0,ht0,hd'⟩:=Option.bind_eq_some_iff.1 hd;cases d <;> simp only [hd] at ht <;> first | exact AR ht | skip
  case string =>
   split at ht
   ·unfold Builtin.len_;simp only [ht0];show aV P (underlying t0 >>= _) h _;rw [aD,aL hd'];exact ht
   ·exact ht.elim
  case slice el =>
   split at ht
   ·unfold Builtin.len_;simp only [ht0];show aV P (underlying t0 >>= _) h _;rw [aD,aL hd'];exact ht
   ·exact ht.elim
def Jv {c:Call} {t:TypeId} {args:List XB} {kk:XB->T} (ht:FA P c args kk L K h) :
  aV P (Builtin.cap_ c.argTypes t args.toArray) h (fun v h'=>kk v L K h'):=by
 unfold FA at ht;cases hd:(c.argTypes[0]?).bind P.underlying with
 | none=>simp only [hd] at ht; exact ht.elim
 | some d =>
  obtain ⟨t0,ht0,hd'⟩:=Option.bind_eq_some_iff.1 hd;cases d <;> simp only [hd] at ht <;> first | exact ht.elim | skip
  split at ht
  ·unfold Builtin.cap_;simp only [ht0];show aV P (underlying t0 >>= _) h _;rw [aD,aL hd'];exact ht
  ·exact ht.elim
inductive uf:List (Nat × XB)->List (Nat × List XB)->Prop
 | nil:uf [] []
 | cons {i:Nat} {v:XB} {l:List XB} {ps:List (Nat × XB)} {r:List (Nat × List XB)} (h:v.cells.toList=l) (t:uf ps r):uf ((i,v)::ps) ((i,l)::r)
def FV {v:XB} (h:fE v=true):v.cells.toList=oR v:=by
 cases v <;> first | rfl | (simp [fE] at h)
def Ci {v:XB} (h:fE v=false):v.cells.toList=[v]:=by
 cases v <;> first | rfl | (simp [fE] at h)
theorem qM {agg:Nat->Option Bool}:∀ {ps:List (Nat × XB)} {k:List (Nat × List XB)->T},gJ agg ps k L K h->∃ r,uf ps r/\k r L K h
 | [],k,ht=>⟨[],.nil,ht⟩
 | (i,v)::l,k,ht=>by
  simp only [gJ] at ht;cases ha:agg i with
  | none=>rw [ha] at ht; exact ht.elim
  | some b =>
   rw [ha] at ht;cases b with
   | true =>
    rcases fv ht with ⟨hv,ht⟩ | ⟨_,ht⟩
    ·obtain ⟨r,hr,hk⟩:=qM ht;exact ⟨_,.cons (FV hv) hr,hk⟩
    ·exact ht.elim
   | false =>
    rcases fv ht with ⟨_,ht⟩ | ⟨hv,ht⟩
    ·exact ht.elim
    ·obtain ⟨r,hr,hk⟩:=qM ht;exact ⟨_,.cons (Ci hv) hr,hk⟩
theorem xt:∀ (l:List XB) (off k:Nat) (cs:Array XB),((l.zipIdx k).foldl (fun (cs:Array XB) (x:XB × Nat)=>cs.setIfInBounds (off+x.2) x.1) cs)=(FF cs.toList (off+k) l).toArray
 | [],off,k,cs=>by simp [FF]
 | v::l,off,k,cs=>by
  rw [List.zipIdx_cons,Pq,xt l off (k+1)];simp only [FF,Array.toList_setIfInBounds] <;> rfl
def EG {place:Nat->Option (Nat × Nat)} {ps:List (Nat × XB)} {r:List (Nat × List XB)} (hc:uf ps r):∀ {c cs:List XB},jT place c r=some cs->Instr.fill place c.toArray ps=some cs.toArray:=by
 induction hc with
 | nil=>intro c cs h; simp [jT] at h; subst h; rfl
 | @cons i v l ps r hv _ ih =>
  intro c cs h;unfold jT at h;unfold Instr.fill;split at h
  ·cases h
  ·rename_i off size hp;rw [hp];simp only;have hs:v.cells.size=l.length:=by rw [<- hv,Array.length_toList]
   cases hb:!(Nat.beq l.length size) || Nat.blt c.length (off+l.length) with
   | true=>rw [hb] at h; cases h
   | false =>
    rw [hb] at h;simp only [Bool.or_eq_false_iff,Bool.not_eq_false'] at hb;have h1:l.length=size:=Ps hb.1;have h2:¬ c.length<off+l.length:=fun hlt=>by
     have:=Nat.ble_eq_true_of_le hlt
     rw [show Nat.blt c.length (off+l.length)=Nat.ble (c.length+1) (off+l.length) from rfl,this] at hb;exact absurd hb.2 aj
    rw [OG (by simp [hs,h1]; omega)];have e:v.cells.zipIdx.foldl (fun cs (x:XB × Nat)=>cs.setIfInBounds (off+x.2) x.1) c.toArray=(FF c off l).toArray:=by
     rw [<- Array.foldl_toList,Array.toList_zipIdx,hv];exact xt l off 0 c.toArray
    have:=ih h
    rw [<- e] at this;exact this
def CP {b:Builtin} {c:Call} {t:TypeId} {args:List XB} {consts:Array Bool} {kk:XB->T} (ht:uo P b c t args kk L K h) :
  aV P (builtin b c.argTypes t consts args.toArray) h (As P fun v h'=>kk v L K h'):=by
 unfold uo at ht;split at ht
 ·show aV P (do pure (Next.value (<- Builtin.len_ c.argTypes t args.toArray))) h _;rw [rO]; exact JB ht
 ·show aV P (do pure (Next.value (<- Builtin.cap_ c.argTypes t args.toArray))) h _;rw [rO]; exact Jv ht
 ·show aV P (do pure (Next.value (<- Builtin.append_ c.argTypes t args.toArray))) h _;rw [rO]; exact lu ht
 ·show aV P (do pure (Next.value (<- Builtin.copy_ c.argTypes t args.toArray))) h _;rw [rO]; exact AR ht
 ·show aV P (do pure (Next.value (<- Builtin.min_ c.argTypes t args.toArray))) h _;rw [rO]; exact mh ht
 ·show aV P (do pure (Next.value (<- Builtin.max_ c.argTypes t args.toArray))) h _;rw [rO]; exact mh ht
 ·show aV P (do pure (Next.value (<- Builtin.delete_ c.argTypes t args.toArray))) h _;rw [rO];exact dP _ _ _ _ (fun v h' ⟨e,hk⟩=>by subst e; exact hk) (Jk ht)
 ·show aV P (do pure (Next.value (<- Builtin.unsafeString_ c.argTypes t args.toArray))) h _;rw [rO]; exact mh ht
 ·show aV P (do pure (Next.value (<- Builtin.unsafeSliceData_ c.argTypes t args.toArray))) h _;rw [rO]; exact mh ht
 ·exact ht.elim
def I9 {vs:List XB} {e:TypeId} {kk:XB->T} (ht:T.new vs e (fun a=>kk (.pointer (some a))) L K h) {cs:Array XB} (hv:cs=vs.toArray) :
  aV P (do pure (Value.pointer (some (<- newRow e cs)))) h (fun v h'=>kk v L K h'):=by
 subst hv;exact ht
def zP {n:Nat} {t:TypeId} {p:Option XC} {kk:XC->List XB->XB->T} {b:Bool} (hb:du P t=some b)
  (ht:(match b with
   | true=>(bif (gU P 9 t).length==P.cellsOf t then T.aA p fun a=>T.ah a (gU P 9 t) (dJ _ fun l=>kk a l (.agg l.toArray)) else T.fail)
   | false=>T.aA p fun a=>T.ah a (dM P t).2 (dJ _ fun l=>kk a l (l.headD undef))) L K h) :
  ∃ a l v,p=some a/\bk h a 0 l/\kk a l v L K h/\∀ h' (R:XB->Hp->Prop),bk h' a 0 l->R v h'->aV P (Instr.loadAt t (.pointer p)) h' R:=by
 obtain ⟨i,hi⟩:=rQ hb;cases b with
 | true =>
  simp only at ht;cases hl:(gU P 9 t).length==P.cellsOf t with
  | false=>rw [hl] at ht; exact ht.elim
  | true =>
   rw [hl] at ht;have hl':(gU P 9 t).length=P.cellsOf t:=by simpa using hl
   obtain ⟨a,rfl,ht⟩:=fP ht;obtain ⟨x,hc,ht⟩:=ht;rw [fz] at ht;refine ⟨a,gb _ x,_,rfl,hc,ht,fun h' R hc' hk=>?_⟩;unfold Instr.loadAt;show aV P (loadVar t a) h' R;unfold loadVar;rw [aD,iZ hb];show aV P (sizeOf t >>= fun n=>loadCells a n >>= fun cs=>(pure (Value.agg cs):Sem XB)) h' R;rw [aD,bV hi,aD];exact fM (by rw [ym,hl']) hc' _ hk
 | false =>
  simp only at ht;obtain ⟨a,rfl,ht⟩:=fP ht;obtain ⟨x,hc,ht⟩:=ht;rw [fz] at ht;have h1:∃ d,(dM P t).2=[d]:=by
   unfold du at hb;unfold dM;cases hd:P.underlying t with
   | none=>rw [hd] at hb; simp at hb
   | some d=>rw [hd] at hb; cases d <;> simp at hb <;> exact ⟨_,rfl⟩
  obtain ⟨d,hd⟩:=h1;refine ⟨a,gb _ x,_,rfl,hc,ht,fun h' R hc' hk=>?_⟩;revert x;rw [hd];intro x hc ht hc' hk;unfold Instr.loadAt;show aV P (loadVar t a) h' R;unfold loadVar;rw [aD,iZ hb];have hc0:=hc'.1
  have:a.add 0=a:=by simp [Addr.add]
  rw [this] at hc0;exact ⟨_,hc0,hk⟩
def Ho {n : Nd} {e : Env} {a : Act} (g : jO n e a) {t : TypeId} {x : Operand} {kk : XC -> List XB -> XB -> T} (ht : rZ P t x e kk L K h) :
    ∃ p l v, ev e x = some (.pointer (some p)) /\ bk h p 0 l /\ kk p l v L K h /\ ∀ h' (R : XB -> Hp -> Prop), bk h' p 0 l -> R v h' -> aV P (Instr.loadAt t (.pointer (some p))) h' R := by
  unfold rZ at ht;obtain ⟨v, hv, ht⟩ := bw ht;cases hb : du P t with
  | none => cases v <;> simp only [hb] at ht <;> exact ht.elim
  | some b =>
    cases v <;> first
      | (cases b <;> simp only [hb] at ht <;> exact ht.elim)
      | (rename_i p
         have ht' : (match b with
            | true => (bif (gU P 9 t).length == P.cellsOf t then T.aA p fun a => T.ah a (gU P 9 t) (dJ _ fun l => kk a l (.agg l.toArray)) else T.fail)
            | false => T.aA p fun a => T.ah a (dM P t).2 (dJ _ fun l => kk a l (l.headD undef))) L K h := by
            cases b <;> simp only [hb] at ht <;> exact ht
         obtain ⟨q, l, v, rfl, hc, hk, hall⟩ := zP (n := n) hb ht';exact ⟨q, l, v, hv, hc, hk, hall⟩)
def DQ {n : Nd} {o : Oper} {e : Env} {a : Act} (g : jO n e a) {kk : XB -> T} (ht : wR P o e kk L K h) :
    No P o a.eval h (fun v h' => kk v L K h') := by
  obtain ⟨dst, op, type, pos, after, guard⟩ := o;unfold No;cases op <;> simp only [wR] at ht <;> unfold execOp <;> simp only
  case move x => obtain ⟨v, hv, ht⟩ := bw ht; rw [g.ev hv]; exact ht
  case assign x => obtain ⟨v, hv, ht⟩ := bw ht; rw [g.ev hv]; exact ht
  case pick c x y =>
    obtain ⟨v, hv, ht⟩ := bw ht;rw [g.ev hv]
    cases v <;> simp only at ht <;> first
      | exact ht.elim
      | (rename_i b
         rw [aD];show aV P (pure b) h _;cases b
         · obtain ⟨w, hw, ht⟩ := bw (show bP e y kk L K h from ht); rw [g.ev hw]; exact ht
         · obtain ⟨w, hw, ht⟩ := bw (show bP e x kk L K h from ht); rw [g.ev hw]; exact ht)
  case alloc t =>
    cases hz : (P.info? t).bind (·.zero) with
    | none => simp only [hz] at ht; exact ht.elim
    | some z =>
      simp only [hz] at ht;rw [rO];unfold Instr.alloc;rw [aD, eO hz];exact I9 ht aj
  case box t x =>
    obtain ⟨v, hv, ht⟩ := bw ht;rw [g.ev hv, rO];unfold Instr.box newVar;cases hb : du P t with
    | none => simp only [hb] at ht; exact ht.elim
    | some b =>
      cases b <;> simp only [hb] at ht <;> rcases fv ht with ⟨hv, ht⟩ | ⟨hv, ht⟩ <;> first
        | exact ht.elim
        | (refine I9 ht ?_
           cases v <;> first | (simp [fE] at hv; done) | simp [Value.cells, oR])
  case build t ps =>
    obtain ⟨vs, gb, ht⟩ := ia ht;have gb := g.JR gb
    have hps : (ps.map fun x => (x.1, a.eval x.2)).toList = (ps.toList.map (·.1)).zip vs := by
      rw [<- gb];simp only [Array.toList_map];generalize ps.toList = l
      induction l with
      | nil => rfl
      | cons p l ih => simp [ih]
    rw [rO];unfold Instr.build;rw [aD];cases hz : (P.info? t).bind (·.zero) with
    | none =>
      generalize P.underlying t = ud at ht;cases ud with
      | none => simp only [hz] at ht; exact ht.elim
      | some d => cases d <;> simp only [hz] at ht <;> exact ht.elim
    | some z =>
      rw [eO hz];show aV P (underlying t >>= _) h _;cases hd : P.underlying t with
      | none => simp only [hd] at ht; exact ht.elim
      | some d =>
        rw [aD, aL hd];cases d <;> simp only [hd, hz] at ht <;> first | exact ht.elim | skip
        case array len el =>
          rcases fv ht with ⟨_, ht⟩ | ⟨hT, ht⟩
          · exact ht.elim
          · have hT : sY P el = true := by simpa using hT
            obtain ⟨i, hi⟩ := PG.1 hT;simp only;rw [aD, bV hi];have hps' : (Array.map (fun x => (x.1, a.eval x.2)) ps).toList = (ps.toList.map (·.1)).zip vs := hps;obtain ⟨ls, hls, ht⟩ := qM ht;cases hf : jT (fun i => some (i * P.cellsOf el, P.cellsOf el)) z.cells.toList ls with
            | none => simp only [hf] at ht; exact ht.elim
            | some cs =>
              simp only [hf] at ht;rw [hps', EG hls hf];exact ht
        case struct fs =>
          rcases fv ht with ⟨_, ht⟩ | ⟨hT, ht⟩
          · exact ht.elim
          · have hT : (fs.all fun f => sY P f.type) = true := by simpa using hT
            simp only;rw [aD]
            have hm : ∀ R : Array (Nat × Nat) -> Hp -> Prop, aV P (fs.mapM fun f => do pure (f.offset, <- sizeOf f.type)) h R = R (fs.map fun f => (f.offset, P.cellsOf f.type)) h := by
              intro R;rw [Array.mapM_eq_mapM_toList]
              have hT' : ∀ f ∈ fs.toList, sY P f.type = true := by
                intro f hf; exact (Array.all_eq_true_iff_forall_mem.1 hT) f (by simpa using hf)
              have : ∀ (l : List Field) (R : List (Nat × Nat) -> Hp -> Prop), (∀ f ∈ l, sY P f.type = true) ->
                  aV P (l.mapM fun f => (do pure (f.offset, <- sizeOf f.type) : Sem (Nat × Nat))) h R = R (l.map fun f => (f.offset, P.cellsOf f.type)) h := by
                intro l
                induction l with
                | nil => intro R _; rfl
                | cons f l ih =>
                  intro R hl;obtain ⟨i, hi⟩ := PG.1 (hl f aj);rw [List.mapM_cons, aD, aD, bV hi];show aV P ((l.mapM fun f => (do pure (f.offset, <- sizeOf f.type) : Sem (Nat × Nat))) >>= _) h R = _;rw [aD, ih _ (fun f hf => hl f (by simp [hf]))] <;> rfl
              show aV P (List.toArray <$> _) h R = _;rw [map_eq_pure_bind, aD, this _ _ hT'];show R (List.toArray _) h = _
              congr 1
              apply O5.1
              simp
            rw [hm];obtain ⟨ls, hls, ht⟩ := qM ht;cases hf : jT (fun i => (fs.map fun f => (f.offset, P.cellsOf f.type))[i]?) z.cells.toList ls with
            | none => simp only [hf] at ht; exact ht.elim
            | some cs =>
              simp only [hf] at ht;have hps' : (Array.map (fun x => (x.1, a.eval x.2)) ps).toList = (ps.toList.map (·.1)).zip vs := hps;rw [hps', EG hls hf];exact ht
  case buildSlice t len ps =>
    obtain ⟨vs, gb, ht⟩ := ia ht;have gb := g.JR gb
    have hps : (ps.map fun x => (x.1, a.eval x.2)) = ((ps.toList.map (·.1)).zip vs).toArray := by
      apply O5.1;rw [<- gb];simp only [Array.toList_map];generalize ps.toList = l
      induction l with
      | nil => rfl
      | cons p l ih => simpa using ih
    rw [rO];have hps' : (Array.map (fun x => (x.1, a.eval x.2)) ps) = ((ps.toList.map (·.1)).zip vs).toArray := hps;rw [hps'];exact lu ht
  case load t x =>
    have ht' : rZ P t x e (fun _ _ v => kk v) L K h := ht;obtain ⟨p, l, v, hv, hc, hk, hall⟩ := Ho g ht';rw [g.ev hv, rO];exact hall h _ hc hk
  case store t x y =>
    obtain ⟨v, hv, ht⟩ := bw ht;obtain ⟨u, hu, ht⟩ := bw ht;rw [g.ev hv, g.ev hu, Nu];cases hb : du P t with
    | none => cases v <;> simp only [hb] at ht <;> exact ht.elim
    | some b =>
      obtain ⟨i, hi⟩ := rQ hb
      cases v <;> first
        | (cases b <;> simp only [hb] at ht <;> exact ht.elim)
        | skip
      rename_i p;cases b <;> simp only [hb] at ht
      · rcases fv ht with ⟨hl, ht⟩ | ⟨hl, ht⟩
        · rcases fv ht with ⟨hag, ht⟩ | ⟨hag, ht⟩
          · exact ht.elim
          · obtain ⟨q, rfl, ht⟩ := fP ht
            obtain ⟨hc, ht⟩ := ht;unfold Instr.storeAt storeVar;show aV P (sizeOf t >>= _) h _;rw [aD, bV hi];have hcl : u.cells = #[u] := by cases u <;> first | (simp [fE] at hag; done) | rfl
            have h1 : P.cellsOf t = 1 := by simpa using hl
            rw [hcl, h1];exact fc q [u] h 0 _ hc ht
        · exact ht.elim
      · rcases fv ht with ⟨hag, ht⟩ | ⟨hag, ht⟩
        · rcases fv ht with ⟨hl, ht⟩ | ⟨hl, ht⟩
          · obtain ⟨q, rfl, ht⟩ := fP ht
            obtain ⟨hc, ht⟩ := ht;unfold Instr.storeAt storeVar;show aV P (sizeOf t >>= _) h _;rw [aD, bV hi];obtain ⟨cs, rfl⟩ : ∃ cs, u = .agg cs := by cases u <;> first | (simp [fE] at hag; done) | exact ⟨_, rfl⟩
            have h1 : cs.size = P.cellsOf t := by simpa [oR] using hl
            show aV P (if cs.size ≠ P.cellsOf t then _ else storeCells q cs.toList 0) h _;rw [OG (by simp [h1])];exact fc q cs.toList h 0 _ hc ht
          · exact ht.elim
        · exact ht.elim
  case nilCheck x =>
    obtain ⟨v, hv, ht⟩ := bw ht;rw [g.ev hv];cases v with
    | pointer p => obtain ⟨q, rfl, ht⟩ := fP ht; exact ht
    | func fn fi ca => cases fn <;> first | exact ht.elim | exact ht
    | iface t w => exact ht
    | _ => exact ht.elim
  case binOp op t x y yt =>
    obtain ⟨v, hv, ht⟩ := bw ht;obtain ⟨u, hu, ht⟩ := bw ht;rw [g.ev hv, g.ev hu, rO];exact JZ hu ht
  case unOp op t x => obtain ⟨v, hv, ht⟩ := bw ht; rw [g.ev hv, rO]; exact Lm ht
  case convert s d x => obtain ⟨v, hv, ht⟩ := bw ht; rw [g.ev hv, rO]; exact Iq ht
  case makeInterface t x =>
    obtain ⟨v, hv, ht⟩ := bw ht;rw [g.ev hv, rO];unfold Instr.makeInterface;cases hd : P.underlying t with
    | none => simp only [hd] at ht; exact ht.elim
    | some d =>
      rw [aD, aL hd];cases d <;> simp only [hd] at ht <;> first | exact ht.elim | exact ht
  case makeFunc fn fi ca =>
    obtain ⟨vs, gb, ht⟩ := ia ht;obtain ⟨us, hus, ht⟩ := ia ht;rw [rO];have e1 : fi.map a.eval = vs.toArray := by apply O5.1; simpa using g.JR gb
    have e2 : ca.map a.eval = us.toArray := by apply O5.1; simpa using g.JR hus
    rw [e1, e2];exact ht
  case makeMap t r =>
    cases r with
    | none => rw [rO]; exact Kd ht
    | some r => exact ht.elim
  case makeSlice t l c =>
    obtain ⟨v, hv, ht⟩ := bw ht;obtain ⟨u, hu, ht⟩ := bw ht;rw [g.ev hv, g.ev hu, rO];exact lu ht
  case slice t x lo hi mx =>
    obtain ⟨v, hv, ht⟩ := bw ht;obtain ⟨vs, gb, ht⟩ := ia ht;have gb := g.JR gb;rw [g.ev hv, rO];unfold Mq at ht
    cases lo <;> cases hi <;> cases mx <;> simp only [Option.toList, List.nil_append, List.append_nil, List.map_cons, List.map_nil, List.cons_append] at gb <;> subst gb <;>
      first | exact ht.elim | exact Fg ht
  case fieldAddr s x f =>
    obtain ⟨v, hv, ht⟩ := bw ht;rw [g.ev hv, rO];cases hd : P.underlying s with
    | none => cases v <;> simp only [hd] at ht <;> exact ht.elim
    | some d =>
      cases v <;> first
        | (cases d <;> simp only [hd] at ht <;> exact ht.elim)
        | skip
      rename_i p;cases d <;> simp only [hd] at ht <;> first | exact ht.elim | skip
      rename_i fs;cases hf : fs[f]? with
      | none => simp only [hf] at ht; exact ht.elim
      | some fd =>
        simp only [hf] at ht;cases hc : P.cellsOf fd.type with
        | zero => simp only [hc] at ht; exact ht.elim
        | succ m =>
          simp only [hc] at ht;obtain ⟨q, rfl, ht⟩ := fP ht
          have hi : ∃ i, P.info? fd.type = some i := by
            cases hi : P.info? fd.type with
            | none => simp [Program.cellsOf, hi] at hc
            | some i => exact ⟨i, rfl⟩
          obtain ⟨i, hi⟩ := hi;unfold Instr.fieldAt;rw [aD, aL hd];simp only [hf];show aV P (fieldPlace q fd >>= fun y => (pure (Value.pointer (some y)) : Sem XB)) h _;unfold fieldPlace;rw [aD, aD, bV hi, hc];exact ht
  case field s x f =>
    obtain ⟨v, hv, ht⟩ := bw ht;rw [g.ev hv, rO];cases hd : P.underlying s with
    | none => cases v <;> simp only [hd] at ht <;> exact ht.elim
    | some d =>
      cases v <;> first
        | (cases d <;> simp only [hd] at ht <;> exact ht.elim)
        | skip
      rename_i cs;cases d <;> simp only [hd] at ht <;> first | exact ht.elim | skip
      rename_i fs;cases hf : fs[f]? with
      | none => simp only [hf] at ht; exact ht.elim
      | some fd =>
        simp only [hf] at ht;unfold Instr.field;rw [aD, aL hd];simp only [hf];show aV P (part fd.type cs fd.offset) h _;exact G3 ht
  case indexAddr t x i =>
    obtain ⟨v, hv, ht1⟩ := bw ht;obtain ⟨u, hu, ht2⟩ := bw ht1;clear ht ht1;rw [g.ev hv, g.ev hu, rO];clear hv hu;unfold Cx at ht2;generalize hd : P.underlying t = ud at ht2;split at ht2
    · rename_i p len cp k m el
      rcases fv ht2 with ⟨_, ht⟩ | ⟨hT, ht⟩
      · exact ht.elim
      · have hT : sY P el = true := by simpa using hT
        obtain ⟨i, hi⟩ := PG.1 hT;obtain ⟨hb, ht⟩ := ht;obtain ⟨q, rfl, ht⟩ := fP ht;unfold Instr.indexAt;show aV P (underlying t >>= _) h _;rw [aD, aL hd];show aV P (underlying t >>= _) h _;rw [aD, aL hd];show aV P (if 0 <= m /\ m < len then (sizeOf el >>= fun z => (pure (Value.pointer (some (q.add (m.toNat * z)))) : Sem XB)) else _) h _;rw [OH hb, aD, bV hi];exact ht
    · rename_i p k m len el
      rcases fv ht2 with ⟨_, ht⟩ | ⟨hT, ht⟩
      · exact ht.elim
      · have hT : sY P el = true := by simpa using hT
        obtain ⟨i, hi⟩ := PG.1 hT;obtain ⟨hb, ht⟩ := ht;obtain ⟨q, rfl, ht⟩ := fP ht;unfold Instr.indexAt;show aV P (underlying t >>= _) h _;rw [aD, aL hd];show aV P (underlying t >>= _) h _;rw [aD, aL hd];show aV P (if 0 <= m /\ m < len then (sizeOf el >>= fun z => (pure (Value.pointer (some (q.add (m.toNat * z)))) : Sem XB)) else _) h _;rw [OH hb, aD, bV hi];exact ht
    · exact ht2.elim
  case index t x i =>
    obtain ⟨v, hv, ht1⟩ := bw ht;obtain ⟨u, hu, ht2⟩ := bw ht1;clear ht ht1;rw [g.ev hv, g.ev hu, rO];clear hv hu;unfold Hj at ht2;generalize hd : P.underlying t = ud at ht2;split at ht2
    · rename_i s k m
      obtain ⟨hb, ht⟩ := ht2;unfold Instr.index;show aV P (underlying t >>= _) h _;rw [aD, aL hd]
      have hs : s[m.toNat]? = some (s.data.toList.getD m.toNat 0) := by
        have hlt : m.toNat < s.size :=ae
        have : s[m.toNat]? = some s[m.toNat] := by simp [hlt]
        rw [this]
        congr 1
        have h2 : m.toNat < s.data.toList.length := by simpa using hlt
        rw [OV, OO h2] <;> rfl
      show aV P (match (if 0 <= m then s[m.toNat]? else none) with | some b => (pure (Value.int .u8 b.toNat) : Sem XB) | none => boundsPanic k m s.size .index) h _;rw [OH hb.1, hs];exact ht
    · exact mh ht2
    · exact ht2.elim
  case lookup t m x ok =>
    obtain ⟨v, hv, ht⟩ := bw ht;obtain ⟨u, hu, ht⟩ := bw ht;rw [g.ev hv, g.ev hu, rO];generalize hd : P.underlying t = ud at ht;split at ht
    · cases ok <;> simp only at ht <;> exact mh ht
    · exact ht.elim
  case mapUpdate t m x y =>
    obtain ⟨v, hv, ht⟩ := bw ht;obtain ⟨u, hu, ht⟩ := bw ht;obtain ⟨w, hw, ht⟩ := bw ht;rw [g.ev hv, g.ev hu, g.ev hw, Nu];exact ht
  case insert t m x y =>
    obtain ⟨v, hv, ht⟩ := bw ht;obtain ⟨u, hu, ht⟩ := bw ht;obtain ⟨w, hw, ht⟩ := bw ht;rw [g.ev hv, g.ev hu, g.ev hw, Nu];exact ht
  case mapEntry t m x =>
    obtain ⟨v, hv, ht⟩ := bw ht;obtain ⟨u, hu, ht⟩ := bw ht;rw [g.ev hv, g.ev hu, rO];generalize hd : P.underlying t = ud at ht;split at ht
    · exact mh ht
    · exact ht.elim
  case entryStore t m x y =>
    obtain ⟨v, hv, ht⟩ := bw ht;obtain ⟨u, hu, ht⟩ := bw ht;obtain ⟨w, hw, ht⟩ := bw ht;rw [g.ev hv, g.ev hu, g.ev hw, Nu];exact ht
  case range t x =>
    obtain ⟨v, hv, ht⟩ := bw ht;rw [g.ev hv, rO];exact JY ht
  case next it b =>
    obtain ⟨v, hv, ht⟩ := bw ht;rw [g.ev hv, rO];generalize hd : P.underlying type = ud at ht;split at ht
    · rename_i ts
      generalize hts : ts.toList = tl at ht;cases tl with
      | nil =>
        refine dP _ _ _ _ ?_ ht;rintro v h' (⟨rfl, hx⟩ | ⟨x, rfl, hx⟩)
        · exact hx
        · rw [fz] at hx; exact hx
      | cons t0 ts =>
        refine dP _ _ _ _ ?_ ht;rintro v h' (⟨rfl, hx⟩ | ⟨x, rfl, hx⟩)
        · exact hx
        · rw [fz] at hx; exact hx
    · exact ht.elim
  case entry it =>
    obtain ⟨v, hv, ht⟩ := bw ht;rw [g.ev hv, rO];exact mh ht
  case typeAssert x t d ok =>
    obtain ⟨v, hv, ht⟩ := bw ht;rw [g.ev hv, rO];cases ok <;> simp only at ht <;> exact mh ht
  case extract x i =>
    obtain ⟨v, hv, ht⟩ := bw ht;rw [g.ev hv, rO];cases v with
    | tuple vs =>
      unfold Instr.extract;show aV P (match vs[i]? with | some v => pure v | none => stuck "Extract: no such component") h _
      rw [<- PC];cases hi : vs.toList[i]? with
      | none => simp only [hi] at ht; exact ht.elim
      | some w => simp only [hi] at ht; exact ht
    | _ => exact ht.elim
  case call c =>
    rw [aD];unfold resolve;cases hc : c.callee with
    | builtin b =>
      simp only [hc] at ht;obtain ⟨vs, gb, ht⟩ := ia ht;have e1 : c.args.map a.eval = vs.toArray := by apply O5.1; simpa using g.JR gb
      simp only [e1];exact CP ht
    | invoke r m => simp only [hc] at ht; exact ht.elim
    | value f =>
      simp only [hc] at ht;cases htm : HG f with
      | true =>
        simp only [htm] at ht;obtain ⟨gv, hg, ht⟩ := bw ht;obtain ⟨vs, gb, ht⟩ := ia ht;have e1 : c.args.map a.eval = vs.toArray := by apply O5.1; simpa using g.JR gb
        simp only [e1, g.ev hg];obtain ⟨f', fi, ca, rfl, ht, fn, hfn, hb, hn⟩ := ht
        have hbd : ie P f' = true := by
          unfold ie;rw [hfn];simp [hb, hn]
        show aV P (callFunc f' (fi ++ vs.toArray ++ ca)) h _
        have e2 : (fi.toList ++ vs ++ ca.toList).toArray = fi ++ vs.toArray ++ ca := by
          apply O5.1; simp
        rw [<- e2, uB hbd];refine HC.mono ht ?_;rintro v h' ⟨x, rfl, hx⟩;rw [fz] at hx;exact hx
      | false =>
        simp only [htm] at ht;obtain ⟨gv, hg, ht⟩ := bw ht;obtain ⟨vs, gb, ht⟩ := ia ht;have e1 : c.args.map a.eval = vs.toArray := by apply O5.1; simpa using g.JR gb
        simp only [e1, g.ev hg]
        obtain ⟨f, fi, ca, rfl⟩ : ∃ f fi ca, gv = .func (.func f) fi ca := by
          cases gv with
          | func fn fi ca => cases fn <;> first | exact ht.elim | exact ⟨_, _, _, rfl⟩
          | _ => exact ht.elim
        have := H' (show E3 P f (fi.toList ++ vs ++ ca.toList) type kk L K h from ht);show aV P (callFunc f (fi ++ vs.toArray ++ ca)) h _
        have e2 : (fi.toList ++ vs ++ ca.toList).toArray = fi ++ vs.toArray ++ ca := by
          apply O5.1; simp
        rw [<- e2];exact this
  all_goals exact ht.elim
end ops
end Go.Sx
