/- A framework of our own, part O: what a tree asks of an operation, the operation does. No condition. -/
import Derived.Test.YtfkjiiapldkoeaaGreatDoorSxX
set_option linter.unusedVariables false
set_option linter.unusedSimpArgs false
set_option linter.deprecated false
namespace Go.Sx
section sems
variable {P:Program} {h:Hp}
theorem dr {α:Type} (f:Program→Sem α) (K:α→Hp→Prop):aD P (program >>= f) h K=aD P (f P) h K:=by
 rw [aj]; rfl
theorem ay {t:TypeId} {d:TypeDesc} (hd:P.underlying t=some d) (K:TypeDesc→Hp→Prop):aD P (underlying t) h K=K d h:=by
 unfold underlying; rw [dr,hd]; rfl
theorem info_of_underlying {t:TypeId} {d:TypeDesc} (hd:P.underlying t=some d):∃ i,P.info? t=some i:=by
 unfold Program.underlying at hd;cases hi:P.info? t with
 | none=>rw [hi] at hd; simp at hd
 | some i=>exact ⟨i,rfl⟩
theorem gQ {t:TypeId} {i:TypeInfo} (hi:P.info? t=some i) (K:TypeInfo→Hp→Prop):aD P (typeInfo t) h K=K i h:=by
 unfold typeInfo; rw [dr,hi]; rfl
theorem cQ {t:TypeId} {i:TypeInfo} (hi:P.info? t=some i):P.cellsOf t=i.size:=by
 simp [Program.cellsOf,hi]
theorem bk {t:TypeId} {i:TypeInfo} (hi:P.info? t=some i) (K:Nat→Hp→Prop):aD P (sizeOf t) h K=K (P.cellsOf t) h:=by
 unfold sizeOf; rw [aj,gQ hi,cQ hi]; rfl
theorem dz {t:TypeId} {z:Value} (hz:(P.info? t).bind (·.zero)=some z) (K:Value→Hp→Prop):aD P (zeroValue t) h K=K z h:=by
 cases hi:P.info? t with
 | none=>rw [hi] at hz; simp at hz
 | some i =>
  rw [hi] at hz; simp at hz;unfold zeroValue; rw [aj,gQ hi,hz]; rfl
theorem gF {t:TypeId} {b:Bool} (hb:cj P t=some b) (K:Bool→Hp→Prop):aD P (isAgg t) h K=K b h:=by
 unfold cj at hb;cases hd:P.underlying t with
 | none=>rw [hd] at hb; simp at hb
 | some d =>
  rw [hd] at hb;unfold isAgg; rw [aj,ay hd]
  all_goals (cases d <;> simp at hb <;> subst hb <;> rfl)
theorem pv {t:TypeId} {b:Bool} (hb:cj P t=some b):∃ i,P.info? t=some i:=by
 unfold cj at hb;cases hd:P.underlying t with
 | none=>rw [hd] at hb; simp at hb
 | some d=>exact info_of_underlying hd
theorem je (a:Addr):∀ (vs:List Value) (i:Nat) (acc:Array Value) (K:Array Value→Hp→Prop),aH h a i vs→K (acc++vs.toArray) h →
  aD P (loadCellsFrom a i vs.length acc) h K
 | [],i,acc,K,_,hk=>by
  have hk':K acc h:=by simpa using hk
  exact hk'
 | v::vs,i,acc,K,hc,hk=>by
  simp only [List.length_cons,loadCellsFrom];rw [aj];refine ⟨v,hc.1,je a vs (i+1) (acc.push v) K hc.2 ?_⟩;have e:acc.push v++vs.toArray=acc++(v::vs).toArray:=by
   apply Array.toList_inj.1; simp
  rw [e]; exact hk
theorem eG {a:Addr} {n:Nat} {vs:List Value} (hn:vs.length=n) (hc:aH h a 0 vs) (K:Array Value→Hp→Prop) (hk:K vs.toArray h):aD P (loadCells a n) h K:=by
 subst hn;exact je a vs 0 #[] K hc (by simpa using hk)
theorem dR (a:Addr):∀ (vs:List Value) (h:Hp) (i:Nat) (K:Unit→Hp→Prop),AB h a i vs→K () (vZ h a i vs)→aD P (storeCells a vs i) h K
 | [],h,i,K,_,hk=>hk
 | v::vs,h,i,K,hc,hk=>by
  simp only [storeCells];rw [aj];exact ⟨hc.1,hc.2.1,hc.2.2.1,dR a vs _ (i+1) K hc.2.2.2 hk⟩
end sems
structure Nd where
 n:Nat
 d:List Deferred
instance:Coe Nd Nat:=⟨Nd.n⟩
structure ic (n:Nd) (e:Env) (a:Act):Prop where
 size:a.tmps.size=n.n
 defers:a.defers=n.d
 get:∀ s v,bJ e s=some v→a.tmps.getD s undef=v
theorem ic.ev {n:Nd} {e:Env} {a:Act} (g:ic n e a) {x:Operand} {v:Value} (hx:ev e x=some v):a.eval x=v:=by
 cases x with
 | tmp t=>exact g.get t v hx
 | const w=>simpa [Sx.ev,Act.eval] using hx
 | global i=>simpa [Sx.ev,Act.eval] using hx
 | func f=>simpa [Sx.ev,Act.eval] using hx
theorem dh (e:Env) (s:Nat) (v:Option Value) (t:Nat):bJ ((s,v)::e) t=if s=t then v else bJ e t:=by
 simp only [bJ]
 by_cases h:s=t
 ·subst h; simp
 ·have:Nat.beq s t=false:=by
   cases hb:Nat.beq s t
   ·rfl
   ·exact (h (Nat.eq_of_beq_eq_true hb)).elim
  rw [this,if_neg h]; rfl
theorem ic.put {n:Nd} {e:Env} {a:Act} (g:ic n e a) (dst:Option Tmp) (v:Value):ic n (dE n e dst v) (a.put dst v):=by
 cases dst with
 | none=>exact g
 | some d =>
  refine ⟨by simp [Act.put,g.size],by simp [Act.put,g.defers],fun s u hu=>?_⟩;simp only [dE] at hu;cases hb:Nat.blt d n with
  | true =>
   have hd:d<n:=by simpa [Nat.blt_eq] using hb
   rw [hb] at hu;simp only [cond_true,dh] at hu;simp only [Act.put,Array.getD_eq_getD_getElem?,Array.getElem?_setIfInBounds]
   by_cases hs:d=s
   ·subst hs;rw [if_pos rfl] at hu;simp at hu; subst hu;simp [g.size,hd]
   ·rw [if_neg hs] at hu;rw [if_neg hs]
    have:=g.get s u hu
    simpa [Array.getD_eq_getD_getElem?] using this
  | false =>
   rw [hb] at hu;have hd:¬ d<n:=by intro hh; rw [← Nat.blt_eq] at hh; rw [hb] at hh; cases hh
   have hput:a.put (some d) v=a:=by
    simp only [Act.put]
    have:a.tmps.setIfInBounds d v=a.tmps:=Array.setIfInBounds_eq_of_size_le (by rw [g.size]; exact Nat.le_of_not_lt hd)
    rw [this]
   rw [hput];exact g.get s u hu
theorem ic.qy {n:Nd} {e:Env} {a:Act} (g:ic n e a) {s:Nat} {v:Value} (hv:bJ e s=some v) (w:Value) (hw:w=v):ic n (dE n e (some s) w) a:=by
 subst hw;refine ⟨g.size,g.defers,fun t u hu=>?_⟩;simp only [dE] at hu;cases hb:Nat.blt s n with
 | true =>
  rw [hb] at hu;simp only [cond_true,dh] at hu
  by_cases hs:s=t
  ·subst hs; rw [if_pos rfl] at hu; simp at hu; subst hu; exact g.get s w hv
  ·rw [if_neg hs] at hu; exact g.get t u hu
 | false=>rw [hb] at hu; exact g.get t u hu
section trees
variable {L:Lp} {K:Value→Hp→Prop} {h:Hp}
theorem aN {e:Env} {x:Operand} {k:Value→T} (ht:bf e x k L K h):∃ v,ev e x=some v∧k v L K h:=by
 unfold bf at ht;cases hx:ev e x with
 | none=>rw [hx] at ht; exact ht.elim
 | some v=>rw [hx] at ht; exact ⟨v,rfl,ht⟩
theorem fK {e:Env}:∀ {xs:List Operand} {k:List Value→T},gk e xs k L K h→∃ vs,xs.map (ev e)=vs.map some∧k vs L K h
 | [],k,ht=>⟨[],rfl,ht⟩
 | x::xs,k,ht=>by
  obtain ⟨v,hv,ht⟩:=aN ht;obtain ⟨vs,fw,ht⟩:=fK ht;exact ⟨v::vs,by simp [hv,fw],ht⟩
theorem ic.Ib {n:Nd} {e:Env} {a:Act} (g:ic n e a):∀ {xs:List Operand} {vs:List Value},xs.map (Sx.ev e)=vs.map some→xs.map a.eval=vs
 | [],[],_=>rfl
 | x::xs,v::vs,hh=>by
  simp only [List.map_cons,List.cons.injEq] at hh;simp only [List.map_cons,g.ev hh.1,g.Ib hh.2]
 | [],v::vs,hh=>by simp at hh
 | x::xs,[],hh=>by simp at hh
theorem ey {p:Option Addr} {k:Addr→T} (ht:T.au p k L K h):∃ a,p=some a∧k a L K h:=by
 cases p with
 | none=>exact ht.elim
 | some a=>exact ⟨a,rfl,ht⟩
theorem ek {b:Bool} {t u:T} (ht:(cond b t u) L K h):(b=true∧t L K h)∨(b=false∧u L K h):=by
 cases b
 ·exact .inr ⟨rfl,ht⟩
 ·exact .inl ⟨rfl,ht⟩
end trees
section ops
variable {P:Program} {L:Lp} {K:Value→Hp→Prop} {h:Hp}
theorem oI {s:Sem Value} {R:Value→Hp→Prop}:aD P (do pure (Next.value (← s))) h (yq P R)=aD P s h R:=by
 rw [aj]; rfl
theorem LL {s:Sem Unit} {R:Value→Hp→Prop}:aD P (do s; pure Next.skip) h (yq P R)=aD P s h (fun _ h'=>R undef h'):=by
 rw [aj]; rfl
theorem kb {s:Sem Value} {tup:Bool} {cs:List gH} {kk:Value→T} (ht:T.aY P s tup cs (bW _ fun l=>kk (rv tup cs l)) L K h) :
  aD P s h (fun v h'=>kk v L K h'):=by
 refine cI _ _ _ _ ?_ ht;rintro v h' ⟨x,rfl,hx⟩;rw [ei] at hx;exact hx
theorem jl {s:Sem Value} {el:TypeId} {kk:Value→T} (ht:T.aY P s false [(false,[.slice el])] (fun p l c=>kk (.slice p l c)) L K h) :
  aD P s h (fun v h'=>kk v L K h'):=by
 refine cI _ _ _ _ ?_ ht;rintro v h' ⟨x,rfl,hx⟩;exact hx
theorem HQ {s:Sem Value} {kk:Value→T} (ht:T.aY P s false [(false,[.bool])] (fun b=>kk (.bool b)) L K h):aD P s h (fun v h'=>kk v L K h'):=by
 refine cI _ _ _ _ ?_ ht;rintro v h' ⟨x,rfl,hx⟩;exact hx
theorem yK {s:Sem Value} {kk:Value→T} (ht:T.aY P s false [(false,[.int .i64])] (fun b=>kk (.int .i64 b)) L K h):aD P s h (fun v h'=>kk v L K h'):=by
 refine cI _ _ _ _ ?_ ht;rintro v h' ⟨x,rfl,hx⟩;exact hx
theorem I2 {s:Sem Value} {kk:Value→T} (ht:T.aY P s false [(false,[.string])] (fun b=>kk (.string b)) L K h):aD P s h (fun v h'=>kk v L K h'):=by
 refine cI _ _ _ _ ?_ ht;rintro v h' ⟨x,rfl,hx⟩;exact hx
theorem HW {s:Sem Value} {a b:TypeId} {kk:Value→T} (ht:T.aY P s false [(false,[.map a b])] (fun b=>kk (.map b)) L K h):aD P s h (fun v h'=>kk v L K h'):=by
 refine cI _ _ _ _ ?_ ht;rintro v h' ⟨x,rfl,hx⟩;exact hx
theorem HO {s:Sem Value} {a:TypeId} {kk:Value→T} (ht:T.aY P s false [(false,[.pointer a])] (fun b=>kk (.pointer b)) L K h):aD P s h (fun v h'=>kk v L K h'):=by
 refine cI _ _ _ _ ?_ ht;rintro v h' ⟨x,rfl,hx⟩;exact hx
theorem I8 {s:Sem Value} {kk:T} (ht:T.aY P s true [] kk L K h):aD P s h (fun v h'=>v=.tuple #[]∧kk L K h'):=by
 refine cI _ _ _ _ ?_ ht;rintro v h' ⟨x,rfl,hx⟩;exact ⟨rfl,hx⟩
theorem H4 {op : BinOp} {k : IntKind} {m n : Int} {kk : Value → T} (hs : la op = false) (t : TypeId) (ht : EY op k m n kk L K h) :
    aD P (binOp op t (.int k m) (.int k n)) h (fun v h' => kk v L K h') := by
  cases op <;> simp only [la, Bool.true_eq_false] at hs <;> simp only [EY] at ht <;>
    first
    | exact ht.elim
    | (simp only [binOp, Op.intArith, Op.intDiv, Op.intBits, Op.intCmp, ne_eq, not_true_eq_false, if_false]; exact ht)
    | (obtain ⟨h0, ht⟩ := ht
       simp only [binOp, Op.intDiv, ne_eq, not_true_eq_false, if_false, if_neg h0]; exact ht)
theorem DB {op:BinOp} {k k':IntKind} {m n:Int} {kk:Value→T} (hs:la op=true) (t:TypeId) (ht:vi op k m n kk L K h) :
  aD P (binOp op t (.int k m) (.int k' n)) h (fun v h'=>kk v L K h'):=by
 cases op <;> simp only [la,Bool.false_eq_true] at hs <;> simp only [vi] at ht <;> obtain ⟨h0,ht⟩:=ht <;>
  simp only [binOp,Op.shift,if_neg (Int.not_lt.2 h0)] <;> exact ht
theorem IC {op : BinOp} {m n : ByteArray} {kk : Value → T} (t : TypeId) (ht : GM op m n kk L K h) :
    aD P (binOp op t (.string m) (.string n)) h (fun v h' => kk v L K h') := by
  cases op <;> simp only [GM] at ht <;>
    first
    | exact ht.elim
    | (simp only [binOp, Op.stringOp]; exact ht)
    | (obtain ⟨h0, ht⟩ := ht
       simp only [binOp, Op.stringOp, if_neg (Int.not_lt.2 h0)]; exact ht)
def yw:Value→Bool
 | .nilIface=>false
 | .agg _=>false
 | _=>true
theorem eM {op:BinOp} {t:TypeId} {x y:Operand} {a b:Value} (ha:yw a=true) {R:Value→Hp→Prop} :
  aD P (do eqGuard op t x y a b; binOp op t a b) h R=aD P (binOp op t a b) h R:=by
 rw [aj]
 have:∀ K:Unit→Hp→Prop,aD P (eqGuard op t x y a b) h K=K () h:=by
  intro K;cases op <;> first | rfl | (cases a <;> first | (simp [yw] at ha; done) | rfl)
 rw [this]
theorem BO {t:TypeId} (hd:P.underlying t=some .bool) (m n:Bool) (R:Bool→Hp→Prop):aD P (Op.equal t (.bool m) (.bool n)) h R=R (m==n) h:=by
 show aD P (Op.equalIn (9999+1) t (.bool m) (.bool n)) h R=_;unfold Op.equalIn;rw [aj,ay hd]; rfl
theorem xb {t e:TypeId} (hd:P.underlying t=some (.pointer e)) (p:Option Addr) (R:Bool→Hp→Prop):aD P (Op.equal t (.pointer p) (.pointer none)) h R=R p.isNone h:=by
 show aD P (Op.equalIn (9999+1) t (.pointer p) (.pointer none)) h R=_;unfold Op.equalIn;rw [aj,ay hd]; cases p <;> rfl
theorem tJ {t e:TypeId} (hd:P.underlying t=some (.slice e)) (p:Option Addr) (l c:Nat) (R:Bool→Hp→Prop):aD P (Op.equal t (.slice p l c) (.slice none 0 0)) h R=R p.isNone h:=by
 show aD P (Op.equalIn (9999+1) t (.slice p l c) (.slice none 0 0)) h R=_;unfold Op.equalIn;rw [aj,ay hd]; cases p <;> rfl
theorem xp {t a b:TypeId} (hd:P.underlying t=some (.map a b)) (p:Option Nat) (R:Bool→Hp→Prop):aD P (Op.equal t (.map p) (.map none)) h R=R p.isNone h:=by
 show aD P (Op.equalIn (9999+1) t (.map p) (.map none)) h R=_;unfold Op.equalIn;rw [aj,ay hd]; cases p <;> rfl
theorem rb {op:BinOp} {t:TypeId} {a b:Value} {r:Bool} {kk:Value→T}
  (hq:∀ R:Bool→Hp→Prop,aD P (Op.equal t a b) h R=R r h)
  (h1:binOp .eql t a b=(do pure (.bool (← Op.equal t a b)))) (h2:binOp .neq t a b=(do pure (.bool (!(← Op.equal t a b)))))
  (ht:asked op r kk T.fail L K h):aD P (binOp op t a b) h (fun v h'=>kk v L K h'):=by
 cases op <;> simp only [asked] at ht <;> first
  | exact ht.elim
  | (rw [h1,aj,hq]; exact ht)
  | (rw [h2,aj,hq]; exact ht)
theorem HY {op:BinOp} {t:TypeId} {x y:Operand} {a b:Value} {kk:Value→T} (ht:Lu P op t x y a b kk L K h) :
  aD P (do eqGuard op t x y a b; binOp op t a b) h (fun v h'=>kk v L K h'):=HQ ht
theorem Ip {e:Env} {op:BinOp} {t:TypeId} {x y:Operand} {a b:Value} {kk:Value→T} (hy:ev e y=some b)
  (ht:EH P op t x y a b kk L K h):aD P (do eqGuard op t x y a b; binOp op t a b) h (fun v h'=>kk v L K h'):=by
 have hnil:∀ q,b=.pointer q→isNil y=true→q=none:=by
  intro q hq hn;cases y <;> simp only [isNil,Bool.false_eq_true] at hn;rename_i c;simp only [Sx.ev,Option.some.injEq] at hy;subst hy; subst hq;cases q with
  | none=>rfl
  | some a=>simp [isNil] at hn
 have hnilS:∀ q l c,b=.slice q l c→isNil y=true→q=none∧l=0∧c=0:=by
  intro q l c hq hn;cases y <;> simp only [isNil,Bool.false_eq_true] at hn;rename_i c;simp only [Sx.ev,Option.some.injEq] at hy;subst hy; subst hq;cases q with
  | none =>
   cases l <;> cases c <;> simp [isNil] at hn <;> exact ⟨rfl,rfl,rfl⟩
  | some a=>simp [isNil] at hn
 have hnilM:∀ q,b=.map q→isNil y=true→q=none:=by
  intro q hq hn;cases y <;> simp only [isNil,Bool.false_eq_true] at hn;rename_i c;simp only [Sx.ev,Option.some.injEq] at hy;subst hy; subst hq;cases q with
  | none=>rfl
  | some a=>simp [isNil] at hn
 unfold EH at ht;cases hpt:rW P t x y with
 | false=>simp only [hpt] at ht; exact HY ht
 | true =>
 simp only [hpt] at ht;unfold Ae at ht;split at ht
 ·rename_i k m k' n;rw [eM rfl];cases hs:la op with
  | true=>simp only [hs] at ht; exact DB hs t ht
  | false =>
   simp only [hs] at ht
   by_cases hk:k=k'
   ·subst hk;simp only [decide_true] at ht;exact H4 hs t ht
   ·simp only [hk,decide_false] at ht;exact ht.elim
 ·rw [eM rfl]; exact IC t ht
 ·rename_i m n;rw [eM rfl];cases hd:P.underlying t with
  | none=>simp only [hd] at ht; exact ht.elim
  | some d =>
   cases d <;> simp only [hd] at ht <;> first
    | exact ht.elim
    | exact rb (fun R=>BO hd m n R) rfl rfl ht
 ·rename_i p q;cases hd:P.underlying t with
  | none=>simp only [hd] at ht; exact ht.elim
  | some d =>
   cases d <;> simp only [hd] at ht <;> first
    | exact ht.elim
    | skip
   have hn:isNil y=true:=by simpa [rW,hd] using hpt
   obtain rfl:=hnil q rfl hn;rw [eM rfl]; exact rb (fun R=>xb hd p R) rfl rfl ht
 ·rename_i p l c q l' c';cases hd:P.underlying t with
  | none=>simp only [hd] at ht; exact ht.elim
  | some d =>
   cases d <;> simp only [hd] at ht <;> first
    | exact ht.elim
    | skip
   have hn:isNil y=true:=by simpa [rW,hd] using hpt
   obtain ⟨rfl,rfl,rfl⟩:=hnilS q _ _ rfl hn;rw [eM rfl]; exact rb (fun R=>tJ hd p l c R) rfl rfl ht
 ·rename_i p q;cases hd:P.underlying t with
  | none=>simp only [hd] at ht; exact ht.elim
  | some d =>
   cases d <;> simp only [hd] at ht <;> first
    | exact ht.elim
    | skip
   have hn:isNil y=true:=by simpa [rW,hd] using hpt
   obtain rfl:=hnilM q rfl hn;rw [eM rfl]; exact rb (fun R=>xp hd p R) rfl rfl ht
 ·exact ht.elim
theorem JW {op:UnOp} {a:Value} {kk:Value→T} (ht:Ko op a kk L K h):aD P (Op.unary op a) h (fun v h'=>kk v L K h'):=by
 unfold Ko at ht;split at ht
 ·exact ht
 ·exact ht
 ·exact ht
 ·exact ht.elim
theorem GN {s d:TypeId} {a:Value} {kk:Value→T} (ht:BJ P s d a kk L K h):aD P (convert s d a) h (fun v h'=>kk v L K h'):=by
 unfold BJ at ht;generalize hs:P.underlying s=us at ht;generalize hd:P.underlying d=ud at ht;split at ht
 ·unfold convert;rw [aj,ay hs,aj,ay hd];exact ht
 ·unfold convert;rw [aj,ay hs,aj,ay hd];exact ht
 ·exact ht.elim
 ·exact jl ht
 ·exact I2 ht
 ·exact ht.elim
theorem dt (y:Nat) (code:BoundsCode) {v:Value} {k:IntKind} {i:Int} (hv:v=.int k i) (h0:0≤i) (h1:i≤y) (R:Nat→Hp→Prop) :
  aD P (Instr.sliceBound v y code) h R=R i.toNat h:=by
 subst hv;unfold Instr.sliceBound;rw [aj];show aD P (if 0≤i∧i≤↑y then pure i.toNat else boundsPanic k i ↑y code) h R=_;rw [if_pos ⟨h0,h1⟩]; rfl
theorem nh {v:Value} (hv:gJ (some v)=true):∃ k i,v=.int k i:=by
 cases v <;> simp only [gJ,Bool.false_eq_true] at hv;exact ⟨_,_,rfl⟩
theorem kj (isSlice:Bool) (len cap:Nat) {lo hi:Option Value} (il:gJ lo=true) (ih:gJ hi=true)
  (h0:0≤tK lo) (h1:tK lo≤rB len hi) (h2:rB len hi≤cap) (R:Nat × Nat × Nat→Hp→Prop) :
  aD P (Instr.sliceBounds isSlice len cap lo hi none) h R=R ((tK lo).toNat,(rB len hi).toNat,cap) h:=by
 unfold Instr.sliceBounds;cases hi with
 | none =>
  cases lo with
  | none=>rfl
  | some v =>
   obtain ⟨k,i,rfl⟩:=nh il;have h0':0≤i:=h0;have h1':i≤len:=h1;show aD P (Instr.sliceBound (.int k i) len _ >>= fun l=>pure (l,len,cap)) h R=_;rw [aj,dt len _ rfl h0' h1']; rfl
 | some u =>
  obtain ⟨ku,iu,rfl⟩:=nh ih;have hu0:(0:Int)≤iu:=Int.le_trans h0 h1;cases lo with
  | none =>
   show aD P (Instr.sliceBound (.int ku iu) cap _ >>= fun hh=>pure (0,hh,cap)) h R=_;have h2':iu≤cap:=h2;rw [aj,dt cap _ rfl hu0 h2']; rfl
  | some v =>
   obtain ⟨k,i,rfl⟩:=nh il;show aD P (Instr.sliceBound (.int ku iu) cap _ >>= fun hh=>Instr.sliceBound (.int k i) hh _ >>= fun l=>pure (l,hh,cap)) h R=_;have h0':0≤i:=h0;have h1':i≤iu:=h1;have h2':iu≤cap:=h2;rw [aj,dt cap _ rfl hu0 h2',aj,dt _ _ rfl h0' (by rw [Int.toNat_of_nonneg hu0]; exact h1')]; rfl
theorem DN {t:TypeId} {a:Value} {lo hi mx:Option Value} {kk:Value→T} (ht:ju P t a lo hi mx kk L K h) :
  aD P (Instr.sliceAt t a lo hi mx) h (fun v h'=>kk v L K h'):=by
 unfold ju at ht;cases hint:gJ lo && gJ hi && gJ mx with
 | false=>simp only [hint] at ht; exact ht.elim
 | true =>
  simp only [hint] at ht;simp only [Bool.and_eq_true] at hint;obtain ⟨⟨il,ih⟩,im⟩:=hint;cases hd:P.underlying t with
  | none=>simp only [hd] at ht; exact jl ht
  | some d =>
   cases d <;> simp only [hd] at ht <;> first | exact jl ht | skip
   case string =>
    cases mx with
    | some m=>cases a <;> exact ht.elim
    | none =>
    cases a <;> first | exact ht.elim | skip
    rename_i s;obtain ⟨⟨h0,h1,h2⟩,ht⟩:=ht;unfold Instr.sliceAt;rw [aj,ay hd];show aD P (Instr.slice t (.string s) lo hi none) h _;unfold Instr.slice;rw [aj,ay hd];show aD P (Instr.sliceBounds false s.size s.size lo hi none >>= fun x=>(pure (Value.string (s.extract x.1 x.2.1)):Sem Value)) h _;rw [aj,kj false _ _ il ih h0 h1 h2];exact ht
   case slice el =>
    cases mx with
    | some m=>exact jl ht
    | none =>
    cases a <;> first | exact ht.elim | skip
    rename_i p len cap;simp only at ht;cases hT:pL P el with
    | false=>simp only [hT] at ht; exact ht.elim
    | true =>
     simp only [hT] at ht;obtain ⟨⟨h0,h1,h2⟩,ht⟩:=ht;obtain ⟨i,hi'⟩:=Option.isSome_iff_exists.1 hT;unfold Instr.sliceAt;rw [aj,ay hd];show aD P (Instr.slice t (.slice p len cap) lo hi none) h _;unfold Instr.slice;rw [aj,ay hd];show aD P (Instr.sliceBounds true len cap lo hi none >>= fun x=>sizeOf el >>= fun size=>(pure (Value.slice (if x.2.2=x.1 then p else p.map (·.add (x.1*size))) (x.2.1-x.1) (x.2.2-x.1)):Sem Value)) h _;rw [aj,kj true _ _ il ih h0 h1 h2,aj,bk hi'];exact ht
theorem FV {t:TypeId} {cs:Array Value} {off:Nat} {kk:Value→T} (ht:ve P t cs.toList off kk L K h) :
  aD P (part t cs off) h (fun v h'=>kk v L K h'):=by
 have hx:∀ n,((cs.toList.drop off).take n).toArray=cs.extract off (off+n):=by
  intro n;apply Array.toList_inj.1;simp [Array.toList_extract,List.extract_eq_drop_take]
 unfold ve at ht;generalize hd:P.underlying t=ud at ht;split at ht
 ·obtain ⟨i,hi⟩:=info_of_underlying hd;unfold part;rw [aj,gF (b:=true) (by simp [cj,hd])];show aD P (sizeOf t >>= fun n=>(pure (Value.agg (cs.extract off (off+n))):Sem Value)) h _;rw [aj,bk hi,← hx];exact ht
 ·obtain ⟨i,hi⟩:=info_of_underlying hd;unfold part;rw [aj,gF (b:=true) (by simp [cj,hd])];show aD P (sizeOf t >>= fun n=>(pure (Value.agg (cs.extract off (off+n))):Sem Value)) h _;rw [aj,bk hi,← hx];exact ht
 ·rename_i d hns hna;unfold part;rw [aj,gF (b:=false) (by simp only [cj,hd])];show aD P (match cs[off]? with | some v => pure v | none => stuck "part: no such cell") h _
  rw [← Array.getElem?_toList];cases hv:cs.toList[off]? with
  | none=>simp only [hv] at ht; exact ht.elim
  | some v=>simp only [hv] at ht; exact ht
 ·exact ht.elim
theorem qG {f:FuncId} (hb:fU P f=true) (args:Array Value) (R:Next→Hp→Prop):aD P (callFunc f args) h R=R (.enter f args) h:=by
 unfold fU at hb;unfold callFunc;rw [dr];cases hf:P.funcs[f]? with
 | none=>rw [hf] at hb; simp at hb
 | some fn =>
  rw [hf] at hb;simp only [Bool.and_eq_true,Bool.not_eq_true'] at hb;obtain ⟨h1,h2⟩:=hb;have h3:fn.body.isNone=false:=by cases hbd:fn.body <;> simp_all
  simp only [h2,h3]; rfl
theorem E1 {f:FuncId} {args:List Value} {t:TypeId} {kk:Value→T} (ht:Dv P f args t kk L K h) :
  aD P (callFunc f args.toArray) h (yq P fun v h'=>kk v L K h'):=by
 unfold Dv at ht;cases hb:fU P f with
 | false =>
  simp only [hb] at ht
  have:=kb ht
  unfold FO at this;rw [aj] at this;refine cI _ _ _ _ ?_ this;intro x h' hx;cases x <;> first | exact hx | exact hx.elim
 | true =>
  simp only [hb] at ht;rw [qG hb];refine HC.mono ht ?_;rintro v h' ⟨x,rfl,hx⟩;rw [ei] at hx;exact hx
theorem Iw {c:Call} {t:TypeId} {args:List Value} {kk:Value→T} (ht:DR P c t args kk L K h) :
  aD P (Builtin.len_ c.argTypes t args.toArray) h (fun v h'=>kk v L K h'):=by
 unfold DR at ht;cases hd:(c.argTypes[0]?).bind P.underlying with
 | none=>simp only [hd] at ht; exact yK ht
 | some d =>
  obtain ⟨t0,ht0,hd'⟩:=Option.bind_eq_some_iff.1 hd;cases d <;> simp only [hd] at ht <;> first | exact yK ht | skip
  case string =>
   split at ht
   ·unfold Builtin.len_;simp only [ht0];show aD P (underlying t0 >>= _) h _;rw [aj,ay hd'];exact ht
   ·exact ht.elim
  case slice el =>
   split at ht
   ·unfold Builtin.len_;simp only [ht0];show aD P (underlying t0 >>= _) h _;rw [aj,ay hd'];exact ht
   ·exact ht.elim
theorem I3 {c:Call} {t:TypeId} {args:List Value} {kk:Value→T} (ht:D9 P c args kk L K h) :
  aD P (Builtin.cap_ c.argTypes t args.toArray) h (fun v h'=>kk v L K h'):=by
 unfold D9 at ht;cases hd:(c.argTypes[0]?).bind P.underlying with
 | none=>simp only [hd] at ht; exact ht.elim
 | some d =>
  obtain ⟨t0,ht0,hd'⟩:=Option.bind_eq_some_iff.1 hd;cases d <;> simp only [hd] at ht <;> first | exact ht.elim | skip
  split at ht
  ·unfold Builtin.cap_;simp only [ht0];show aD P (underlying t0 >>= _) h _;rw [aj,ay hd'];exact ht
  ·exact ht.elim
inductive qV:List (Nat × Value)→List (Nat × List Value)→Prop
 | nil:qV [] []
 | cons {i:Nat} {v:Value} {l:List Value} {ps:List (Nat × Value)} {r:List (Nat × List Value)} (h:v.cells.toList=l) (t:qV ps r):qV ((i,v)::ps) ((i,l)::r)
theorem EF {v:Value} (h:eF v=true):v.cells.toList=lH v:=by
 cases v <;> first | rfl | (simp [eF] at h)
theorem Af {v:Value} (h:eF v=false):v.cells.toList=[v]:=by
 cases v <;> first | rfl | (simp [eF] at h)
theorem ob {agg:Nat→Option Bool}:∀ {ps:List (Nat × Value)} {k:List (Nat × List Value)→T},fv agg ps k L K h→∃ r,qV ps r∧k r L K h
 | [],k,ht=>⟨[],.nil,ht⟩
 | (i,v)::l,k,ht=>by
  simp only [fv] at ht;cases ha:agg i with
  | none=>rw [ha] at ht; exact ht.elim
  | some b =>
   rw [ha] at ht;cases b with
   | true =>
    rcases ek ht with ⟨hv,ht⟩ | ⟨_,ht⟩
    ·obtain ⟨r,hr,hk⟩:=ob ht;exact ⟨_,.cons (EF hv) hr,hk⟩
    ·exact ht.elim
   | false =>
    rcases ek ht with ⟨_,ht⟩ | ⟨hv,ht⟩
    ·exact ht.elim
    ·obtain ⟨r,hr,hk⟩:=ob ht;exact ⟨_,.cons (Af hv) hr,hk⟩
theorem uM:∀ (l:List Value) (off k:Nat) (cs:Array Value),((l.zipIdx k).foldl (fun (cs:Array Value) (x:Value × Nat)=>cs.setIfInBounds (off+x.2) x.1) cs)=(DO cs.toList (off+k) l).toArray
 | [],off,k,cs=>by simp [DO]
 | v::l,off,k,cs=>by
  rw [List.zipIdx_cons,List.foldl_cons,uM l off (k+1)];simp only [DO,Array.toList_setIfInBounds] <;> rfl
theorem Dj {place:Nat→Option (Nat × Nat)} {ps:List (Nat × Value)} {r:List (Nat × List Value)} (hc:qV ps r):∀ {c cs:List Value},iw place c r=some cs→Instr.fill place c.toArray ps=some cs.toArray:=by
 induction hc with
 | nil=>intro c cs h; simp [iw] at h; subst h; rfl
 | @cons i v l ps r hv _ ih =>
  intro c cs h;unfold iw at h;unfold Instr.fill;split at h
  ·cases h
  ·rename_i off size hp;rw [hp];simp only;have hs:v.cells.size=l.length:=by rw [← hv,Array.length_toList]
   cases hb:!(Nat.beq l.length size) || Nat.blt c.length (off+l.length) with
   | true=>rw [hb] at h; cases h
   | false =>
    rw [hb] at h;simp only [Bool.or_eq_false_iff,Bool.not_eq_false'] at hb;have h1:l.length=size:=Nat.eq_of_beq_eq_true hb.1;have h2:¬ c.length<off+l.length:=fun hlt=>by
     have:=Nat.ble_eq_true_of_le hlt
     rw [show Nat.blt c.length (off+l.length)=Nat.ble (c.length+1) (off+l.length) from rfl,this] at hb;exact absurd hb.2 (by simp)
    rw [if_neg (by simp [hs,h1]; omega)];have e:v.cells.zipIdx.foldl (fun cs (x:Value × Nat)=>cs.setIfInBounds (off+x.2) x.1) c.toArray=(DO c off l).toArray:=by
     rw [← Array.foldl_toList,Array.toList_zipIdx,hv];exact uM l off 0 c.toArray
    have:=ih h
    rw [← e] at this;exact this
theorem AO {b:Builtin} {c:Call} {t:TypeId} {args:List Value} {consts:Array Bool} {kk:Value→T} (ht:rz P b c t args kk L K h) :
  aD P (builtin b c.argTypes t consts args.toArray) h (yq P fun v h'=>kk v L K h'):=by
 unfold rz at ht;split at ht
 ·show aD P (do pure (Next.value (← Builtin.len_ c.argTypes t args.toArray))) h _;rw [oI]; exact Iw ht
 ·show aD P (do pure (Next.value (← Builtin.cap_ c.argTypes t args.toArray))) h _;rw [oI]; exact I3 ht
 ·show aD P (do pure (Next.value (← Builtin.append_ c.argTypes t args.toArray))) h _;rw [oI]; exact jl ht
 ·show aD P (do pure (Next.value (← Builtin.copy_ c.argTypes t args.toArray))) h _;rw [oI]; exact yK ht
 ·show aD P (do pure (Next.value (← Builtin.min_ c.argTypes t args.toArray))) h _;rw [oI]; exact kb ht
 ·show aD P (do pure (Next.value (← Builtin.max_ c.argTypes t args.toArray))) h _;rw [oI]; exact kb ht
 ·show aD P (do pure (Next.value (← Builtin.delete_ c.argTypes t args.toArray))) h _;rw [oI];exact cI _ _ _ _ (fun v h' ⟨e,hk⟩=>by subst e; exact hk) (I8 ht)
 ·show aD P (do pure (Next.value (← Builtin.unsafeString_ c.argTypes t args.toArray))) h _;rw [oI]; exact kb ht
 ·show aD P (do pure (Next.value (← Builtin.unsafeSliceData_ c.argTypes t args.toArray))) h _;rw [oI]; exact kb ht
 ·exact ht.elim
theorem Gm {vs:List Value} {e:TypeId} {kk:Value→T} (ht:T.new vs e (fun a=>kk (.pointer (some a))) L K h) {cs:Array Value} (hv:cs=vs.toArray) :
  aD P (do pure (Value.pointer (some (← newRow e cs)))) h (fun v h'=>kk v L K h'):=by
 subst hv;exact ht
theorem xU {n:Nat} {t:TypeId} {p:Option Addr} {kk:Addr→List Value→Value→T} {b:Bool} (hb:cj P t=some b)
  (ht:(match b with
   | true=>(bif (fx P 9 t).length==P.cellsOf t then T.au p fun a=>T.ae a (fx P 9 t) (bW _ fun l=>kk a l (.agg l.toArray)) else T.fail)
   | false=>T.au p fun a=>T.ae a (cG P t).2 (bW _ fun l=>kk a l (l.headD undef))) L K h) :
  ∃ a l v,p=some a∧aH h a 0 l∧kk a l v L K h∧∀ h' (R:Value→Hp→Prop),aH h' a 0 l→R v h'→aD P (Instr.loadAt t (.pointer p)) h' R:=by
 obtain ⟨i,hi⟩:=pv hb;cases b with
 | true =>
  simp only at ht;cases hl:(fx P 9 t).length==P.cellsOf t with
  | false=>rw [hl] at ht; exact ht.elim
  | true =>
   rw [hl] at ht;have hl':(fx P 9 t).length=P.cellsOf t:=by simpa using hl
   obtain ⟨a,rfl,ht⟩:=ey ht;obtain ⟨x,hc,ht⟩:=ht;rw [ei] at ht;refine ⟨a,fw _ x,_,rfl,hc,ht,fun h' R hc' hk=>?_⟩;unfold Instr.loadAt;show aD P (loadVar t a) h' R;unfold loadVar;rw [aj,gF hb];show aD P (sizeOf t >>= fun n=>loadCells a n >>= fun cs=>(pure (Value.agg cs):Sem Value)) h' R;rw [aj,bk hi,aj];exact eG (by rw [wF,hl']) hc' _ hk
 | false =>
  simp only at ht;obtain ⟨a,rfl,ht⟩:=ey ht;obtain ⟨x,hc,ht⟩:=ht;rw [ei] at ht;have h1:∃ d,(cG P t).2=[d]:=by
   unfold cj at hb;unfold cG;cases hd:P.underlying t with
   | none=>rw [hd] at hb; simp at hb
   | some d=>rw [hd] at hb; cases d <;> simp at hb <;> exact ⟨_,rfl⟩
  obtain ⟨d,hd⟩:=h1;refine ⟨a,fw _ x,_,rfl,hc,ht,fun h' R hc' hk=>?_⟩;revert x;rw [hd];intro x hc ht hc' hk;unfold Instr.loadAt;show aD P (loadVar t a) h' R;unfold loadVar;rw [aj,gF hb];have hc0:=hc'.1
  have:a.add 0=a:=by simp [Addr.add]
  rw [this] at hc0;exact ⟨_,hc0,hk⟩
theorem F3 {n : Nd} {e : Env} {a : Act} (g : ic n e a) {t : TypeId} {x : Operand} {kk : Addr → List Value → Value → T} (ht : pf P t x e kk L K h) :
    ∃ p l v, ev e x = some (.pointer (some p)) ∧ aH h p 0 l ∧ kk p l v L K h ∧ ∀ h' (R : Value → Hp → Prop), aH h' p 0 l → R v h' → aD P (Instr.loadAt t (.pointer (some p))) h' R := by
  unfold pf at ht;obtain ⟨v, hv, ht⟩ := aN ht;cases hb : cj P t with
  | none => cases v <;> simp only [hb] at ht <;> exact ht.elim
  | some b =>
    cases v <;> first
      | (cases b <;> simp only [hb] at ht <;> exact ht.elim)
      | (rename_i p
         have ht' : (match b with
            | true => (bif (fx P 9 t).length == P.cellsOf t then T.au p fun a => T.ae a (fx P 9 t) (bW _ fun l => kk a l (.agg l.toArray)) else T.fail)
            | false => T.au p fun a => T.ae a (cG P t).2 (bW _ fun l => kk a l (l.headD undef))) L K h := by
            cases b <;> simp only [hb] at ht <;> exact ht
         obtain ⟨q, l, v, rfl, hc, hk, hall⟩ := xU (n := n) hb ht';exact ⟨q, l, v, hv, hc, hk, hall⟩)
theorem CK {n : Nd} {o : Oper} {e : Env} {a : Act} (g : ic n e a) {kk : Value → T} (ht : ui P o e kk L K h) :
    LB P o a.eval h (fun v h' => kk v L K h') := by
  obtain ⟨dst, op, type, pos, after, guard⟩ := o;unfold LB;cases op <;> simp only [ui] at ht <;> unfold execOp <;> simp only
  case move x => obtain ⟨v, hv, ht⟩ := aN ht; rw [g.ev hv]; exact ht
  case assign x => obtain ⟨v, hv, ht⟩ := aN ht; rw [g.ev hv]; exact ht
  case pick c x y =>
    obtain ⟨v, hv, ht⟩ := aN ht;rw [g.ev hv]
    cases v <;> simp only at ht <;> first
      | exact ht.elim
      | (rename_i b
         rw [aj];show aD P (pure b) h _;cases b
         · obtain ⟨w, hw, ht⟩ := aN (show bf e y kk L K h from ht); rw [g.ev hw]; exact ht
         · obtain ⟨w, hw, ht⟩ := aN (show bf e x kk L K h from ht); rw [g.ev hw]; exact ht)
  case alloc t =>
    cases hz : (P.info? t).bind (·.zero) with
    | none => simp only [hz] at ht; exact ht.elim
    | some z =>
      simp only [hz] at ht;rw [oI];unfold Instr.alloc;rw [aj, dz hz];exact Gm ht (by simp)
  case box t x =>
    obtain ⟨v, hv, ht⟩ := aN ht;rw [g.ev hv, oI];unfold Instr.box newVar;cases hb : cj P t with
    | none => simp only [hb] at ht; exact ht.elim
    | some b =>
      cases b <;> simp only [hb] at ht <;> rcases ek ht with ⟨hv, ht⟩ | ⟨hv, ht⟩ <;> first
        | exact ht.elim
        | (refine Gm ht ?_
           cases v <;> first | (simp [eF] at hv; done) | simp [Value.cells, lH])
  case build t ps =>
    obtain ⟨vs, fw, ht⟩ := fK ht;have fw := g.Ib fw
    have hps : (ps.map fun x => (x.1, a.eval x.2)).toList = (ps.toList.map (·.1)).zip vs := by
      rw [← fw];simp only [Array.toList_map];generalize ps.toList = l
      induction l with
      | nil => rfl
      | cons p l ih => simp [ih]
    rw [oI];unfold Instr.build;rw [aj];cases hz : (P.info? t).bind (·.zero) with
    | none =>
      generalize P.underlying t = ud at ht;cases ud with
      | none => simp only [hz] at ht; exact ht.elim
      | some d => cases d <;> simp only [hz] at ht <;> exact ht.elim
    | some z =>
      rw [dz hz];show aD P (underlying t >>= _) h _;cases hd : P.underlying t with
      | none => simp only [hd] at ht; exact ht.elim
      | some d =>
        rw [aj, ay hd];cases d <;> simp only [hd, hz] at ht <;> first | exact ht.elim | skip
        case array len el =>
          rcases ek ht with ⟨_, ht⟩ | ⟨hT, ht⟩
          · exact ht.elim
          · have hT : pL P el = true := by simpa using hT
            obtain ⟨i, hi⟩ := Option.isSome_iff_exists.1 hT;simp only;rw [aj, bk hi];have hps' : (Array.map (fun x => (x.1, a.eval x.2)) ps).toList = (ps.toList.map (·.1)).zip vs := hps;obtain ⟨ls, hls, ht⟩ := ob ht;cases hf : iw (fun i => some (i * P.cellsOf el, P.cellsOf el)) z.cells.toList ls with
            | none => simp only [hf] at ht; exact ht.elim
            | some cs =>
              simp only [hf] at ht;rw [hps', Dj hls hf];exact ht
        case struct fs =>
          rcases ek ht with ⟨_, ht⟩ | ⟨hT, ht⟩
          · exact ht.elim
          · have hT : (fs.all fun f => pL P f.type) = true := by simpa using hT
            simp only;rw [aj]
            have hm : ∀ R : Array (Nat × Nat) → Hp → Prop, aD P (fs.mapM fun f => do pure (f.offset, ← sizeOf f.type)) h R = R (fs.map fun f => (f.offset, P.cellsOf f.type)) h := by
              intro R;rw [Array.mapM_eq_mapM_toList]
              have hT' : ∀ f ∈ fs.toList, pL P f.type = true := by
                intro f hf; exact (Array.all_eq_true_iff_forall_mem.1 hT) f (by simpa using hf)
              have : ∀ (l : List Field) (R : List (Nat × Nat) → Hp → Prop), (∀ f ∈ l, pL P f.type = true) →
                  aD P (l.mapM fun f => (do pure (f.offset, ← sizeOf f.type) : Sem (Nat × Nat))) h R = R (l.map fun f => (f.offset, P.cellsOf f.type)) h := by
                intro l
                induction l with
                | nil => intro R _; rfl
                | cons f l ih =>
                  intro R hl;obtain ⟨i, hi⟩ := Option.isSome_iff_exists.1 (hl f (by simp));rw [List.mapM_cons, aj, aj, bk hi];show aD P ((l.mapM fun f => (do pure (f.offset, ← sizeOf f.type) : Sem (Nat × Nat))) >>= _) h R = _;rw [aj, ih _ (fun f hf => hl f (by simp [hf]))] <;> rfl
              show aD P (List.toArray <$> _) h R = _;rw [map_eq_pure_bind, aj, this _ _ hT'];show R (List.toArray _) h = _
              congr 1
              apply Array.toList_inj.1
              simp
            rw [hm];obtain ⟨ls, hls, ht⟩ := ob ht;cases hf : iw (fun i => (fs.map fun f => (f.offset, P.cellsOf f.type))[i]?) z.cells.toList ls with
            | none => simp only [hf] at ht; exact ht.elim
            | some cs =>
              simp only [hf] at ht;have hps' : (Array.map (fun x => (x.1, a.eval x.2)) ps).toList = (ps.toList.map (·.1)).zip vs := hps;rw [hps', Dj hls hf];exact ht
  case buildSlice t len ps =>
    obtain ⟨vs, fw, ht⟩ := fK ht;have fw := g.Ib fw
    have hps : (ps.map fun x => (x.1, a.eval x.2)) = ((ps.toList.map (·.1)).zip vs).toArray := by
      apply Array.toList_inj.1;rw [← fw];simp only [Array.toList_map];generalize ps.toList = l
      induction l with
      | nil => rfl
      | cons p l ih => simpa using ih
    rw [oI];have hps' : (Array.map (fun x => (x.1, a.eval x.2)) ps) = ((ps.toList.map (·.1)).zip vs).toArray := hps;rw [hps'];exact jl ht
  case load t x =>
    have ht' : pf P t x e (fun _ _ v => kk v) L K h := ht;obtain ⟨p, l, v, hv, hc, hk, hall⟩ := F3 g ht';rw [g.ev hv, oI];exact hall h _ hc hk
  case store t x y =>
    obtain ⟨v, hv, ht⟩ := aN ht;obtain ⟨u, hu, ht⟩ := aN ht;rw [g.ev hv, g.ev hu, LL];cases hb : cj P t with
    | none => cases v <;> simp only [hb] at ht <;> exact ht.elim
    | some b =>
      obtain ⟨i, hi⟩ := pv hb
      cases v <;> first
        | (cases b <;> simp only [hb] at ht <;> exact ht.elim)
        | skip
      rename_i p;cases b <;> simp only [hb] at ht
      · rcases ek ht with ⟨hl, ht⟩ | ⟨hl, ht⟩
        · rcases ek ht with ⟨hag, ht⟩ | ⟨hag, ht⟩
          · exact ht.elim
          · obtain ⟨q, rfl, ht⟩ := ey ht
            obtain ⟨hc, ht⟩ := ht;unfold Instr.storeAt storeVar;show aD P (sizeOf t >>= _) h _;rw [aj, bk hi];have hcl : u.cells = #[u] := by cases u <;> first | (simp [eF] at hag; done) | rfl
            have h1 : P.cellsOf t = 1 := by simpa using hl
            rw [hcl, h1];exact dR q [u] h 0 _ hc ht
        · exact ht.elim
      · rcases ek ht with ⟨hag, ht⟩ | ⟨hag, ht⟩
        · rcases ek ht with ⟨hl, ht⟩ | ⟨hl, ht⟩
          · obtain ⟨q, rfl, ht⟩ := ey ht
            obtain ⟨hc, ht⟩ := ht;unfold Instr.storeAt storeVar;show aD P (sizeOf t >>= _) h _;rw [aj, bk hi];obtain ⟨cs, rfl⟩ : ∃ cs, u = .agg cs := by cases u <;> first | (simp [eF] at hag; done) | exact ⟨_, rfl⟩
            have h1 : cs.size = P.cellsOf t := by simpa [lH] using hl
            show aD P (if cs.size ≠ P.cellsOf t then _ else storeCells q cs.toList 0) h _;rw [if_neg (by simp [h1])];exact dR q cs.toList h 0 _ hc ht
          · exact ht.elim
        · exact ht.elim
  case nilCheck x =>
    obtain ⟨v, hv, ht⟩ := aN ht;rw [g.ev hv];cases v with
    | pointer p => obtain ⟨q, rfl, ht⟩ := ey ht; exact ht
    | func fn fi ca => cases fn <;> first | exact ht.elim | exact ht
    | iface t w => exact ht
    | _ => exact ht.elim
  case binOp op t x y yt =>
    obtain ⟨v, hv, ht⟩ := aN ht;obtain ⟨u, hu, ht⟩ := aN ht;rw [g.ev hv, g.ev hu, oI];exact Ip hu ht
  case unOp op t x => obtain ⟨v, hv, ht⟩ := aN ht; rw [g.ev hv, oI]; exact JW ht
  case convert s d x => obtain ⟨v, hv, ht⟩ := aN ht; rw [g.ev hv, oI]; exact GN ht
  case makeInterface t x =>
    obtain ⟨v, hv, ht⟩ := aN ht;rw [g.ev hv, oI];unfold Instr.makeInterface;cases hd : P.underlying t with
    | none => simp only [hd] at ht; exact ht.elim
    | some d =>
      rw [aj, ay hd];cases d <;> simp only [hd] at ht <;> first | exact ht.elim | exact ht
  case makeFunc fn fi ca =>
    obtain ⟨vs, fw, ht⟩ := fK ht;obtain ⟨us, hus, ht⟩ := fK ht;rw [oI];have e1 : fi.map a.eval = vs.toArray := by apply Array.toList_inj.1; simpa using g.Ib fw
    have e2 : ca.map a.eval = us.toArray := by apply Array.toList_inj.1; simpa using g.Ib hus
    rw [e1, e2];exact ht
  case makeMap t r =>
    cases r with
    | none => rw [oI]; exact HW ht
    | some r => exact ht.elim
  case makeSlice t l c =>
    obtain ⟨v, hv, ht⟩ := aN ht;obtain ⟨u, hu, ht⟩ := aN ht;rw [g.ev hv, g.ev hu, oI];exact jl ht
  case slice t x lo hi mx =>
    obtain ⟨v, hv, ht⟩ := aN ht;obtain ⟨vs, fw, ht⟩ := fK ht;have fw := g.Ib fw;rw [g.ev hv, oI];unfold KV at ht
    cases lo <;> cases hi <;> cases mx <;> simp only [Option.toList, List.nil_append, List.append_nil, List.map_cons, List.map_nil, List.cons_append] at fw <;> subst fw <;>
      first | exact ht.elim | exact DN ht
  case fieldAddr s x f =>
    obtain ⟨v, hv, ht⟩ := aN ht;rw [g.ev hv, oI];cases hd : P.underlying s with
    | none => cases v <;> simp only [hd] at ht <;> exact ht.elim
    | some d =>
      cases v <;> first
        | (cases d <;> simp only [hd] at ht <;> exact ht.elim)
        | skip
      rename_i p;cases d <;> simp only [hd] at ht <;> first | exact ht.elim | skip
      rename_i fs;cases hf : fs[f]? with
      | none => simp only [hf] at ht; exact ht.elim
      | some fd =>
        simp only [hf] at ht;cases hc : P.cellsOf fd.type with
        | zero => simp only [hc] at ht; exact ht.elim
        | succ m =>
          simp only [hc] at ht;obtain ⟨q, rfl, ht⟩ := ey ht
          have hi : ∃ i, P.info? fd.type = some i := by
            cases hi : P.info? fd.type with
            | none => simp [Program.cellsOf, hi] at hc
            | some i => exact ⟨i, rfl⟩
          obtain ⟨i, hi⟩ := hi;unfold Instr.fieldAt;rw [aj, ay hd];simp only [hf];show aD P (fieldPlace q fd >>= fun y => (pure (Value.pointer (some y)) : Sem Value)) h _;unfold fieldPlace;rw [aj, aj, bk hi, hc];exact ht
  case field s x f =>
    obtain ⟨v, hv, ht⟩ := aN ht;rw [g.ev hv, oI];cases hd : P.underlying s with
    | none => cases v <;> simp only [hd] at ht <;> exact ht.elim
    | some d =>
      cases v <;> first
        | (cases d <;> simp only [hd] at ht <;> exact ht.elim)
        | skip
      rename_i cs;cases d <;> simp only [hd] at ht <;> first | exact ht.elim | skip
      rename_i fs;cases hf : fs[f]? with
      | none => simp only [hf] at ht; exact ht.elim
      | some fd =>
        simp only [hf] at ht;unfold Instr.field;rw [aj, ay hd];simp only [hf];show aD P (part fd.type cs fd.offset) h _;exact FV ht
  case indexAddr t x i =>
    obtain ⟨v, hv, ht1⟩ := aN ht;obtain ⟨u, hu, ht2⟩ := aN ht1;clear ht ht1;rw [g.ev hv, g.ev hu, oI];clear hv hu;unfold Am at ht2;generalize hd : P.underlying t = ud at ht2;split at ht2
    · rename_i p len cp k m el
      rcases ek ht2 with ⟨_, ht⟩ | ⟨hT, ht⟩
      · exact ht.elim
      · have hT : pL P el = true := by simpa using hT
        obtain ⟨i, hi⟩ := Option.isSome_iff_exists.1 hT;obtain ⟨hb, ht⟩ := ht;obtain ⟨q, rfl, ht⟩ := ey ht;unfold Instr.indexAt;show aD P (underlying t >>= _) h _;rw [aj, ay hd];show aD P (underlying t >>= _) h _;rw [aj, ay hd];show aD P (if 0 ≤ m ∧ m < len then (sizeOf el >>= fun z => (pure (Value.pointer (some (q.add (m.toNat * z)))) : Sem Value)) else _) h _;rw [if_pos hb, aj, bk hi];exact ht
    · rename_i p k m len el
      rcases ek ht2 with ⟨_, ht⟩ | ⟨hT, ht⟩
      · exact ht.elim
      · have hT : pL P el = true := by simpa using hT
        obtain ⟨i, hi⟩ := Option.isSome_iff_exists.1 hT;obtain ⟨hb, ht⟩ := ht;obtain ⟨q, rfl, ht⟩ := ey ht;unfold Instr.indexAt;show aD P (underlying t >>= _) h _;rw [aj, ay hd];show aD P (underlying t >>= _) h _;rw [aj, ay hd];show aD P (if 0 ≤ m ∧ m < len then (sizeOf el >>= fun z => (pure (Value.pointer (some (q.add (m.toNat * z)))) : Sem Value)) else _) h _;rw [if_pos hb, aj, bk hi];exact ht
    · exact ht2.elim
  case index t x i =>
    obtain ⟨v, hv, ht1⟩ := aN ht;obtain ⟨u, hu, ht2⟩ := aN ht1;clear ht ht1;rw [g.ev hv, g.ev hu, oI];clear hv hu;unfold Gi at ht2;generalize hd : P.underlying t = ud at ht2;split at ht2
    · rename_i s k m
      obtain ⟨hb, ht⟩ := ht2;unfold Instr.index;show aD P (underlying t >>= _) h _;rw [aj, ay hd]
      have hs : s[m.toNat]? = some (s.data.toList.getD m.toNat 0) := by
        have hlt : m.toNat < s.size := by omega
        have : s[m.toNat]? = some s[m.toNat] := by simp [hlt]
        rw [this]
        congr 1
        have h2 : m.toNat < s.data.toList.length := by simpa using hlt
        rw [List.getD_eq_getElem?_getD, List.getElem?_eq_getElem h2] <;> rfl
      show aD P (match (if 0 ≤ m then s[m.toNat]? else none) with | some b => (pure (Value.int .u8 b.toNat) : Sem Value) | none => boundsPanic k m s.size .index) h _;rw [if_pos hb.1, hs];exact ht
    · exact kb ht2
    · exact ht2.elim
  case lookup t m x ok =>
    obtain ⟨v, hv, ht⟩ := aN ht;obtain ⟨u, hu, ht⟩ := aN ht;rw [g.ev hv, g.ev hu, oI];generalize hd : P.underlying t = ud at ht;split at ht
    · cases ok <;> simp only at ht <;> exact kb ht
    · exact ht.elim
  case mapUpdate t m x y =>
    obtain ⟨v, hv, ht⟩ := aN ht;obtain ⟨u, hu, ht⟩ := aN ht;obtain ⟨w, hw, ht⟩ := aN ht;rw [g.ev hv, g.ev hu, g.ev hw, LL];exact ht
  case insert t m x y =>
    obtain ⟨v, hv, ht⟩ := aN ht;obtain ⟨u, hu, ht⟩ := aN ht;obtain ⟨w, hw, ht⟩ := aN ht;rw [g.ev hv, g.ev hu, g.ev hw, LL];exact ht
  case mapEntry t m x =>
    obtain ⟨v, hv, ht⟩ := aN ht;obtain ⟨u, hu, ht⟩ := aN ht;rw [g.ev hv, g.ev hu, oI];generalize hd : P.underlying t = ud at ht;split at ht
    · exact kb ht
    · exact ht.elim
  case entryStore t m x y =>
    obtain ⟨v, hv, ht⟩ := aN ht;obtain ⟨u, hu, ht⟩ := aN ht;obtain ⟨w, hw, ht⟩ := aN ht;rw [g.ev hv, g.ev hu, g.ev hw, LL];exact ht
  case range t x =>
    obtain ⟨v, hv, ht⟩ := aN ht;rw [g.ev hv, oI];exact HO ht
  case next it b =>
    obtain ⟨v, hv, ht⟩ := aN ht;rw [g.ev hv, oI];generalize hd : P.underlying type = ud at ht;split at ht
    · rename_i ts
      generalize hts : ts.toList = tl at ht;cases tl with
      | nil =>
        refine cI _ _ _ _ ?_ ht;rintro v h' (⟨rfl, hx⟩ | ⟨x, rfl, hx⟩)
        · exact hx
        · rw [ei] at hx; exact hx
      | cons t0 ts =>
        refine cI _ _ _ _ ?_ ht;rintro v h' (⟨rfl, hx⟩ | ⟨x, rfl, hx⟩)
        · exact hx
        · rw [ei] at hx; exact hx
    · exact ht.elim
  case entry it =>
    obtain ⟨v, hv, ht⟩ := aN ht;rw [g.ev hv, oI];exact kb ht
  case typeAssert x t d ok =>
    obtain ⟨v, hv, ht⟩ := aN ht;rw [g.ev hv, oI];cases ok <;> simp only at ht <;> exact kb ht
  case extract x i =>
    obtain ⟨v, hv, ht⟩ := aN ht;rw [g.ev hv, oI];cases v with
    | tuple vs =>
      unfold Instr.extract;show aD P (match vs[i]? with | some v => pure v | none => stuck "Extract: no such component") h _
      rw [← Array.getElem?_toList];cases hi : vs.toList[i]? with
      | none => simp only [hi] at ht; exact ht.elim
      | some w => simp only [hi] at ht; exact ht
    | _ => exact ht.elim
  case call c =>
    rw [aj];unfold resolve;cases hc : c.callee with
    | builtin b =>
      simp only [hc] at ht;obtain ⟨vs, fw, ht⟩ := fK ht;have e1 : c.args.map a.eval = vs.toArray := by apply Array.toList_inj.1; simpa using g.Ib fw
      simp only [e1];exact AO ht
    | invoke r m => simp only [hc] at ht; exact ht.elim
    | value f =>
      simp only [hc] at ht;cases htm : Hm f with
      | true =>
        simp only [htm] at ht;obtain ⟨gv, hg, ht⟩ := aN ht;obtain ⟨vs, fw, ht⟩ := fK ht;have e1 : c.args.map a.eval = vs.toArray := by apply Array.toList_inj.1; simpa using g.Ib fw
        simp only [e1, g.ev hg];obtain ⟨f', fi, ca, rfl, ht, fn, hfn, hb, hn⟩ := ht
        have hbd : fU P f' = true := by
          unfold fU;rw [hfn];simp [hb, hn]
        show aD P (callFunc f' (fi ++ vs.toArray ++ ca)) h _
        have e2 : (fi.toList ++ vs ++ ca.toList).toArray = fi ++ vs.toArray ++ ca := by
          apply Array.toList_inj.1; simp
        rw [← e2, qG hbd];refine HC.mono ht ?_;rintro v h' ⟨x, rfl, hx⟩;rw [ei] at hx;exact hx
      | false =>
        simp only [htm] at ht;obtain ⟨gv, hg, ht⟩ := aN ht;obtain ⟨vs, fw, ht⟩ := fK ht;have e1 : c.args.map a.eval = vs.toArray := by apply Array.toList_inj.1; simpa using g.Ib fw
        simp only [e1, g.ev hg]
        obtain ⟨f, fi, ca, rfl⟩ : ∃ f fi ca, gv = .func (.func f) fi ca := by
          cases gv with
          | func fn fi ca => cases fn <;> first | exact ht.elim | exact ⟨_, _, _, rfl⟩
          | _ => exact ht.elim
        have := E1 (show Dv P f (fi.toList ++ vs ++ ca.toList) type kk L K h from ht);show aD P (callFunc f (fi ++ vs.toArray ++ ca)) h _
        have e2 : (fi.toList ++ vs ++ ca.toList).toArray = fi ++ vs.toArray ++ ca := by
          apply Array.toList_inj.1; simp
        rw [← e2];exact this
  all_goals exact ht.elim
end ops
end Go.Sx
