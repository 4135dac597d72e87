/- Part of the framework. No condition. -/
import Derived.Test.YthbffkdafjboiaaGreatDoorSxX
set_option linter.all false
set_option maxHeartbeats 4000000
namespace Go.Sx
section sems
variable {P:Program} {h:Hp}
def fp {α:Type} (f:Program->Sem α) (K:α->Hp->Prop):aU P (program >>= f) h K=aU P (f P) h K:=by
 rw [ao]; rfl
def aF {t:TypeId} {d:TypeDesc} (j:P.underlying t=some d) (K:TypeDesc->Hp->Prop):aU P (underlying t) h K=K d h:=by
 unfold underlying; rw [fp,j]; rfl
def info_of_underlying {t:TypeId} {d:TypeDesc} (j:P.underlying t=some d):∃ i,P.info? t=some i:=by
 unfold Program.underlying at j;cases hi:P.info? t with
 | none=>rw [hi] at j; simp at j
 | some i=>exact ⟨i,rfl⟩
def gM {t:TypeId} {i:TypeInfo} (hi:P.info? t=some i) (K:TypeInfo->Hp->Prop):aU P (typeInfo t) h K=K i h:=by
 unfold typeInfo; rw [fp,hi]; rfl
def cE {t:TypeId} {i:TypeInfo} (hi:P.info? t=some i):P.cellsOf t=i.size:=by
 simp [Program.cellsOf,hi]
def bT {t:TypeId} {i:TypeInfo} (hi:P.info? t=some i) (K:Nat->Hp->Prop):aU P (sizeOf t) h K=K (P.cellsOf t) h:=by
 unfold sizeOf; rw [ao,gM hi,cE hi]; rfl
def dr {t:TypeId} {z:Xab} (d:(P.info? t).bind (·.zero)=some z) (K:Xab->Hp->Prop):aU P (zeroValue t) h K=K z h:=by
 cases hi:P.info? t with
 | none=>rw [hi] at d; simp at d
 | some i =>
  rw [hi] at d; simp at d;unfold zeroValue; rw [ao,gM hi,d]; rfl
def jI {t:TypeId} {b:Bool} (j:cH P t=some b) (K:Bool->Hp->Prop):aU P (isAgg t) h K=K b h:=by
 unfold cH at j;cases u:P.underlying t with
 | none=>rw [u] at j; simp at j
 | some d =>
  rw [u] at j;unfold isAgg; rw [ao,aF u]
  all_goals (cases d <;> simp at j <;> subst j <;> rfl)
def tp {t:TypeId} {b:Bool} (j:cH P t=some b):∃ i,P.info? t=some i:=by
 unfold cH at j;cases u:P.underlying t with
 | none=>rw [u] at j; simp at j
 | some d=>exact info_of_underlying u
theorem mE (a:Xax):∀ (vs:List Xab) (i:Nat) (d:Array Xab) (K:Array Xab->Hp->Prop),aJ h a i vs->K (d++vs.toArray) h ->
  aU P (loadCellsFrom a i vs.length d) h K
 | [],i,d,K,_,hk=>by
  have j:K d h:=by simpa using hk
  exact j
 | v::vs,i,d,K,hc,hk=>by
  simp only [List.length_cons,loadCellsFrom];rw [ao];refine ⟨v,hc.1,mE a vs (i+1) (d.push v) K hc.2 ?_⟩;have e:d.push v++vs.toArray=d++(v::vs).toArray:=by
   apply Zg.1; simp
  rw [e]; exact hk
def dt {a:Xax} {n:Nat} {vs:List Xab} (hn:vs.length=n) (hc:aJ h a 0 vs) (K:Array Xab->Hp->Prop) (hk:K vs.toArray h):aU P (loadCells a n) h K:=by
 subst hn;exact mE a vs 0 #[] K hc (by simpa using hk)
theorem dN (a:Xax):∀ (vs:List Xab) (h:Hp) (i:Nat) (K:Unit->Hp->Prop),yq h a i vs->K () (r5 h a i vs)->aU P (storeCells a vs i) h K
 | [],h,i,K,_,hk=>hk
 | v::vs,h,i,K,hc,hk=>by
  simp only [storeCells];rw [ao];exact ⟨hc.1,hc.2.1,hc.2.2.1,dN a vs _ (i+1) K hc.2.2.2 hk⟩
end sems
structure Nd where
 n:Nat
 d:List Deferred
instance:Coe Nd Nat:=⟨Nd.n⟩
structure gK (n:Nd) (e:Env) (a:Act):Prop where
 size:a.tmps.size=n.n
 defers:a.defers=n.d
 get:∀ s v,cQ e s=some v->a.tmps.getD s undef=v
def gK.ev {n:Nd} {e:Env} {a:Act} (g:gK n e a) {x:Operand} {v:Xab} (hx:ev e x=some v):a.eval x=v:=by
 cases x with
 | tmp t=>exact g.get t v hx
 | const w=>simpa [Sx.ev,Act.eval] using hx
 | global i=>simpa [Sx.ev,Act.eval] using hx
 | func f=>simpa [Sx.ev,Act.eval] using hx
def dB (e:Env) (s:Nat) (v:Option Xab) (t:Nat):cQ ((s,v)::e) t=if s=t then v else cQ e t:=by
 simp only [cQ]
 by_cases h:s=t
 ·subst h; simp
 ·have:Nat.beq s t=false:=by
   cases d:Nat.beq s t
   ·rfl
   ·exact (h (YL d)).elim
  rw [this,Yx h]; rfl
def gK.put {n:Nd} {e:Env} {a:Act} (g:gK n e a) (dst:Option Tmp) (v:Xab):gK n (dX n e dst v) (a.put dst v):=by
 cases dst with
 | none=>exact g
 | some d =>
  refine ⟨by simp [Act.put,g.size],by simp [Act.put,g.defers],fun s u hu=>?_⟩;simp only [dX] at hu;cases F:Nat.blt d n with
  | true =>
   have G:d<n:=by simpa [Nat.blt_eq] using F
   rw [F] at hu;simp only [cond_true,dB] at hu;simp only [Act.put,Array.getD_eq_getD_getElem?,Array.getElem?_setIfInBounds]
   by_cases hs:d=s
   ·subst hs;rw [YC rfl] at hu;simp at hu; subst hu;simp [g.size,G]
   ·rw [Yx hs] at hu;rw [Yx hs]
    have:=g.get s u hu
    simpa [Array.getD_eq_getD_getElem?] using this
  | false =>
   rw [F] at hu;have G:¬ d<n:=by intro J; rw [<- Nat.blt_eq] at J; rw [F] at J; cases J
   have j:a.put (some d) v=a:=by
    simp only [Act.put]
    have:a.tmps.setIfInBounds d v=a.tmps:=Array.setIfInBounds_eq_of_size_le (by rw [g.size]; exact Nat.le_of_not_lt G)
    rw [this]
   rw [j];exact g.get s u hu
def gK.vj {n:Nd} {e:Env} {a:Act} (g:gK n e a) {s:Nat} {v:Xab} (hv:cQ e s=some v) (w:Xab) (hw:w=v):gK n (dX n e (some s) w) a:=by
 subst hw;refine ⟨g.size,g.defers,fun t u hu=>?_⟩;simp only [dX] at hu;cases d:Nat.blt s n with
 | true =>
  rw [d] at hu;simp only [cond_true,dB] at hu
  by_cases hs:s=t
  ·subst hs; rw [YC rfl] at hu; simp at hu; subst hu; exact g.get s w hv
  ·rw [Yx hs] at hu; exact g.get t u hu
 | false=>rw [d] at hu; exact g.get t u hu
section trees
variable {L:Lp} {K:Xab->Hp->Prop} {h:Hp}
def bH {e:Env} {x:Operand} {k:Xab->T} (d:bY e x k L K h):∃ v,ev e x=some v/\k v L K h:=by
 unfold bY at d;cases hx:ev e x with
 | none=>rw [hx] at d; exact d.elim
 | some v=>rw [hx] at d; exact ⟨v,rfl,d⟩
theorem iO {e:Env}:∀ {xs:List Operand} {k:List Xab->T},iq e xs k L K h->∃ vs,xs.map (ev e)=vs.map some/\k vs L K h
 | [],k,d=>⟨[],rfl,d⟩
 | x::xs,k,d=>by
  obtain ⟨v,hv,d⟩:=bH d;obtain ⟨vs,ec,d⟩:=iO d;exact ⟨v::vs,by simp [hv,ec],d⟩
theorem gK.Q0 {n:Nd} {e:Env} {a:Act} (g:gK n e a):∀ {xs:List Operand} {vs:List Xab},xs.map (Sx.ev e)=vs.map some->xs.map a.eval=vs
 | [],[],_=>rfl
 | x::xs,v::vs,d=>by
  simp only [List.map_cons,List.cons.injEq] at d;simp only [List.map_cons,g.ev d.1,g.Q0 d.2]
 | [],v::vs,d=>by simp at d
 | x::xs,[],d=>by simp at d
def gb {p:Xac} {k:Xax->T} (d:T.bi p k L K h):∃ a,p=some a/\k a L K h:=by
 cases p with
 | none=>exact d.elim
 | some a=>exact ⟨a,rfl,d⟩
def fL {b:Bool} {t u:T} (d:(cond b t u) L K h):(b=true/\t L K h)\/(b=false/\u L K h):=by
 cases b
 ·exact .inr ⟨rfl,d⟩
 ·exact .inl ⟨rfl,d⟩
end trees
section ops
variable {P:Program} {L:Lp} {K:Xab->Hp->Prop} {h:Hp}
def th {s:Sem Xab} {R:Xab->Hp->Prop}:aU P (do pure (Next.value (<- s))) h (CH P R)=aU P s h R:=by
 rw [ao]; rfl
def W6 {s:Sem Unit} {R:Xab->Hp->Prop}:aU P (do s; pure Next.skip) h (CH P R)=aU P s h (fun _ h'=>R undef h'):=by
 rw [ao]; rfl
def nO {s:Sem Xab} {d:Bool} {cs:List fI} {kk:Xab->T} (j:T.ek P s d cs (jv _ fun l=>kk (rv d cs l)) L K h) :
  aU P s h (fun v h'=>kk v L K h'):=by
 refine dA _ _ _ _ ?_ j;rintro v h' ⟨x,rfl,hx⟩;rw [dI] at hx;exact hx
def mG {s:Sem Xab} {d:TypeId} {kk:Xab->T} (j:T.ek P s false [(false,[.slice d])] (fun p l c=>kk (.slice p l c)) L K h) :
  aU P s h (fun v h'=>kk v L K h'):=by
 refine dA _ _ _ _ ?_ j;rintro v h' ⟨x,rfl,hx⟩;exact hx
def RH {s:Sem Xab} {kk:Xab->T} (d:T.ek P s false [(false,[.bool])] (fun b=>kk (.bool b)) L K h):aU P s h (fun v h'=>kk v L K h'):=by
 refine dA _ _ _ _ ?_ d;rintro v h' ⟨x,rfl,hx⟩;exact hx
def Dn {s:Sem Xab} {kk:Xab->T} (d:T.ek P s false [(false,[.int .i64])] (fun b=>kk (.int .i64 b)) L K h):aU P s h (fun v h'=>kk v L K h'):=by
 refine dA _ _ _ _ ?_ d;rintro v h' ⟨x,rfl,hx⟩;exact hx
def Qm {s:Sem Xab} {kk:Xab->T} (d:T.ek P s false [(false,[.string])] (fun b=>kk (.string b)) L K h):aU P s h (fun v h'=>kk v L K h'):=by
 refine dA _ _ _ _ ?_ d;rintro v h' ⟨x,rfl,hx⟩;exact hx
def Rp {s:Sem Xab} {a b:TypeId} {kk:Xab->T} (d:T.ek P s false [(false,[.map a b])] (fun b=>kk (.map b)) L K h):aU P s h (fun v h'=>kk v L K h'):=by
 refine dA _ _ _ _ ?_ d;rintro v h' ⟨x,rfl,hx⟩;exact hx
def Rc {s:Sem Xab} {a:TypeId} {kk:Xab->T} (d:T.ek P s false [(false,[.pointer a])] (fun b=>kk (.pointer b)) L K h):aU P s h (fun v h'=>kk v L K h'):=by
 refine dA _ _ _ _ ?_ d;rintro v h' ⟨x,rfl,hx⟩;exact hx
def PN {s:Sem Xab} {kk:T} (d:T.ek P s true [] kk L K h):aU P s h (fun v h'=>v=.tuple #[]/\kk L K h'):=by
 refine dA _ _ _ _ ?_ d;rintro v h' ⟨x,rfl,hx⟩;exact ⟨rfl,hx⟩
def P3 {op : BinOp} {k : IntKind} {m n : Int} {kk : Xab -> T} (hs : mX op = false) (t : TypeId) (d : HS op k m n kk L K h) :
    aU P (binOp op t (.int k m) (.int k n)) h (fun v h' => kk v L K h') := by
  cases op <;> simp only [mX, Bool.true_eq_false] at hs <;> simp only [HS] at d <;>
    first
    | exact d.elim
    | (simp only [binOp, Op.intArith, Op.intDiv, Op.intBits, Op.intCmp, ne_eq, not_true_eq_false, if_false]; exact d)
    | (obtain ⟨h0, d⟩ := d
       simp only [binOp, Op.intDiv, ne_eq, not_true_eq_false, if_false, if_neg h0]; exact d)
def Lg {op:BinOp} {k k':IntKind} {m n:Int} {kk:Xab->T} (hs:mX op=true) (t:TypeId) (d:zP op k m n kk L K h) :
  aU P (binOp op t (.int k m) (.int k' n)) h (fun v h'=>kk v L K h'):=by
 cases op <;> simp only [mX,Bool.false_eq_true] at hs <;> simp only [zP] at d <;> obtain ⟨h0,d⟩:=d <;>
  simp only [binOp,Op.shift,if_neg (Int.not_lt.2 h0)] <;> exact d
def R8 {op : BinOp} {m n : Xaa} {kk : Xab -> T} (t : TypeId) (d : HM op m n kk L K h) :
    aU P (binOp op t (.string m) (.string n)) h (fun v h' => kk v L K h') := by
  cases op <;> simp only [HM] at d <;>
    first
    | exact d.elim
    | (simp only [binOp, Op.stringOp]; exact d)
    | (obtain ⟨h0, d⟩ := d
       simp only [binOp, Op.stringOp, if_neg (Int.not_lt.2 h0)]; exact d)
def BT:Xab->Bool
 | .nilIface=>false
 | .agg _=>false
 | _=>true
def gf {op:BinOp} {t:TypeId} {x y:Operand} {a b:Xab} (d:BT a=true) {R:Xab->Hp->Prop} :
  aU P (do eqGuard op t x y a b; binOp op t a b) h R=aU P (binOp op t a b) h R:=by
 rw [ao]
 have:∀ K:Unit->Hp->Prop,aU P (eqGuard op t x y a b) h K=K () h:=by
  intro K;cases op <;> first | rfl | (cases a <;> first | (simp [BT] at d; done) | rfl)
 rw [this]
def Hq {t:TypeId} (d:P.underlying t=some .bool) (m n:Bool) (R:Bool->Hp->Prop):aU P (Op.equal t (.bool m) (.bool n)) h R=R (m==n) h:=by
 show aU P (Op.equalIn (9999+1) t (.bool m) (.bool n)) h R=_;unfold Op.equalIn;rw [ao,aF d]; rfl
def BG {t e:TypeId} (d:P.underlying t=some (.pointer e)) (p:Xac) (R:Bool->Hp->Prop):aU P (Op.equal t (.pointer p) (.pointer none)) h R=R p.isNone h:=by
 show aU P (Op.equalIn (9999+1) t (.pointer p) (.pointer none)) h R=_;unfold Op.equalIn;rw [ao,aF d]; cases p <;> rfl
def yH {t e:TypeId} (d:P.underlying t=some (.slice e)) (p:Xac) (l c:Nat) (R:Bool->Hp->Prop):aU P (Op.equal t (.slice p l c) (.slice none 0 0)) h R=R p.isNone h:=by
 show aU P (Op.equalIn (9999+1) t (.slice p l c) (.slice none 0 0)) h R=_;unfold Op.equalIn;rw [ao,aF d]; cases p <;> rfl
def Bw {t a b:TypeId} (d:P.underlying t=some (.map a b)) (p:Option Nat) (R:Bool->Hp->Prop):aU P (Op.equal t (.map p) (.map none)) h R=R p.isNone h:=by
 show aU P (Op.equalIn (9999+1) t (.map p) (.map none)) h R=_;unfold Op.equalIn;rw [ao,aF d]; cases p <;> rfl
def u7 {op:BinOp} {t:TypeId} {a b:Xab} {r:Bool} {kk:Xab->T}
  (j:∀ R:Bool->Hp->Prop,aU P (Op.equal t a b) h R=R r h)
  (h1:binOp .eql t a b=(do pure (.bool (<- Op.equal t a b)))) (h2:binOp .neq t a b=(do pure (.bool (!(<- Op.equal t a b)))))
  (d:asked op r kk T.fail L K h):aU P (binOp op t a b) h (fun v h'=>kk v L K h'):=by
 cases op <;> simp only [asked] at d <;> first
  | exact d.elim
  | (rw [h1,ao,j]; exact d)
  | (rw [h2,ao,j]; exact d)
def Sb {op:BinOp} {t:TypeId} {x y:Operand} {a b:Xab} {kk:Xab->T} (d:PM P op t x y a b kk L K h) :
  aU P (do eqGuard op t x y a b; binOp op t a b) h (fun v h'=>kk v L K h'):=RH d
def Rg {e:Env} {op:BinOp} {t:TypeId} {x y:Operand} {a b:Xab} {kk:Xab->T} (O:ev e y=some b)
  (j:DH P op t x y a b kk L K h):aU P (do eqGuard op t x y a b; binOp op t a b) h (fun v h'=>kk v L K h'):=by
 have U:∀ q,b=.pointer q->isNil y=true->q=none:=by
  intro q V hn;cases y <;> simp only [isNil,Bool.false_eq_true] at hn;rename_i c;simp only [Sx.ev,Option.some.injEq] at O;subst O; subst V;cases q with
  | none=>rfl
  | some a=>simp [isNil] at hn
 have G:∀ q l c,b=.slice q l c->isNil y=true->q=none/\l=0/\c=0:=by
  intro q l c V hn;cases y <;> simp only [isNil,Bool.false_eq_true] at hn;rename_i c;simp only [Sx.ev,Option.some.injEq] at O;subst O; subst V;cases q with
  | none =>
   cases l <;> cases c <;> simp [isNil] at hn <;> exact ⟨rfl,rfl,rfl⟩
  | some a=>simp [isNil] at hn
 have J:∀ q,b=.map q->isNil y=true->q=none:=by
  intro q V hn;cases y <;> simp only [isNil,Bool.false_eq_true] at hn;rename_i c;simp only [Sx.ev,Option.some.injEq] at O;subst O; subst V;cases q with
  | none=>rfl
  | some a=>simp [isNil] at hn
 unfold DH at j;cases F:rP P t x y with
 | false=>simp only [F] at j; exact Sb j
 | true =>
 simp only [F] at j;unfold tk at j;split at j
 ·rename_i k m k' n;rw [gf rfl];cases hs:mX op with
  | true=>simp only [hs] at j; exact Lg hs t j
  | false =>
   simp only [hs] at j
   by_cases hk:k=k'
   ·subst hk;simp only [decide_true] at j;exact P3 hs t j
   ·simp only [hk,decide_false] at j;exact j.elim
 ·rw [gf rfl]; exact R8 t j
 ·rename_i m n;rw [gf rfl];cases u:P.underlying t with
  | none=>simp only [u] at j; exact j.elim
  | some d =>
   cases d <;> simp only [u] at j <;> first
    | exact j.elim
    | exact u7 (fun R=>Hq u m n R) rfl rfl j
 ·rename_i p q;cases u:P.underlying t with
  | none=>simp only [u] at j; exact j.elim
  | some d =>
   cases d <;> simp only [u] at j <;> first
    | exact j.elim
    | skip
   have hn:isNil y=true:=by simpa [rP,u] using F
   obtain rfl:=U q rfl hn;rw [gf rfl]; exact u7 (fun R=>BG u p R) rfl rfl j
 ·rename_i p l c q l' c';cases u:P.underlying t with
  | none=>simp only [u] at j; exact j.elim
  | some d =>
   cases d <;> simp only [u] at j <;> first
    | exact j.elim
    | skip
   have hn:isNil y=true:=by simpa [rP,u] using F
   obtain ⟨rfl,rfl,rfl⟩:=G q _ _ rfl hn;rw [gf rfl]; exact u7 (fun R=>yH u p l c R) rfl rfl j
 ·rename_i p q;cases u:P.underlying t with
  | none=>simp only [u] at j; exact j.elim
  | some d =>
   cases d <;> simp only [u] at j <;> first
    | exact j.elim
    | skip
   have hn:isNil y=true:=by simpa [rP,u] using F
   obtain rfl:=J q rfl hn;rw [gf rfl]; exact u7 (fun R=>Bw u p R) rfl rfl j
 ·exact j.elim
def TQ {op:UnOp} {a:Xab} {kk:Xab->T} (d:U9 op a kk L K h):aU P (Op.unary op a) h (fun v h'=>kk v L K h'):=by
 unfold U9 at d;split at d
 ·exact d
 ·exact d
 ·exact d
 ·exact d.elim
def N8 {s d:TypeId} {a:Xab} {kk:Xab->T} (j:xO P s d a kk L K h):aU P (convert s d a) h (fun v h'=>kk v L K h'):=by
 unfold xO at j;generalize hs:P.underlying s=us at j;generalize u:P.underlying d=F at j;split at j
 ·unfold convert;rw [ao,aF hs,ao,aF u];exact j
 ·unfold convert;rw [ao,aF hs,ao,aF u];exact j
 ·exact j.elim
 ·exact mG j
 ·exact Qm j
 ·exact j.elim
def eE (y:Nat) (d:BoundsCode) {v:Xab} {k:IntKind} {i:Int} (hv:v=.int k i) (h0:0<=i) (h1:i<=y) (R:Nat->Hp->Prop) :
  aU P (Instr.sliceBound v y d) h R=R i.toNat h:=by
 subst hv;unfold Instr.sliceBound;rw [ao];show aU P (if 0<=i/\i<=↑y then pure i.toNat else boundsPanic k i ↑y d) h R=_;rw [YC ⟨h0,h1⟩]; rfl
def qZ {v:Xab} (hv:eC (some v)=true):∃ k i,v=.int k i:=by
 cases v <;> simp only [eC,Bool.false_eq_true] at hv;exact ⟨_,_,rfl⟩
def nZ (isSlice:Bool) (len cap:Nat) {d hi:Option Xab} (U:eC d=true) (V:eC hi=true)
  (h0:0<=kz d) (h1:kz d<=kS len hi) (h2:kS len hi<=cap) (R:Nat × Nat × Nat->Hp->Prop) :
  aU P (Instr.sliceBounds isSlice len cap d hi none) h R=R ((kz d).toNat,(kS len hi).toNat,cap) h:=by
 unfold Instr.sliceBounds;cases hi with
 | none =>
  cases d with
  | none=>rfl
  | some v =>
   obtain ⟨k,i,rfl⟩:=qZ U;have j:0<=i:=h0;have F:i<=len:=h1;show aU P (Instr.sliceBound (.int k i) len _ >>= fun l=>pure (l,len,cap)) h R=_;rw [ao,eE len _ rfl j F]; rfl
 | some u =>
  obtain ⟨ku,iu,rfl⟩:=qZ V;have G:(0:Int)<=iu:=Int.le_trans h0 h1;cases d with
  | none =>
   show aU P (Instr.sliceBound (.int ku iu) cap _ >>= fun O=>pure (0,O,cap)) h R=_;have J:iu<=cap:=h2;rw [ao,eE cap _ rfl G J]; rfl
  | some v =>
   obtain ⟨k,i,rfl⟩:=qZ U;show aU P (Instr.sliceBound (.int ku iu) cap _ >>= fun O=>Instr.sliceBound (.int k i) O _ >>= fun l=>pure (l,O,cap)) h R=_;have j:0<=i:=h0;have F:i<=iu:=h1;have J:iu<=cap:=h2;rw [ao,eE cap _ rfl G J,ao,eE _ _ rfl j (by rw [Int.toNat_of_nonneg G]; exact F)]; rfl
def JG {t:TypeId} {a:Xab} {u hi G:Option Xab} {kk:Xab->T} (j:iQ P t a u hi G kk L K h) :
  aU P (Instr.sliceAt t a u hi G) h (fun v h'=>kk v L K h'):=by
 unfold iQ at j;cases hint:eC u && eC hi && eC G with
 | false=>simp only [hint] at j; exact j.elim
 | true =>
  simp only [hint] at j;simp only [Bool.and_eq_true] at hint;obtain ⟨⟨U,V⟩,Y⟩:=hint;cases F:P.underlying t with
  | none=>simp only [F] at j; exact mG j
  | some d =>
   cases d <;> simp only [F] at j <;> first | exact mG j | skip
   case string =>
    cases G with
    | some m=>cases a <;> exact j.elim
    | none =>
    cases a <;> first | exact j.elim | skip
    rename_i s;obtain ⟨⟨h0,h1,h2⟩,j⟩:=j;unfold Instr.sliceAt;rw [ao,aF F];show aU P (Instr.slice t (.string s) u hi none) h _;unfold Instr.slice;rw [ao,aF F];show aU P (Instr.sliceBounds false s.size s.size u hi none >>= fun x=>(pure (Value.string (s.extract x.1 x.2.1)):Sem Xab)) h _;rw [ao,nZ false _ _ U V h0 h1 h2];exact j
   case slice X =>
    cases G with
    | some m=>exact mG j
    | none =>
    cases a <;> first | exact j.elim | skip
    rename_i p len cap;simp only at j;cases J:nN P X with
    | false=>simp only [J] at j; exact j.elim
    | true =>
     simp only [J] at j;obtain ⟨⟨h0,h1,h2⟩,j⟩:=j;obtain ⟨i,O⟩:=Zu.1 J;unfold Instr.sliceAt;rw [ao,aF F];show aU P (Instr.slice t (.slice p len cap) u hi none) h _;unfold Instr.slice;rw [ao,aF F];show aU P (Instr.sliceBounds true len cap u hi none >>= fun x=>sizeOf X >>= fun size=>(pure (Value.slice (if x.2.2=x.1 then p else p.map (·.add (x.1*size))) (x.2.1-x.1) (x.2.2-x.1)):Sem Xab)) h _;rw [ao,nZ true _ _ U V h0 h1 h2,ao,bT O];exact j
def LY {t:TypeId} {cs:Array Xab} {off:Nat} {kk:Xab->T} (j:tv P t cs.toList off kk L K h) :
  aU P (part t cs off) h (fun v h'=>kk v L K h'):=by
 have hx:∀ n,((cs.toList.drop off).take n).toArray=cs.extract off (off+n):=by
  intro n;apply Zg.1;simp [Array.toList_extract,List.extract_eq_drop_take]
 unfold tv at j;generalize u:P.underlying t=J at j;split at j
 ·obtain ⟨i,hi⟩:=info_of_underlying u;unfold part;rw [ao,jI (b:=true) (by simp [cH,u])];show aU P (sizeOf t >>= fun n=>(pure (Value.agg (cs.extract off (off+n))):Sem Xab)) h _;rw [ao,bT hi,<- hx];exact j
 ·obtain ⟨i,hi⟩:=info_of_underlying u;unfold part;rw [ao,jI (b:=true) (by simp [cH,u])];show aU P (sizeOf t >>= fun n=>(pure (Value.agg (cs.extract off (off+n))):Sem Xab)) h _;rw [ao,bT hi,<- hx];exact j
 ·rename_i d F G;unfold part;rw [ao,jI (b:=false) (by simp only [cH,u])];show aU P (match cs[off]? with | some v => pure v | none => stuck "part: no such cell") h _
  rw [<- ZO];cases hv:cs.toList[off]? with
  | none=>simp only [hv] at j; exact j.elim
  | some v=>simp only [hv] at j; exact j
 ·exact j.elim
def wo {f:FuncId} (d:fK P f=true) (args:Array Xab) (R:Next->Hp->Prop):aU P (callFunc f args) h R=R (.enter f args) h:=by
 unfold fK at d;unfold callFunc;rw [fp];cases j:P.funcs[f]? with
 | none=>rw [j] at d; simp at d
 | some fn =>
  rw [j] at d;simp only [Bool.and_eq_true,Bool.not_eq_true'] at d;obtain ⟨h1,h2⟩:=d;have h3:fn.body.isNone=false:=by cases u:fn.body <;> simp_all
  simp only [h2,h3]; rfl
def NG {f:FuncId} {args:List Xab} {t:TypeId} {kk:Xab->T} (d:CM P f args t kk L K h) :
  aU P (callFunc f args.toArray) h (CH P fun v h'=>kk v L K h'):=by
 unfold CM at d;cases j:fK P f with
 | false =>
  simp only [j] at d
  have:=nO d
  unfold HU at this;rw [ao] at this;refine dA _ _ _ _ ?_ this;intro x h' hx;cases x <;> first | exact hx | exact hx.elim
 | true =>
  simp only [j] at d;rw [wo j];refine HC.mono d ?_;rintro v h' ⟨x,rfl,hx⟩;rw [dI] at hx;exact hx
def Qp {c:Call} {t:TypeId} {args:List Xab} {kk:Xab->T} (j:zy P c t args kk L K h) :
  aU P (Builtin.len_ c.argTypes t args.toArray) h (fun v h'=>kk v L K h'):=by
 unfold zy at j;cases G:(c.argTypes[0]?).bind P.underlying with
 | none=>simp only [G] at j; exact Dn j
 | some d =>
  obtain ⟨t0,u,F⟩:=Yt.1 G;cases d <;> simp only [G] at j <;> first | exact Dn j | skip
  case string =>
   split at j
   ·unfold Builtin.len_;simp only [u];show aU P (underlying t0 >>= _) h _;rw [ao,aF F];exact j
   ·exact j.elim
  case slice J =>
   split at j
   ·unfold Builtin.len_;simp only [u];show aU P (underlying t0 >>= _) h _;rw [ao,aF F];exact j
   ·exact j.elim
def Qh {c:Call} {t:TypeId} {args:List Xab} {kk:Xab->T} (j:J9 P c args kk L K h) :
  aU P (Builtin.cap_ c.argTypes t args.toArray) h (fun v h'=>kk v L K h'):=by
 unfold J9 at j;cases u:(c.argTypes[0]?).bind P.underlying with
 | none=>simp only [u] at j; exact j.elim
 | some d =>
  obtain ⟨t0,F,G⟩:=Yt.1 u;cases d <;> simp only [u] at j <;> first | exact j.elim | skip
  split at j
  ·unfold Builtin.cap_;simp only [F];show aU P (underlying t0 >>= _) h _;rw [ao,aF G];exact j
  ·exact j.elim
inductive lp:List (Nat × Xab)->List (Nat × List Xab)->Prop
 | nil:lp [] []
 | cons {i:Nat} {v:Xab} {l:List Xab} {ps:List (Nat × Xab)} {r:List (Nat × List Xab)} (h:v.cells.toList=l) (t:lp ps r):lp ((i,v)::ps) ((i,l)::r)
def KB {v:Xab} (h:eS v=true):v.cells.toList=jN v:=by
 cases v <;> first | rfl | (simp [eS] at h)
def yh {v:Xab} (h:eS v=false):v.cells.toList=[v]:=by
 cases v <;> first | rfl | (simp [eS] at h)
theorem sC {agg:Nat->Option Bool}:∀ {ps:List (Nat × Xab)} {k:List (Nat × List Xab)->T},fh agg ps k L K h->∃ r,lp ps r/\k r L K h
 | [],k,d=>⟨[],.nil,d⟩
 | (i,v)::l,k,d=>by
  simp only [fh] at d;cases u:agg i with
  | none=>rw [u] at d; exact d.elim
  | some b =>
   rw [u] at d;cases b with
   | true =>
    rcases fL d with ⟨hv,d⟩ | ⟨_,d⟩
    ·obtain ⟨r,j,hk⟩:=sC d;exact ⟨_,.cons (KB hv) j,hk⟩
    ·exact d.elim
   | false =>
    rcases fL d with ⟨_,d⟩ | ⟨hv,d⟩
    ·exact d.elim
    ·obtain ⟨r,j,hk⟩:=sC d;exact ⟨_,.cons (yh hv) j,hk⟩
theorem zx:∀ (l:List Xab) (off k:Nat) (cs:Array Xab),((l.zipIdx k).foldl (fun (cs:Array Xab) (x:Xab × Nat)=>cs.setIfInBounds (off+x.2) x.1) cs)=(sZ cs.toList (off+k) l).toArray
 | [],off,k,cs=>by simp [sZ]
 | v::l,off,k,cs=>by
  rw [List.zipIdx_cons,Y6,zx l off (k+1)];simp only [sZ,Array.toList_setIfInBounds] <;> rfl
def Dp {place:Nat->Option (Nat × Nat)} {ps:List (Nat × Xab)} {r:List (Nat × List Xab)} (hc:lp ps r):∀ {c cs:List Xab},fx place c r=some cs->Instr.fill place c.toArray ps=some cs.toArray:=by
 induction hc with
 | nil=>intro c cs h; simp [fx] at h; subst h; rfl
 | @cons i v l ps r hv _ u =>
  intro c cs h;unfold fx at h;unfold Instr.fill;split at h
  ·cases h
  ·rename_i off size F;rw [F];simp only;have hs:v.cells.size=l.length:=by rw [<- hv,ZE]
   cases d:!(Nat.beq l.length size) || Nat.blt c.length (off+l.length) with
   | true=>rw [d] at h; cases h
   | false =>
    rw [d] at h;simp only [Bool.or_eq_false_iff,Bool.not_eq_false'] at d;have h1:l.length=size:=YL d.1;have h2:¬ c.length<off+l.length:=fun j=>by
     have:=Nat.ble_eq_true_of_le j
     rw [show Nat.blt c.length (off+l.length)=Nat.ble (c.length+1) (off+l.length) from rfl,this] at d;exact absurd d.2 aj
    rw [Yx (by simp [hs,h1]; omega)];have e:v.cells.zipIdx.foldl (fun cs (x:Xab × Nat)=>cs.setIfInBounds (off+x.2) x.1) c.toArray=(sZ c off l).toArray:=by
     rw [<- Array.foldl_toList,Array.toList_zipIdx,hv];exact zx l off 0 c.toArray
    have:=u h
    rw [<- e] at this;exact this
def F1 {b:Builtin} {c:Call} {t:TypeId} {args:List Xab} {j:Array Bool} {kk:Xab->T} (d:rI P b c t args kk L K h) :
  aU P (builtin b c.argTypes t j args.toArray) h (CH P fun v h'=>kk v L K h'):=by
 unfold rI at d;split at d
 ·show aU P (do pure (Next.value (<- Builtin.len_ c.argTypes t args.toArray))) h _;rw [th]; exact Qp d
 ·show aU P (do pure (Next.value (<- Builtin.cap_ c.argTypes t args.toArray))) h _;rw [th]; exact Qh d
 ·show aU P (do pure (Next.value (<- Builtin.append_ c.argTypes t args.toArray))) h _;rw [th]; exact mG d
 ·show aU P (do pure (Next.value (<- Builtin.copy_ c.argTypes t args.toArray))) h _;rw [th]; exact Dn d
 ·show aU P (do pure (Next.value (<- Builtin.min_ c.argTypes t args.toArray))) h _;rw [th]; exact nO d
 ·show aU P (do pure (Next.value (<- Builtin.max_ c.argTypes t args.toArray))) h _;rw [th]; exact nO d
 ·show aU P (do pure (Next.value (<- Builtin.delete_ c.argTypes t args.toArray))) h _;rw [th];exact dA _ _ _ _ (fun v h' ⟨e,hk⟩=>by subst e; exact hk) (PN d)
 ·show aU P (do pure (Next.value (<- Builtin.unsafeString_ c.argTypes t args.toArray))) h _;rw [th]; exact nO d
 ·show aU P (do pure (Next.value (<- Builtin.unsafeSliceData_ c.argTypes t args.toArray))) h _;rw [th]; exact nO d
 ·exact d.elim
def Pd {vs:List Xab} {e:TypeId} {kk:Xab->T} (d:T.new vs e (fun a=>kk (.pointer (some a))) L K h) {cs:Array Xab} (hv:cs=vs.toArray) :
  aU P (do pure (Value.pointer (some (<- newRow e cs)))) h (fun v h'=>kk v L K h'):=by
 subst hv;exact d
def Ca {n:Nat} {t:TypeId} {p:Xac} {kk:Xax->List Xab->Xab->T} {b:Bool} (F:cH P t=some b)
  (j:(match b with
   | true=>(bif (eX P 9 t).length==P.cellsOf t then T.bi p fun a=>T.ah a (eX P 9 t) (jv _ fun l=>kk a l (.agg l.toArray)) else T.fail)
   | false=>T.bi p fun a=>T.ah a (cG P t).2 (jv _ fun l=>kk a l (l.headD undef))) L K h) :
  ∃ a l v,p=some a/\aJ h a 0 l/\kk a l v L K h/\∀ h' (R:Xab->Hp->Prop),aJ h' a 0 l->R v h'->aU P (Instr.loadAt t (.pointer p)) h' R:=by
 obtain ⟨i,hi⟩:=tp F;cases b with
 | true =>
  simp only at j;cases hl:(eX P 9 t).length==P.cellsOf t with
  | false=>rw [hl] at j; exact j.elim
  | true =>
   rw [hl] at j;have O:(eX P 9 t).length=P.cellsOf t:=by simpa using hl
   obtain ⟨a,rfl,j⟩:=gb j;obtain ⟨x,hc,j⟩:=j;rw [dI] at j;refine ⟨a,ec _ x,_,rfl,hc,j,fun h' R u hk=>?_⟩;unfold Instr.loadAt;show aU P (loadVar t a) h' R;unfold loadVar;rw [ao,jI F];show aU P (sizeOf t >>= fun n=>loadCells a n >>= fun cs=>(pure (Value.agg cs):Sem Xab)) h' R;rw [ao,bT hi,ao];exact dt (by rw [uv,O]) u _ hk
 | false =>
  simp only at j;obtain ⟨a,rfl,j⟩:=gb j;obtain ⟨x,hc,j⟩:=j;rw [dI] at j;have h1:∃ d,(cG P t).2=[d]:=by
   unfold cH at F;unfold cG;cases J:P.underlying t with
   | none=>rw [J] at F; simp at F
   | some d=>rw [J] at F; cases d <;> simp at F <;> exact ⟨_,rfl⟩
  obtain ⟨d,J⟩:=h1;refine ⟨a,ec _ x,_,rfl,hc,j,fun h' R u hk=>?_⟩;revert x;rw [J];intro x hc j u hk;unfold Instr.loadAt;show aU P (loadVar t a) h' R;unfold loadVar;rw [ao,jI F];have G:=u.1
  have:a.add 0=a:=by simp [Addr.add]
  rw [this] at G;exact ⟨_,G,hk⟩
def MB {n : Nd} {e : Env} {a : Act} (g : gK n e a) {t : TypeId} {x : Operand} {kk : Xax -> List Xab -> Xab -> T} (d : rz P t x e kk L K h) :
    ∃ p l v, ev e x = some (.pointer (some p)) /\ aJ h p 0 l /\ kk p l v L K h /\ ∀ h' (R : Xab -> Hp -> Prop), aJ h' p 0 l -> R v h' -> aU P (Instr.loadAt t (.pointer (some p))) h' R := by
  unfold rz at d;obtain ⟨v, hv, d⟩ := bH d;cases u : cH P t with
  | none => cases v <;> simp only [u] at d <;> exact d.elim
  | some b =>
    cases v <;> first
      | (cases b <;> simp only [u] at d <;> exact d.elim)
      | (rename_i p
         have F : (match b with
            | true => (bif (eX P 9 t).length == P.cellsOf t then T.bi p fun a => T.ah a (eX P 9 t) (jv _ fun l => kk a l (.agg l.toArray)) else T.fail)
            | false => T.bi p fun a => T.ah a (cG P t).2 (jv _ fun l => kk a l (l.headD undef))) L K h := by
            cases b <;> simp only [u] at d <;> exact d
         obtain ⟨q, l, v, rfl, hc, hk, j⟩ := Ca (n := n) u F;exact ⟨q, l, v, hv, hc, hk, j⟩)
def Hh {n : Nd} {o : Oper} {e : Env} {a : Act} (g : gK n e a) {kk : Xab -> T} (j : uH P o e kk L K h) :
    W3 P o a.eval h (fun v h' => kk v L K h') := by
  obtain ⟨dst, op, type, pos, after, guard⟩ := o;unfold W3;cases op <;> simp only [uH] at j <;> unfold execOp <;> simp only
  case move x => obtain ⟨v, hv, j⟩ := bH j; rw [g.ev hv]; exact j
  case assign x => obtain ⟨v, hv, j⟩ := bH j; rw [g.ev hv]; exact j
  case pick c x y =>
    obtain ⟨v, hv, j⟩ := bH j;rw [g.ev hv]
    cases v <;> simp only at j <;> first
      | exact j.elim
      | (rename_i b
         rw [ao];show aU P (pure b) h _;cases b
         · obtain ⟨w, hw, j⟩ := bH (show bY e y kk L K h from j); rw [g.ev hw]; exact j
         · obtain ⟨w, hw, j⟩ := bH (show bY e x kk L K h from j); rw [g.ev hw]; exact j)
  case alloc t =>
    cases hz : (P.info? t).bind (·.zero) with
    | none => simp only [hz] at j; exact j.elim
    | some z =>
      simp only [hz] at j;rw [th];unfold Instr.alloc;rw [ao, dr hz];exact Pd j aj
  case box t x =>
    obtain ⟨v, hv, j⟩ := bH j;rw [g.ev hv, th];unfold Instr.box newVar;cases U : cH P t with
    | none => simp only [U] at j; exact j.elim
    | some b =>
      cases b <;> simp only [U] at j <;> rcases fL j with ⟨hv, j⟩ | ⟨hv, j⟩ <;> first
        | exact j.elim
        | (refine Pd j ?_
           cases v <;> first | (simp [eS] at hv; done) | simp [Value.cells, jN])
  case build t ps =>
    obtain ⟨vs, ec, j⟩ := iO j;have ec := g.Q0 ec
    have hps : (ps.map fun x => (x.1, a.eval x.2)).toList = (ps.toList.map (·.1)).zip vs := by
      rw [<- ec];simp only [Array.toList_map];generalize ps.toList = l
      induction l with
      | nil => rfl
      | cons p l ih => simp [ih]
    rw [th];unfold Instr.build;rw [ao];cases hz : (P.info? t).bind (·.zero) with
    | none =>
      generalize P.underlying t = ud at j;cases ud with
      | none => simp only [hz] at j; exact j.elim
      | some d => cases d <;> simp only [hz] at j <;> exact j.elim
    | some z =>
      rw [dr hz];show aU P (underlying t >>= _) h _;cases F : P.underlying t with
      | none => simp only [F] at j; exact j.elim
      | some d =>
        rw [ao, aF F];cases d <;> simp only [F, hz] at j <;> first | exact j.elim | skip
        case array len el =>
          rcases fL j with ⟨_, j⟩ | ⟨V, j⟩
          · exact j.elim
          · have V : nN P el = true := by simpa using V
            obtain ⟨i, hi⟩ := Zu.1 V;simp only;rw [ao, bT hi];have O : (Array.map (fun x => (x.1, a.eval x.2)) ps).toList = (ps.toList.map (·.1)).zip vs := hps;obtain ⟨ls, hls, j⟩ := sC j;cases J : fx (fun i => some (i * P.cellsOf el, P.cellsOf el)) z.cells.toList ls with
            | none => simp only [J] at j; exact j.elim
            | some cs =>
              simp only [J] at j;rw [O, Dp hls J];exact j
        case struct fs =>
          rcases fL j with ⟨_, j⟩ | ⟨V, j⟩
          · exact j.elim
          · have V : (fs.all fun f => nN P f.type) = true := by simpa using V
            simp only;rw [ao]
            have hm : ∀ R : Array (Nat × Nat) -> Hp -> Prop, aU P (fs.mapM fun f => do pure (f.offset, <- sizeOf f.type)) h R = R (fs.map fun f => (f.offset, P.cellsOf f.type)) h := by
              intro R;rw [Array.mapM_eq_mapM_toList]
              have hT' : ∀ f ∈ fs.toList, nN P f.type = true := by
                intro f J; exact (Array.all_eq_true_iff_forall_mem.1 V) f (by simpa using J)
              have : ∀ (l : List Field) (R : List (Nat × Nat) -> Hp -> Prop), (∀ f ∈ l, nN P f.type = true) ->
                  aU P (l.mapM fun f => (do pure (f.offset, <- sizeOf f.type) : Sem (Nat × Nat))) h R = R (l.map fun f => (f.offset, P.cellsOf f.type)) h := by
                intro l
                induction l with
                | nil => intro R _; rfl
                | cons f l ih =>
                  intro R hl;obtain ⟨i, hi⟩ := Zu.1 (hl f aj);rw [List.mapM_cons, ao, ao, bT hi];show aU P ((l.mapM fun f => (do pure (f.offset, <- sizeOf f.type) : Sem (Nat × Nat))) >>= _) h R = _;rw [ao, ih _ (fun f J => hl f (by simp [J]))] <;> rfl
              show aU P (List.toArray <$> _) h R = _;rw [map_eq_pure_bind, ao, this _ _ hT'];show R (List.toArray _) h = _
              congr 1
              apply Zg.1
              simp
            rw [hm];obtain ⟨ls, hls, j⟩ := sC j;cases J : fx (fun i => (fs.map fun f => (f.offset, P.cellsOf f.type))[i]?) z.cells.toList ls with
            | none => simp only [J] at j; exact j.elim
            | some cs =>
              simp only [J] at j;have O : (Array.map (fun x => (x.1, a.eval x.2)) ps).toList = (ps.toList.map (·.1)).zip vs := hps;rw [O, Dp hls J];exact j
  case buildSlice t len ps =>
    obtain ⟨vs, ec, j⟩ := iO j;have ec := g.Q0 ec
    have hps : (ps.map fun x => (x.1, a.eval x.2)) = ((ps.toList.map (·.1)).zip vs).toArray := by
      apply Zg.1;rw [<- ec];simp only [Array.toList_map];generalize ps.toList = l
      induction l with
      | nil => rfl
      | cons p l ih => simpa using ih
    rw [th];have O : (Array.map (fun x => (x.1, a.eval x.2)) ps) = ((ps.toList.map (·.1)).zip vs).toArray := hps;rw [O];exact mG j
  case load t x =>
    have ht' : rz P t x e (fun _ _ v => kk v) L K h := j;obtain ⟨p, l, v, hv, hc, hk, hall⟩ := MB g ht';rw [g.ev hv, th];exact hall h _ hc hk
  case store t x y =>
    obtain ⟨v, hv, j⟩ := bH j;obtain ⟨u, hu, j⟩ := bH j;rw [g.ev hv, g.ev hu, W6];cases U : cH P t with
    | none => cases v <;> simp only [U] at j <;> exact j.elim
    | some b =>
      obtain ⟨i, hi⟩ := tp U
      cases v <;> first
        | (cases b <;> simp only [U] at j <;> exact j.elim)
        | skip
      rename_i p;cases b <;> simp only [U] at j
      · rcases fL j with ⟨hl, j⟩ | ⟨hl, j⟩
        · rcases fL j with ⟨Y, j⟩ | ⟨Y, j⟩
          · exact j.elim
          · obtain ⟨q, rfl, j⟩ := gb j
            obtain ⟨hc, j⟩ := j;unfold Instr.storeAt storeVar;show aU P (sizeOf t >>= _) h _;rw [ao, bT hi];have hcl : u.cells = #[u] := by cases u <;> first | (simp [eS] at Y; done) | rfl
            have h1 : P.cellsOf t = 1 := by simpa using hl
            rw [hcl, h1];exact dN q [u] h 0 _ hc j
        · exact j.elim
      · rcases fL j with ⟨Y, j⟩ | ⟨Y, j⟩
        · rcases fL j with ⟨hl, j⟩ | ⟨hl, j⟩
          · obtain ⟨q, rfl, j⟩ := gb j
            obtain ⟨hc, j⟩ := j;unfold Instr.storeAt storeVar;show aU P (sizeOf t >>= _) h _;rw [ao, bT hi];obtain ⟨cs, rfl⟩ : ∃ cs, u = .agg cs := by cases u <;> first | (simp [eS] at Y; done) | exact ⟨_, rfl⟩
            have h1 : cs.size = P.cellsOf t := by simpa [jN] using hl
            show aU P (if cs.size ≠ P.cellsOf t then _ else storeCells q cs.toList 0) h _;rw [Yx (by simp [h1])];exact dN q cs.toList h 0 _ hc j
          · exact j.elim
        · exact j.elim
  case nilCheck x =>
    obtain ⟨v, hv, j⟩ := bH j;rw [g.ev hv];cases v with
    | pointer p => obtain ⟨q, rfl, j⟩ := gb j; exact j
    | func fn X ca => cases fn <;> first | exact j.elim | exact j
    | iface t w => exact j
    | _ => exact j.elim
  case binOp op t x y yt =>
    obtain ⟨v, hv, j⟩ := bH j;obtain ⟨u, hu, j⟩ := bH j;rw [g.ev hv, g.ev hu, th];exact Rg hu j
  case unOp op t x => obtain ⟨v, hv, j⟩ := bH j; rw [g.ev hv, th]; exact TQ j
  case convert s d x => obtain ⟨v, hv, j⟩ := bH j; rw [g.ev hv, th]; exact N8 j
  case makeInterface t x =>
    obtain ⟨v, hv, j⟩ := bH j;rw [g.ev hv, th];unfold Instr.makeInterface;cases F : P.underlying t with
    | none => simp only [F] at j; exact j.elim
    | some d =>
      rw [ao, aF F];cases d <;> simp only [F] at j <;> first | exact j.elim | exact j
  case makeFunc fn X ca =>
    obtain ⟨vs, ec, j⟩ := iO j;obtain ⟨us, hus, j⟩ := iO j;rw [th];have e1 : X.map a.eval = vs.toArray := by apply Zg.1; simpa using g.Q0 ec
    have e2 : ca.map a.eval = us.toArray := by apply Zg.1; simpa using g.Q0 hus
    rw [e1, e2];exact j
  case makeMap t r =>
    cases r with
    | none => rw [th]; exact Rp j
    | some r => exact j.elim
  case makeSlice t l c =>
    obtain ⟨v, hv, j⟩ := bH j;obtain ⟨u, hu, j⟩ := bH j;rw [g.ev hv, g.ev hu, th];exact mG j
  case slice t x lo hi mx =>
    obtain ⟨v, hv, j⟩ := bH j;obtain ⟨vs, ec, j⟩ := iO j;have ec := g.Q0 ec;rw [g.ev hv, th];unfold Vd at j
    cases lo <;> cases hi <;> cases mx <;> simp only [Option.toList, List.nil_append, List.append_nil, List.map_cons, List.map_nil, List.cons_append] at ec <;> subst ec <;>
      first | exact j.elim | exact JG j
  case fieldAddr s x f =>
    obtain ⟨v, hv, j⟩ := bH j;rw [g.ev hv, th];cases F : P.underlying s with
    | none => cases v <;> simp only [F] at j <;> exact j.elim
    | some d =>
      cases v <;> first
        | (cases d <;> simp only [F] at j <;> exact j.elim)
        | skip
      rename_i p;cases d <;> simp only [F] at j <;> first | exact j.elim | skip
      rename_i fs;cases J : fs[f]? with
      | none => simp only [J] at j; exact j.elim
      | some fd =>
        simp only [J] at j;cases hc : P.cellsOf fd.type with
        | zero => simp only [hc] at j; exact j.elim
        | succ m =>
          simp only [hc] at j;obtain ⟨q, rfl, j⟩ := gb j
          have hi : ∃ i, P.info? fd.type = some i := by
            cases hi : P.info? fd.type with
            | none => simp [Program.cellsOf, hi] at hc
            | some i => exact ⟨i, rfl⟩
          obtain ⟨i, hi⟩ := hi;unfold Instr.fieldAt;rw [ao, aF F];simp only [J];show aU P (fieldPlace q fd >>= fun y => (pure (Value.pointer (some y)) : Sem Xab)) h _;unfold fieldPlace;rw [ao, ao, bT hi, hc];exact j
  case field s x f =>
    obtain ⟨v, hv, j⟩ := bH j;rw [g.ev hv, th];cases F : P.underlying s with
    | none => cases v <;> simp only [F] at j <;> exact j.elim
    | some d =>
      cases v <;> first
        | (cases d <;> simp only [F] at j <;> exact j.elim)
        | skip
      rename_i cs;cases d <;> simp only [F] at j <;> first | exact j.elim | skip
      rename_i fs;cases J : fs[f]? with
      | none => simp only [J] at j; exact j.elim
      | some fd =>
        simp only [J] at j;unfold Instr.field;rw [ao, aF F];simp only [J];show aU P (part fd.type cs fd.offset) h _;exact LY j
  case indexAddr t x i =>
    obtain ⟨v, hv, Z⟩ := bH j;obtain ⟨u, hu, G⟩ := bH Z;clear j Z;rw [g.ev hv, g.ev hu, th];clear hv hu;unfold yk at G;generalize F : P.underlying t = ud at G;split at G
    · rename_i p len cp k m el
      rcases fL G with ⟨_, j⟩ | ⟨V, j⟩
      · exact j.elim
      · have V : nN P el = true := by simpa using V
        obtain ⟨i, hi⟩ := Zu.1 V;obtain ⟨U, j⟩ := j;obtain ⟨q, rfl, j⟩ := gb j;unfold Instr.indexAt;show aU P (underlying t >>= _) h _;rw [ao, aF F];show aU P (underlying t >>= _) h _;rw [ao, aF F];show aU P (if 0 <= m /\ m < len then (sizeOf el >>= fun z => (pure (Value.pointer (some (q.add (m.toNat * z)))) : Sem Xab)) else _) h _;rw [YC U, ao, bT hi];exact j
    · rename_i p k m len el
      rcases fL G with ⟨_, j⟩ | ⟨V, j⟩
      · exact j.elim
      · have V : nN P el = true := by simpa using V
        obtain ⟨i, hi⟩ := Zu.1 V;obtain ⟨U, j⟩ := j;obtain ⟨q, rfl, j⟩ := gb j;unfold Instr.indexAt;show aU P (underlying t >>= _) h _;rw [ao, aF F];show aU P (underlying t >>= _) h _;rw [ao, aF F];show aU P (if 0 <= m /\ m < len then (sizeOf el >>= fun z => (pure (Value.pointer (some (q.add (m.toNat * z)))) : Sem Xab)) else _) h _;rw [YC U, ao, bT hi];exact j
    · exact G.elim
  case index t x i =>
    obtain ⟨v, hv, Z⟩ := bH j;obtain ⟨u, hu, G⟩ := bH Z;clear j Z;rw [g.ev hv, g.ev hu, th];clear hv hu;unfold GX at G;generalize F : P.underlying t = ud at G;split at G
    · rename_i s k m
      obtain ⟨U, j⟩ := G;unfold Instr.index;show aU P (underlying t >>= _) h _;rw [ao, aF F]
      have hs : s[m.toNat]? = some (s.data.toList.getD m.toNat 0) := by
        have hlt : m.toNat < s.size :=ad
        have : s[m.toNat]? = some s[m.toNat] := by simp [hlt]
        rw [this]
        congr 1
        have h2 : m.toNat < s.data.toList.length := by simpa using hlt
        rw [Zh, Yv h2] <;> rfl
      show aU P (match (if 0 <= m then s[m.toNat]? else none) with | some b => (pure (Value.int .u8 b.toNat) : Sem Xab) | none => boundsPanic k m s.size .index) h _;rw [YC U.1, hs];exact j
    · exact nO G
    · exact G.elim
  case lookup t m x ok =>
    obtain ⟨v, hv, j⟩ := bH j;obtain ⟨u, hu, j⟩ := bH j;rw [g.ev hv, g.ev hu, th];generalize F : P.underlying t = ud at j;split at j
    · cases ok <;> simp only at j <;> exact nO j
    · exact j.elim
  case mapUpdate t m x y =>
    obtain ⟨v, hv, j⟩ := bH j;obtain ⟨u, hu, j⟩ := bH j;obtain ⟨w, hw, j⟩ := bH j;rw [g.ev hv, g.ev hu, g.ev hw, W6];exact j
  case insert t m x y =>
    obtain ⟨v, hv, j⟩ := bH j;obtain ⟨u, hu, j⟩ := bH j;obtain ⟨w, hw, j⟩ := bH j;rw [g.ev hv, g.ev hu, g.ev hw, W6];exact j
  case mapEntry t m x =>
    obtain ⟨v, hv, j⟩ := bH j;obtain ⟨u, hu, j⟩ := bH j;rw [g.ev hv, g.ev hu, th];generalize F : P.underlying t = ud at j;split at j
    · exact nO j
    · exact j.elim
  case entryStore t m x y =>
    obtain ⟨v, hv, j⟩ := bH j;obtain ⟨u, hu, j⟩ := bH j;obtain ⟨w, hw, j⟩ := bH j;rw [g.ev hv, g.ev hu, g.ev hw, W6];exact j
  case range t x =>
    obtain ⟨v, hv, j⟩ := bH j;rw [g.ev hv, th];exact Rc j
  case next it b =>
    obtain ⟨v, hv, j⟩ := bH j;rw [g.ev hv, th];generalize F : P.underlying type = ud at j;split at j
    · rename_i ts
      generalize hts : ts.toList = tl at j;cases tl with
      | nil =>
        refine dA _ _ _ _ ?_ j;rintro v h' (⟨rfl, hx⟩ | ⟨x, rfl, hx⟩)
        · exact hx
        · rw [dI] at hx; exact hx
      | cons t0 ts =>
        refine dA _ _ _ _ ?_ j;rintro v h' (⟨rfl, hx⟩ | ⟨x, rfl, hx⟩)
        · exact hx
        · rw [dI] at hx; exact hx
    · exact j.elim
  case entry it =>
    obtain ⟨v, hv, j⟩ := bH j;rw [g.ev hv, th];exact nO j
  case typeAssert x t d ok =>
    obtain ⟨v, hv, j⟩ := bH j;rw [g.ev hv, th];cases ok <;> simp only at j <;> exact nO j
  case extract x i =>
    obtain ⟨v, hv, j⟩ := bH j;rw [g.ev hv, th];cases v with
    | tuple vs =>
      unfold Instr.extract;show aU P (match vs[i]? with | some v => pure v | none => stuck "Extract: no such component") h _
      rw [<- ZO];cases hi : vs.toList[i]? with
      | none => simp only [hi] at j; exact j.elim
      | some w => simp only [hi] at j; exact j
    | _ => exact j.elim
  case call c =>
    rw [ao];unfold resolve;cases hc : c.callee with
    | builtin b =>
      simp only [hc] at j;obtain ⟨vs, ec, j⟩ := iO j;have e1 : c.args.map a.eval = vs.toArray := by apply Zg.1; simpa using g.Q0 ec
      simp only [e1];exact F1 j
    | invoke r m => simp only [hc] at j; exact j.elim
    | value f =>
      simp only [hc] at j;cases htm : Fg f with
      | true =>
        simp only [htm] at j;obtain ⟨gv, hg, j⟩ := bH j;obtain ⟨vs, ec, j⟩ := iO j;have e1 : c.args.map a.eval = vs.toArray := by apply Zg.1; simpa using g.Q0 ec
        simp only [e1, g.ev hg];obtain ⟨f', X, ca, rfl, j, fn, hfn, U, hn⟩ := j
        have hbd : fK P f' = true := by
          unfold fK;rw [hfn];simp [U, hn]
        show aU P (callFunc f' (X ++ vs.toArray ++ ca)) h _
        have e2 : (X.toList ++ vs ++ ca.toList).toArray = X ++ vs.toArray ++ ca := by
          apply Zg.1; simp
        rw [<- e2, wo hbd];refine HC.mono j ?_;rintro v h' ⟨x, rfl, hx⟩;rw [dI] at hx;exact hx
      | false =>
        simp only [htm] at j;obtain ⟨gv, hg, j⟩ := bH j;obtain ⟨vs, ec, j⟩ := iO j;have e1 : c.args.map a.eval = vs.toArray := by apply Zg.1; simpa using g.Q0 ec
        simp only [e1, g.ev hg]
        obtain ⟨f, X, ca, rfl⟩ : ∃ f X ca, gv = .func (.func f) X ca := by
          cases gv with
          | func fn X ca => cases fn <;> first | exact j.elim | exact ⟨_, _, _, rfl⟩
          | _ => exact j.elim
        have := NG (show CM P f (X.toList ++ vs ++ ca.toList) type kk L K h from j);show aU P (callFunc f (X ++ vs.toArray ++ ca)) h _
        have e2 : (X.toList ++ vs ++ ca.toList).toArray = X ++ vs.toArray ++ ca := by
          apply Zg.1; simp
        rw [<- e2];exact this
  all_goals exact j.elim
end ops
end Go.Sx
