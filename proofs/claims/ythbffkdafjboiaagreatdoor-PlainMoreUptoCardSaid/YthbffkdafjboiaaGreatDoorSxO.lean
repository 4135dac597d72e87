/- Part of the framework. No condition. -/
import Derived.Test.YthbffkdafjboiaaGreatDoorSxX
set_option linter.all false
set_option maxHeartbeats 4000000
namespace Go.Sx
section sems
variable {P:Program} {h:Hp}
def ft {α:Type} (f:Program->Sem α) (K:α->Hp->Prop):aS P (program >>= f) h K=aS P (f P) h K:=by
 rw [ao]; rfl
def aF {t:TypeId} {d:TypeDesc} (j:P.underlying t=some d) (K:TypeDesc->Hp->Prop):aS P (underlying t) h K=K d h:=by
 unfold underlying; rw [ft,j]; rfl
def info_of_underlying {t:TypeId} {d:TypeDesc} (j:P.underlying t=some d):∃ i,P.info? t=some i:=by
 unfold Program.underlying at j;cases hi:P.info? t with
 | none=>rw [hi] at j; simp at j
 | some i=>exact ⟨i,rfl⟩
def gM {t:TypeId} {i:TypeInfo} (hi:P.info? t=some i) (K:TypeInfo->Hp->Prop):aS P (typeInfo t) h K=K i h:=by
 unfold typeInfo; rw [ft,hi]; rfl
def cI {t:TypeId} {i:TypeInfo} (hi:P.info? t=some i):P.cellsOf t=i.size:=by
 simp [Program.cellsOf,hi]
def cd {t:TypeId} {i:TypeInfo} (hi:P.info? t=some i) (K:Nat->Hp->Prop):aS P (sizeOf t) h K=K (P.cellsOf t) h:=by
 unfold sizeOf; rw [ao,gM hi,cI hi]; rfl
def dt {t:TypeId} {z:Xab} (j:(P.info? t).bind (·.zero)=some z) (K:Xab->Hp->Prop):aS P (zeroValue t) h K=K z h:=by
 cases hi:P.info? t with
 | none=>rw [hi] at j; simp at j
 | some i =>
  rw [hi] at j; simp at j;unfold zeroValue; rw [ao,gM hi,j]; rfl
def jF {t:TypeId} {b:Bool} (hb:cF P t=some b) (K:Bool->Hp->Prop):aS P (isAgg t) h K=K b h:=by
 unfold cF at hb;cases j:P.underlying t with
 | none=>rw [j] at hb; simp at hb
 | some d =>
  rw [j] at hb;unfold isAgg; rw [ao,aF j]
  all_goals (cases d <;> simp at hb <;> subst hb <;> rfl)
def sS {t:TypeId} {b:Bool} (hb:cF P t=some b):∃ i,P.info? t=some i:=by
 unfold cF at hb;cases j:P.underlying t with
 | none=>rw [j] at hb; simp at hb
 | some d=>exact info_of_underlying j
theorem lY (a:Xax):∀ (vs:List Xab) (i:Nat) (j:Array Xab) (K:Array Xab->Hp->Prop),aI h a i vs->K (j++vs.toArray) h ->
  aS P (loadCellsFrom a i vs.length j) h K
 | [],i,j,K,_,hk=>by
  have u:K j h:=by simpa using hk
  exact u
 | v::vs,i,j,K,hc,hk=>by
  simp only [List.length_cons,loadCellsFrom];rw [ao];refine ⟨v,hc.1,lY a vs (i+1) (j.push v) K hc.2 ?_⟩;have e:j.push v++vs.toArray=j++(v::vs).toArray:=by
   apply ZK.1; simp
  rw [e]; exact hk
def dJ {a:Xax} {n:Nat} {vs:List Xab} (hn:vs.length=n) (hc:aI h a 0 vs) (K:Array Xab->Hp->Prop) (hk:K vs.toArray h):aS P (loadCells a n) h K:=by
 subst hn;exact lY a vs 0 #[] K hc (by simpa using hk)
theorem fB (a:Xax):∀ (vs:List Xab) (h:Hp) (i:Nat) (K:Unit->Hp->Prop),yb h a i vs->K () (rN h a i vs)->aS P (storeCells a vs i) h K
 | [],h,i,K,_,hk=>hk
 | v::vs,h,i,K,hc,hk=>by
  simp only [storeCells];rw [ao];exact ⟨hc.1,hc.2.1,hc.2.2.1,fB a vs _ (i+1) K hc.2.2.2 hk⟩
end sems
structure Nd where
 n:Nat
 d:List Deferred
instance:Coe Nd Nat:=⟨Nd.n⟩
structure gK (n:Nd) (e:Env) (a:Act):Prop where
 size:a.tmps.size=n.n
 defers:a.defers=n.d
 get:∀ s v,cQ e s=some v->a.tmps.getD s undef=v
def gK.ev {n:Nd} {e:Env} {a:Act} (g:gK n e a) {x:Operand} {v:Xab} (hx:ev e x=some v):a.eval x=v:=by
 cases x with
 | tmp t=>exact g.get t v hx
 | const w=>simpa [Sx.ev,Act.eval] using hx
 | global i=>simpa [Sx.ev,Act.eval] using hx
 | func f=>simpa [Sx.ev,Act.eval] using hx
def dA (e:Env) (s:Nat) (v:Option Xab) (t:Nat):cQ ((s,v)::e) t=if s=t then v else cQ e t:=by
 simp only [cQ]
 by_cases h:s=t
 ·subst h; simp
 ·have:Nat.beq s t=false:=by
   cases hb:Nat.beq s t
   ·rfl
   ·exact (h (Zf hb)).elim
  rw [this,Y2 h]; rfl
def gK.put {n:Nd} {e:Env} {a:Act} (g:gK n e a) (dst:Option Tmp) (v:Xab):gK n (dZ n e dst v) (a.put dst v):=by
 cases dst with
 | none=>exact g
 | some d =>
  refine ⟨by simp [Act.put,g.size],by simp [Act.put,g.defers],fun s u hu=>?_⟩;simp only [dZ] at hu;cases hb:Nat.blt d n with
  | true =>
   have G:d<n:=by simpa [Nat.blt_eq] using hb
   rw [hb] at hu;simp only [cond_true,dA] at hu;simp only [Act.put,Array.getD_eq_getD_getElem?,Array.getElem?_setIfInBounds]
   by_cases hs:d=s
   ·subst hs;rw [Y8 rfl] at hu;simp at hu; subst hu;simp [g.size,G]
   ·rw [Y2 hs] at hu;rw [Y2 hs]
    have:=g.get s u hu
    simpa [Array.getD_eq_getD_getElem?] using this
  | false =>
   rw [hb] at hu;have G:¬ d<n:=by intro J; rw [<- Nat.blt_eq] at J; rw [hb] at J; cases J
   have j:a.put (some d) v=a:=by
    simp only [Act.put]
    have:a.tmps.setIfInBounds d v=a.tmps:=Array.setIfInBounds_eq_of_size_le (by rw [g.size]; exact Nat.le_of_not_lt G)
    rw [this]
   rw [j];exact g.get s u hu
def gK.uT {n:Nd} {e:Env} {a:Act} (g:gK n e a) {s:Nat} {v:Xab} (hv:cQ e s=some v) (w:Xab) (hw:w=v):gK n (dZ n e (some s) w) a:=by
 subst hw;refine ⟨g.size,g.defers,fun t u hu=>?_⟩;simp only [dZ] at hu;cases hb:Nat.blt s n with
 | true =>
  rw [hb] at hu;simp only [cond_true,dA] at hu
  by_cases hs:s=t
  ·subst hs; rw [Y8 rfl] at hu; simp at hu; subst hu; exact g.get s w hv
  ·rw [Y2 hs] at hu; exact g.get t u hu
 | false=>rw [hb] at hu; exact g.get t u hu
section trees
variable {L:Lp} {K:Xab->Hp->Prop} {h:Hp}
def bz {e:Env} {x:Operand} {k:Xab->T} (j:cg e x k L K h):∃ v,ev e x=some v/\k v L K h:=by
 unfold cg at j;cases hx:ev e x with
 | none=>rw [hx] at j; exact j.elim
 | some v=>rw [hx] at j; exact ⟨v,rfl,j⟩
theorem iO {e:Env}:∀ {xs:List Operand} {k:List Xab->T},iv e xs k L K h->∃ vs,xs.map (ev e)=vs.map some/\k vs L K h
 | [],k,j=>⟨[],rfl,j⟩
 | x::xs,k,j=>by
  obtain ⟨v,hv,j⟩:=bz j;obtain ⟨vs,ef,j⟩:=iO j;exact ⟨v::vs,by simp [hv,ef],j⟩
theorem gK.Qq {n:Nd} {e:Env} {a:Act} (g:gK n e a):∀ {xs:List Operand} {vs:List Xab},xs.map (Sx.ev e)=vs.map some->xs.map a.eval=vs
 | [],[],_=>rfl
 | x::xs,v::vs,j=>by
  simp only [List.map_cons,List.cons.injEq] at j;simp only [List.map_cons,g.ev j.1,g.Qq j.2]
 | [],v::vs,j=>by simp at j
 | x::xs,[],j=>by simp at j
def gf {p:Xac} {k:Xax->T} (j:T.bG p k L K h):∃ a,p=some a/\k a L K h:=by
 cases p with
 | none=>exact j.elim
 | some a=>exact ⟨a,rfl,j⟩
def fN {b:Bool} {t u:T} (j:(cond b t u) L K h):(b=true/\t L K h)\/(b=false/\u L K h):=by
 cases b
 ·exact .inr ⟨rfl,j⟩
 ·exact .inl ⟨rfl,j⟩
end trees
section ops
variable {P:Program} {L:Lp} {K:Xab->Hp->Prop} {h:Hp}
def sQ {s:Sem Xab} {R:Xab->Hp->Prop}:aS P (do pure (Next.value (<- s))) h (Cm P R)=aS P s h R:=by
 rw [ao]; rfl
def Xn {s:Sem Unit} {R:Xab->Hp->Prop}:aS P (do s; pure Next.skip) h (Cm P R)=aS P s h (fun _ h'=>R undef h'):=by
 rw [ao]; rfl
def nr {s:Sem Xab} {j:Bool} {cs:List fJ} {kk:Xab->T} (u:T.eh P s j cs (ju _ fun l=>kk (rv j cs l)) L K h) :
  aS P s h (fun v h'=>kk v L K h'):=by
 refine dO _ _ _ _ ?_ u;rintro v h' ⟨x,rfl,hx⟩;rw [dG] at hx;exact hx
def ma {s:Sem Xab} {j:TypeId} {kk:Xab->T} (u:T.eh P s false [(false,[.slice j])] (fun p l c=>kk (.slice p l c)) L K h) :
  aS P s h (fun v h'=>kk v L K h'):=by
 refine dO _ _ _ _ ?_ u;rintro v h' ⟨x,rfl,hx⟩;exact hx
def Rb {s:Sem Xab} {kk:Xab->T} (j:T.eh P s false [(false,[.bool])] (fun b=>kk (.bool b)) L K h):aS P s h (fun v h'=>kk v L K h'):=by
 refine dO _ _ _ _ ?_ j;rintro v h' ⟨x,rfl,hx⟩;exact hx
def C6 {s:Sem Xab} {kk:Xab->T} (j:T.eh P s false [(false,[.int .i64])] (fun b=>kk (.int .i64 b)) L K h):aS P s h (fun v h'=>kk v L K h'):=by
 refine dO _ _ _ _ ?_ j;rintro v h' ⟨x,rfl,hx⟩;exact hx
def PV {s:Sem Xab} {kk:Xab->T} (j:T.eh P s false [(false,[.string])] (fun b=>kk (.string b)) L K h):aS P s h (fun v h'=>kk v L K h'):=by
 refine dO _ _ _ _ ?_ j;rintro v h' ⟨x,rfl,hx⟩;exact hx
def QN {s:Sem Xab} {a b:TypeId} {kk:Xab->T} (j:T.eh P s false [(false,[.map a b])] (fun b=>kk (.map b)) L K h):aS P s h (fun v h'=>kk v L K h'):=by
 refine dO _ _ _ _ ?_ j;rintro v h' ⟨x,rfl,hx⟩;exact hx
def QA {s:Sem Xab} {a:TypeId} {kk:Xab->T} (j:T.eh P s false [(false,[.pointer a])] (fun b=>kk (.pointer b)) L K h):aS P s h (fun v h'=>kk v L K h'):=by
 refine dO _ _ _ _ ?_ j;rintro v h' ⟨x,rfl,hx⟩;exact hx
def Pk {s:Sem Xab} {kk:T} (j:T.eh P s true [] kk L K h):aS P s h (fun v h'=>v=.tuple #[]/\kk L K h'):=by
 refine dO _ _ _ _ ?_ j;rintro v h' ⟨x,rfl,hx⟩;exact ⟨rfl,hx⟩
def PA {op : BinOp} {k : IntKind} {m n : Int} {kk : Xab -> T} (hs : mD op = false) (t : TypeId) (j : HD op k m n kk L K h) :
    aS P (binOp op t (.int k m) (.int k n)) h (fun v h' => kk v L K h') := by
  cases op <;> simp only [mD, Bool.true_eq_false] at hs <;> simp only [HD] at j <;>
    first
    | exact j.elim
    | (simp only [binOp, Op.intArith, Op.intDiv, Op.intBits, Op.intCmp, ne_eq, not_true_eq_false, if_false]; exact j)
    | (obtain ⟨h0, j⟩ := j
       simp only [binOp, Op.intDiv, ne_eq, not_true_eq_false, if_false, if_neg h0]; exact j)
def KR {op:BinOp} {k k':IntKind} {m n:Int} {kk:Xab->T} (hs:mD op=true) (t:TypeId) (j:zK op k m n kk L K h) :
  aS P (binOp op t (.int k m) (.int k' n)) h (fun v h'=>kk v L K h'):=by
 cases op <;> simp only [mD,Bool.false_eq_true] at hs <;> simp only [zK] at j <;> obtain ⟨h0,j⟩:=j <;>
  simp only [binOp,Op.shift,if_neg (Int.not_lt.2 h0)] <;> exact j
def RG {op : BinOp} {m n : Xaa} {kk : Xab -> T} (t : TypeId) (j : Hw op m n kk L K h) :
    aS P (binOp op t (.string m) (.string n)) h (fun v h' => kk v L K h') := by
  cases op <;> simp only [Hw] at j <;>
    first
    | exact j.elim
    | (simp only [binOp, Op.stringOp]; exact j)
    | (obtain ⟨h0, j⟩ := j
       simp only [binOp, Op.stringOp, if_neg (Int.not_lt.2 h0)]; exact j)
def Bw:Xab->Bool
 | .nilIface=>false
 | .agg _=>false
 | _=>true
def gg {op:BinOp} {t:TypeId} {x y:Operand} {a b:Xab} (j:Bw a=true) {R:Xab->Hp->Prop} :
  aS P (do eqGuard op t x y a b; binOp op t a b) h R=aS P (binOp op t a b) h R:=by
 rw [ao]
 have:∀ K:Unit->Hp->Prop,aS P (eqGuard op t x y a b) h K=K () h:=by
  intro K;cases op <;> first | rfl | (cases a <;> first | (simp [Bw] at j; done) | rfl)
 rw [this]
def G' {t:TypeId} (j:P.underlying t=some .bool) (m n:Bool) (R:Bool->Hp->Prop):aS P (Op.equal t (.bool m) (.bool n)) h R=R (m==n) h:=by
 show aS P (Op.equalIn (9999+1) t (.bool m) (.bool n)) h R=_;unfold Op.equalIn;rw [ao,aF j]; rfl
def Bg {t e:TypeId} (j:P.underlying t=some (.pointer e)) (p:Xac) (R:Bool->Hp->Prop):aS P (Op.equal t (.pointer p) (.pointer none)) h R=R p.isNone h:=by
 show aS P (Op.equalIn (9999+1) t (.pointer p) (.pointer none)) h R=_;unfold Op.equalIn;rw [ao,aF j]; cases p <;> rfl
def yq {t e:TypeId} (j:P.underlying t=some (.slice e)) (p:Xac) (l c:Nat) (R:Bool->Hp->Prop):aS P (Op.equal t (.slice p l c) (.slice none 0 0)) h R=R p.isNone h:=by
 show aS P (Op.equalIn (9999+1) t (.slice p l c) (.slice none 0 0)) h R=_;unfold Op.equalIn;rw [ao,aF j]; cases p <;> rfl
def Bb {t a b:TypeId} (j:P.underlying t=some (.map a b)) (p:Option Nat) (R:Bool->Hp->Prop):aS P (Op.equal t (.map p) (.map none)) h R=R p.isNone h:=by
 show aS P (Op.equalIn (9999+1) t (.map p) (.map none)) h R=_;unfold Op.equalIn;rw [ao,aF j]; cases p <;> rfl
def uO {op:BinOp} {t:TypeId} {a b:Xab} {r:Bool} {kk:Xab->T}
  (u:∀ R:Bool->Hp->Prop,aS P (Op.equal t a b) h R=R r h)
  (h1:binOp .eql t a b=(do pure (.bool (<- Op.equal t a b)))) (h2:binOp .neq t a b=(do pure (.bool (!(<- Op.equal t a b)))))
  (j:asked op r kk T.fail L K h):aS P (binOp op t a b) h (fun v h'=>kk v L K h'):=by
 cases op <;> simp only [asked] at j <;> first
  | exact j.elim
  | (rw [h1,ao,u]; exact j)
  | (rw [h2,ao,u]; exact j)
def RJ {op:BinOp} {t:TypeId} {x y:Operand} {a b:Xab} {kk:Xab->T} (j:Pj P op t x y a b kk L K h) :
  aS P (do eqGuard op t x y a b; binOp op t a b) h (fun v h'=>kk v L K h'):=Rb j
def QD {e:Env} {op:BinOp} {t:TypeId} {x y:Operand} {a b:Xab} {kk:Xab->T} (hy:ev e y=some b)
  (j:Dp P op t x y a b kk L K h):aS P (do eqGuard op t x y a b; binOp op t a b) h (fun v h'=>kk v L K h'):=by
 have U:∀ q,b=.pointer q->isNil y=true->q=none:=by
  intro q V hn;cases y <;> simp only [isNil,Bool.false_eq_true] at hn;rename_i c;simp only [Sx.ev,Option.some.injEq] at hy;subst hy; subst V;cases q with
  | none=>rfl
  | some a=>simp [isNil] at hn
 have J:∀ q l c,b=.slice q l c->isNil y=true->q=none/\l=0/\c=0:=by
  intro q l c V hn;cases y <;> simp only [isNil,Bool.false_eq_true] at hn;rename_i c;simp only [Sx.ev,Option.some.injEq] at hy;subst hy; subst V;cases q with
  | none =>
   cases l <;> cases c <;> simp [isNil] at hn <;> exact ⟨rfl,rfl,rfl⟩
  | some a=>simp [isNil] at hn
 have O:∀ q,b=.map q->isNil y=true->q=none:=by
  intro q V hn;cases y <;> simp only [isNil,Bool.false_eq_true] at hn;rename_i c;simp only [Sx.ev,Option.some.injEq] at hy;subst hy; subst V;cases q with
  | none=>rfl
  | some a=>simp [isNil] at hn
 unfold Dp at j;cases G:rA P t x y with
 | false=>simp only [G] at j; exact RJ j
 | true =>
 simp only [G] at j;unfold sR at j;split at j
 ·rename_i k m k' n;rw [gg rfl];cases hs:mD op with
  | true=>simp only [hs] at j; exact KR hs t j
  | false =>
   simp only [hs] at j
   by_cases hk:k=k'
   ·subst hk;simp only [decide_true] at j;exact PA hs t j
   ·simp only [hk,decide_false] at j;exact j.elim
 ·rw [gg rfl]; exact RG t j
 ·rename_i m n;rw [gg rfl];cases u:P.underlying t with
  | none=>simp only [u] at j; exact j.elim
  | some d =>
   cases d <;> simp only [u] at j <;> first
    | exact j.elim
    | exact uO (fun R=>G' u m n R) rfl rfl j
 ·rename_i p q;cases u:P.underlying t with
  | none=>simp only [u] at j; exact j.elim
  | some d =>
   cases d <;> simp only [u] at j <;> first
    | exact j.elim
    | skip
   have hn:isNil y=true:=by simpa [rA,u] using G
   obtain rfl:=U q rfl hn;rw [gg rfl]; exact uO (fun R=>Bg u p R) rfl rfl j
 ·rename_i p l c q l' c';cases u:P.underlying t with
  | none=>simp only [u] at j; exact j.elim
  | some d =>
   cases d <;> simp only [u] at j <;> first
    | exact j.elim
    | skip
   have hn:isNil y=true:=by simpa [rA,u] using G
   obtain ⟨rfl,rfl,rfl⟩:=J q _ _ rfl hn;rw [gg rfl]; exact uO (fun R=>yq u p l c R) rfl rfl j
 ·rename_i p q;cases u:P.underlying t with
  | none=>simp only [u] at j; exact j.elim
  | some d =>
   cases d <;> simp only [u] at j <;> first
    | exact j.elim
    | skip
   have hn:isNil y=true:=by simpa [rA,u] using G
   obtain rfl:=O q rfl hn;rw [gg rfl]; exact uO (fun R=>Bb u p R) rfl rfl j
 ·exact j.elim
def Tr {op:UnOp} {a:Xab} {kk:Xab->T} (j:UQ op a kk L K h):aS P (Op.unary op a) h (fun v h'=>kk v L K h'):=by
 unfold UQ at j;split at j
 ·exact j
 ·exact j
 ·exact j
 ·exact j.elim
def NG {s d:TypeId} {a:Xab} {kk:Xab->T} (j:xD P s d a kk L K h):aS P (convert s d a) h (fun v h'=>kk v L K h'):=by
 unfold xD at j;generalize hs:P.underlying s=us at j;generalize u:P.underlying d=G at j;split at j
 ·unfold convert;rw [ao,aF hs,ao,aF u];exact j
 ·unfold convert;rw [ao,aF hs,ao,aF u];exact j
 ·exact j.elim
 ·exact ma j
 ·exact PV j
 ·exact j.elim
def eF (y:Nat) (j:BoundsCode) {v:Xab} {k:IntKind} {i:Int} (hv:v=.int k i) (h0:0<=i) (h1:i<=y) (R:Nat->Hp->Prop) :
  aS P (Instr.sliceBound v y j) h R=R i.toNat h:=by
 subst hv;unfold Instr.sliceBound;rw [ao];show aS P (if 0<=i/\i<=↑y then pure i.toNat else boundsPanic k i ↑y j) h R=_;rw [Y8 ⟨h0,h1⟩]; rfl
def qJ {v:Xab} (hv:eA (some v)=true):∃ k i,v=.int k i:=by
 cases v <;> simp only [eA,Bool.false_eq_true] at hv;exact ⟨_,_,rfl⟩
def nD (isSlice:Bool) (len cap:Nat) {j hi:Option Xab} (X:eA j=true) (Y:eA hi=true)
  (h0:0<=kj j) (h1:kj j<=kJ len hi) (h2:kJ len hi<=cap) (R:Nat × Nat × Nat->Hp->Prop) :
  aS P (Instr.sliceBounds isSlice len cap j hi none) h R=R ((kj j).toNat,(kJ len hi).toNat,cap) h:=by
 unfold Instr.sliceBounds;cases hi with
 | none =>
  cases j with
  | none=>rfl
  | some v =>
   obtain ⟨k,i,rfl⟩:=qJ X;have G:0<=i:=h0;have J:i<=len:=h1;show aS P (Instr.sliceBound (.int k i) len _ >>= fun l=>pure (l,len,cap)) h R=_;rw [ao,eF len _ rfl G J]; rfl
 | some u =>
  obtain ⟨ku,iu,rfl⟩:=qJ Y;have O:(0:Int)<=iu:=Int.le_trans h0 h1;cases j with
  | none =>
   show aS P (Instr.sliceBound (.int ku iu) cap _ >>= fun V=>pure (0,V,cap)) h R=_;have U:iu<=cap:=h2;rw [ao,eF cap _ rfl O U]; rfl
  | some v =>
   obtain ⟨k,i,rfl⟩:=qJ X;show aS P (Instr.sliceBound (.int ku iu) cap _ >>= fun V=>Instr.sliceBound (.int k i) V _ >>= fun l=>pure (l,V,cap)) h R=_;have G:0<=i:=h0;have J:i<=iu:=h1;have U:iu<=cap:=h2;rw [ao,eF cap _ rfl O U,ao,eF _ _ rfl G (by rw [Int.toNat_of_nonneg O]; exact J)]; rfl
def Jm {t:TypeId} {a:Xab} {u hi J:Option Xab} {kk:Xab->T} (j:iR P t a u hi J kk L K h) :
  aS P (Instr.sliceAt t a u hi J) h (fun v h'=>kk v L K h'):=by
 unfold iR at j;cases hint:eA u && eA hi && eA J with
 | false=>simp only [hint] at j; exact j.elim
 | true =>
  simp only [hint] at j;simp only [Bool.and_eq_true] at hint;obtain ⟨⟨V,X⟩,Z⟩:=hint;cases G:P.underlying t with
  | none=>simp only [G] at j; exact ma j
  | some d =>
   cases d <;> simp only [G] at j <;> first | exact ma j | skip
   case string =>
    cases J with
    | some m=>cases a <;> exact j.elim
    | none =>
    cases a <;> first | exact j.elim | skip
    rename_i s;obtain ⟨⟨h0,h1,h2⟩,j⟩:=j;unfold Instr.sliceAt;rw [ao,aF G];show aS P (Instr.slice t (.string s) u hi none) h _;unfold Instr.slice;rw [ao,aF G];show aS P (Instr.sliceBounds false s.size s.size u hi none >>= fun x=>(pure (Value.string (s.extract x.1 x.2.1)):Sem Xab)) h _;rw [ao,nD false _ _ V X h0 h1 h2];exact j
   case slice Y =>
    cases J with
    | some m=>exact ma j
    | none =>
    cases a <;> first | exact j.elim | skip
    rename_i p len cap;simp only at j;cases O:nq P Y with
    | false=>simp only [O] at j; exact j.elim
    | true =>
     simp only [O] at j;obtain ⟨⟨h0,h1,h2⟩,j⟩:=j;obtain ⟨i,U⟩:=Z0.1 O;unfold Instr.sliceAt;rw [ao,aF G];show aS P (Instr.slice t (.slice p len cap) u hi none) h _;unfold Instr.slice;rw [ao,aF G];show aS P (Instr.sliceBounds true len cap u hi none >>= fun x=>sizeOf Y >>= fun size=>(pure (Value.slice (if x.2.2=x.1 then p else p.map (·.add (x.1*size))) (x.2.1-x.1) (x.2.2-x.1)):Sem Xab)) h _;rw [ao,nD true _ _ V X h0 h1 h2,ao,cd U];exact j
def Lw {t:TypeId} {cs:Array Xab} {off:Nat} {kk:Xab->T} (j:sV P t cs.toList off kk L K h) :
  aS P (part t cs off) h (fun v h'=>kk v L K h'):=by
 have hx:∀ n,((cs.toList.drop off).take n).toArray=cs.extract off (off+n):=by
  intro n;apply ZK.1;simp [Array.toList_extract,List.extract_eq_drop_take]
 unfold sV at j;generalize u:P.underlying t=O at j;split at j
 ·obtain ⟨i,hi⟩:=info_of_underlying u;unfold part;rw [ao,jF (b:=true) (by simp [cF,u])];show aS P (sizeOf t >>= fun n=>(pure (Value.agg (cs.extract off (off+n))):Sem Xab)) h _;rw [ao,cd hi,<- hx];exact j
 ·obtain ⟨i,hi⟩:=info_of_underlying u;unfold part;rw [ao,jF (b:=true) (by simp [cF,u])];show aS P (sizeOf t >>= fun n=>(pure (Value.agg (cs.extract off (off+n))):Sem Xab)) h _;rw [ao,cd hi,<- hx];exact j
 ·rename_i d G J;unfold part;rw [ao,jF (b:=false) (by simp only [cF,u])];show aS P (match cs[off]? with | some v => pure v | none => stuck "part: no such cell") h _
  rw [<- an9];cases hv:cs.toList[off]? with
  | none=>simp only [hv] at j; exact j.elim
  | some v=>simp only [hv] at j; exact j
 ·exact j.elim
def vU {f:FuncId} (hb:fL P f=true) (args:Array Xab) (R:Next->Hp->Prop):aS P (callFunc f args) h R=R (.enter f args) h:=by
 unfold fL at hb;unfold callFunc;rw [ft];cases j:P.funcs[f]? with
 | none=>rw [j] at hb; simp at hb
 | some fn =>
  rw [j] at hb;simp only [Bool.and_eq_true,Bool.not_eq_true'] at hb;obtain ⟨h1,h2⟩:=hb;have h3:fn.body.isNone=false:=by cases u:fn.body <;> simp_all
  simp only [h2,h3]; rfl
def Nc {f:FuncId} {args:List Xab} {t:TypeId} {kk:Xab->T} (j:Cs P f args t kk L K h) :
  aS P (callFunc f args.toArray) h (Cm P fun v h'=>kk v L K h'):=by
 unfold Cs at j;cases hb:fL P f with
 | false =>
  simp only [hb] at j
  have:=nr j
  unfold HF at this;rw [ao] at this;refine dO _ _ _ _ ?_ this;intro x h' hx;cases x <;> first | exact hx | exact hx.elim
 | true =>
  simp only [hb] at j;rw [vU hb];refine HC.mono j ?_;rintro v h' ⟨x,rfl,hx⟩;rw [dG] at hx;exact hx
def PY {c:Call} {t:TypeId} {args:List Xab} {kk:Xab->T} (j:zt P c t args kk L K h) :
  aS P (Builtin.len_ c.argTypes t args.toArray) h (fun v h'=>kk v L K h'):=by
 unfold zt at j;cases J:(c.argTypes[0]?).bind P.underlying with
 | none=>simp only [J] at j; exact C6 j
 | some d =>
  obtain ⟨t0,u,G⟩:=YZ.1 J;cases d <;> simp only [J] at j <;> first | exact C6 j | skip
  case string =>
   split at j
   ·unfold Builtin.len_;simp only [u];show aS P (underlying t0 >>= _) h _;rw [ao,aF G];exact j
   ·exact j.elim
  case slice O =>
   split at j
   ·unfold Builtin.len_;simp only [u];show aS P (underlying t0 >>= _) h _;rw [ao,aF G];exact j
   ·exact j.elim
def PO {c:Call} {t:TypeId} {args:List Xab} {kk:Xab->T} (j:JM P c args kk L K h) :
  aS P (Builtin.cap_ c.argTypes t args.toArray) h (fun v h'=>kk v L K h'):=by
 unfold JM at j;cases u:(c.argTypes[0]?).bind P.underlying with
 | none=>simp only [u] at j; exact j.elim
 | some d =>
  obtain ⟨t0,G,J⟩:=YZ.1 u;cases d <;> simp only [u] at j <;> first | exact j.elim | skip
  split at j
  ·unfold Builtin.cap_;simp only [G];show aS P (underlying t0 >>= _) h _;rw [ao,aF J];exact j
  ·exact j.elim
inductive kX:List (Nat × Xab)->List (Nat × List Xab)->Prop
 | nil:kX [] []
 | cons {i:Nat} {v:Xab} {l:List Xab} {ps:List (Nat × Xab)} {r:List (Nat × List Xab)} (h:v.cells.toList=l) (t:kX ps r):kX ((i,v)::ps) ((i,l)::r)
def Kh {v:Xab} (h:eY v=true):v.cells.toList=jK v:=by
 cases v <;> first | rfl | (simp [eY] at h)
def xV {v:Xab} (h:eY v=false):v.cells.toList=[v]:=by
 cases v <;> first | rfl | (simp [eY] at h)
theorem rX {agg:Nat->Option Bool}:∀ {ps:List (Nat × Xab)} {k:List (Nat × List Xab)->T},fm agg ps k L K h->∃ r,kX ps r/\k r L K h
 | [],k,j=>⟨[],.nil,j⟩
 | (i,v)::l,k,j=>by
  simp only [fm] at j;cases G:agg i with
  | none=>rw [G] at j; exact j.elim
  | some b =>
   rw [G] at j;cases b with
   | true =>
    rcases fN j with ⟨hv,j⟩ | ⟨_,j⟩
    ·obtain ⟨r,u,hk⟩:=rX j;exact ⟨_,.cons (Kh hv) u,hk⟩
    ·exact j.elim
   | false =>
    rcases fN j with ⟨_,j⟩ | ⟨hv,j⟩
    ·exact j.elim
    ·obtain ⟨r,u,hk⟩:=rX j;exact ⟨_,.cons (xV hv) u,hk⟩
theorem zr:∀ (l:List Xab) (off k:Nat) (cs:Array Xab),((l.zipIdx k).foldl (fun (cs:Array Xab) (x:Xab × Nat)=>cs.setIfInBounds (off+x.2) x.1) cs)=(sL cs.toList (off+k) l).toArray
 | [],off,k,cs=>by simp [sL]
 | v::l,off,k,cs=>by
  rw [List.zipIdx_cons,ZH,zr l off (k+1)];simp only [sL,Array.toList_setIfInBounds] <;> rfl
def C7 {place:Nat->Option (Nat × Nat)} {ps:List (Nat × Xab)} {r:List (Nat × List Xab)} (hc:kX ps r):∀ {c cs:List Xab},fA place c r=some cs->Instr.fill place c.toArray ps=some cs.toArray:=by
 induction hc with
 | nil=>intro c cs h; simp [fA] at h; subst h; rfl
 | @cons i v l ps r hv _ u =>
  intro c cs h;unfold fA at h;unfold Instr.fill;split at h
  ·cases h
  ·rename_i off size G;rw [G];simp only;have hs:v.cells.size=l.length:=by rw [<- hv,aa9]
   cases hb:!(Nat.beq l.length size) || Nat.blt c.length (off+l.length) with
   | true=>rw [hb] at h; cases h
   | false =>
    rw [hb] at h;simp only [Bool.or_eq_false_iff,Bool.not_eq_false'] at hb;have h1:l.length=size:=Zf hb.1;have h2:¬ c.length<off+l.length:=fun j=>by
     have:=Nat.ble_eq_true_of_le j
     rw [show Nat.blt c.length (off+l.length)=Nat.ble (c.length+1) (off+l.length) from rfl,this] at hb;exact absurd hb.2 aj
    rw [Y2 (by simp [hs,h1]; omega)];have e:v.cells.zipIdx.foldl (fun cs (x:Xab × Nat)=>cs.setIfInBounds (off+x.2) x.1) c.toArray=(sL c off l).toArray:=by
     rw [<- Array.foldl_toList,Array.toList_zipIdx,hv];exact zr l off 0 c.toArray
    have:=u h
    rw [<- e] at this;exact this
def FK {b:Builtin} {c:Call} {t:TypeId} {args:List Xab} {u:Array Bool} {kk:Xab->T} (j:rk P b c t args kk L K h) :
  aS P (builtin b c.argTypes t u args.toArray) h (Cm P fun v h'=>kk v L K h'):=by
 unfold rk at j;split at j
 ·show aS P (do pure (Next.value (<- Builtin.len_ c.argTypes t args.toArray))) h _;rw [sQ]; exact PY j
 ·show aS P (do pure (Next.value (<- Builtin.cap_ c.argTypes t args.toArray))) h _;rw [sQ]; exact PO j
 ·show aS P (do pure (Next.value (<- Builtin.append_ c.argTypes t args.toArray))) h _;rw [sQ]; exact ma j
 ·show aS P (do pure (Next.value (<- Builtin.copy_ c.argTypes t args.toArray))) h _;rw [sQ]; exact C6 j
 ·show aS P (do pure (Next.value (<- Builtin.min_ c.argTypes t args.toArray))) h _;rw [sQ]; exact nr j
 ·show aS P (do pure (Next.value (<- Builtin.max_ c.argTypes t args.toArray))) h _;rw [sQ]; exact nr j
 ·show aS P (do pure (Next.value (<- Builtin.delete_ c.argTypes t args.toArray))) h _;rw [sQ];exact dO _ _ _ _ (fun v h' ⟨e,hk⟩=>by subst e; exact hk) (Pk j)
 ·show aS P (do pure (Next.value (<- Builtin.unsafeString_ c.argTypes t args.toArray))) h _;rw [sQ]; exact nr j
 ·show aS P (do pure (Next.value (<- Builtin.unsafeSliceData_ c.argTypes t args.toArray))) h _;rw [sQ]; exact nr j
 ·exact j.elim
def OO {vs:List Xab} {e:TypeId} {kk:Xab->T} (j:T.new vs e (fun a=>kk (.pointer (some a))) L K h) {cs:Array Xab} (hv:cs=vs.toArray) :
  aS P (do pure (Value.pointer (some (<- newRow e cs)))) h (fun v h'=>kk v L K h'):=by
 subst hv;exact j
def BN {n:Nat} {t:TypeId} {p:Xac} {kk:Xax->List Xab->Xab->T} {b:Bool} (hb:cF P t=some b)
  (j:(match b with
   | true=>(bif (ff P 9 t).length==P.cellsOf t then T.bG p fun a=>T.ah a (ff P 9 t) (ju _ fun l=>kk a l (.agg l.toArray)) else T.fail)
   | false=>T.bG p fun a=>T.ah a (cD P t).2 (ju _ fun l=>kk a l (l.headD undef))) L K h) :
  ∃ a l v,p=some a/\aI h a 0 l/\kk a l v L K h/\∀ h' (R:Xab->Hp->Prop),aI h' a 0 l->R v h'->aS P (Instr.loadAt t (.pointer p)) h' R:=by
 obtain ⟨i,hi⟩:=sS hb;cases b with
 | true =>
  simp only at j;cases hl:(ff P 9 t).length==P.cellsOf t with
  | false=>rw [hl] at j; exact j.elim
  | true =>
   rw [hl] at j;have O:(ff P 9 t).length=P.cellsOf t:=by simpa using hl
   obtain ⟨a,rfl,j⟩:=gf j;obtain ⟨x,hc,j⟩:=j;rw [dG] at j;refine ⟨a,ef _ x,_,rfl,hc,j,fun h' R u hk=>?_⟩;unfold Instr.loadAt;show aS P (loadVar t a) h' R;unfold loadVar;rw [ao,jF hb];show aS P (sizeOf t >>= fun n=>loadCells a n >>= fun cs=>(pure (Value.agg cs):Sem Xab)) h' R;rw [ao,cd hi,ao];exact dJ (by rw [uc,O]) u _ hk
 | false =>
  simp only at j;obtain ⟨a,rfl,j⟩:=gf j;obtain ⟨x,hc,j⟩:=j;rw [dG] at j;have h1:∃ d,(cD P t).2=[d]:=by
   unfold cF at hb;unfold cD;cases J:P.underlying t with
   | none=>rw [J] at hb; simp at hb
   | some d=>rw [J] at hb; cases d <;> simp at hb <;> exact ⟨_,rfl⟩
  obtain ⟨d,J⟩:=h1;refine ⟨a,ef _ x,_,rfl,hc,j,fun h' R u hk=>?_⟩;revert x;rw [J];intro x hc j u hk;unfold Instr.loadAt;show aS P (loadVar t a) h' R;unfold loadVar;rw [ao,jF hb];have G:=u.1
  have:a.add 0=a:=by simp [Addr.add]
  rw [this] at G;exact ⟨_,G,hk⟩
def Mc {n : Nd} {e : Env} {a : Act} (g : gK n e a) {t : TypeId} {x : Operand} {kk : Xax -> List Xab -> Xab -> T} (j : qX P t x e kk L K h) :
    ∃ p l v, ev e x = some (.pointer (some p)) /\ aI h p 0 l /\ kk p l v L K h /\ ∀ h' (R : Xab -> Hp -> Prop), aI h' p 0 l -> R v h' -> aS P (Instr.loadAt t (.pointer (some p))) h' R := by
  unfold qX at j;obtain ⟨v, hv, j⟩ := bz j;cases hb : cF P t with
  | none => cases v <;> simp only [hb] at j <;> exact j.elim
  | some b =>
    cases v <;> first
      | (cases b <;> simp only [hb] at j <;> exact j.elim)
      | (rename_i p
         have G : (match b with
            | true => (bif (ff P 9 t).length == P.cellsOf t then T.bG p fun a => T.ah a (ff P 9 t) (ju _ fun l => kk a l (.agg l.toArray)) else T.fail)
            | false => T.bG p fun a => T.ah a (cD P t).2 (ju _ fun l => kk a l (l.headD undef))) L K h := by
            cases b <;> simp only [hb] at j <;> exact j
         obtain ⟨q, l, v, rfl, hc, hk, u⟩ := BN (n := n) hb G;exact ⟨q, l, v, hv, hc, hk, u⟩)
def G2 {n : Nd} {o : Oper} {e : Env} {a : Act} (g : gK n e a) {kk : Xab -> T} (j : uq P o e kk L K h) :
    Xj P o a.eval h (fun v h' => kk v L K h') := by
  obtain ⟨dst, op, type, pos, after, guard⟩ := o;unfold Xj;cases op <;> simp only [uq] at j <;> unfold execOp <;> simp only
  case move x => obtain ⟨v, hv, j⟩ := bz j; rw [g.ev hv]; exact j
  case assign x => obtain ⟨v, hv, j⟩ := bz j; rw [g.ev hv]; exact j
  case pick c x y =>
    obtain ⟨v, hv, j⟩ := bz j;rw [g.ev hv]
    cases v <;> simp only at j <;> first
      | exact j.elim
      | (rename_i b
         rw [ao];show aS P (pure b) h _;cases b
         · obtain ⟨w, hw, j⟩ := bz (show cg e y kk L K h from j); rw [g.ev hw]; exact j
         · obtain ⟨w, hw, j⟩ := bz (show cg e x kk L K h from j); rw [g.ev hw]; exact j)
  case alloc t =>
    cases hz : (P.info? t).bind (·.zero) with
    | none => simp only [hz] at j; exact j.elim
    | some z =>
      simp only [hz] at j;rw [sQ];unfold Instr.alloc;rw [ao, dt hz];exact OO j aj
  case box t x =>
    obtain ⟨v, hv, j⟩ := bz j;rw [g.ev hv, sQ];unfold Instr.box newVar;cases hb : cF P t with
    | none => simp only [hb] at j; exact j.elim
    | some b =>
      cases b <;> simp only [hb] at j <;> rcases fN j with ⟨hv, j⟩ | ⟨hv, j⟩ <;> first
        | exact j.elim
        | (refine OO j ?_
           cases v <;> first | (simp [eY] at hv; done) | simp [Value.cells, jK])
  case build t ps =>
    obtain ⟨vs, ef, j⟩ := iO j;have ef := g.Qq ef
    have hps : (ps.map fun x => (x.1, a.eval x.2)).toList = (ps.toList.map (·.1)).zip vs := by
      rw [<- ef];simp only [Array.toList_map];generalize ps.toList = l
      induction l with
      | nil => rfl
      | cons p l ih => simp [ih]
    rw [sQ];unfold Instr.build;rw [ao];cases hz : (P.info? t).bind (·.zero) with
    | none =>
      generalize P.underlying t = ud at j;cases ud with
      | none => simp only [hz] at j; exact j.elim
      | some d => cases d <;> simp only [hz] at j <;> exact j.elim
    | some z =>
      rw [dt hz];show aS P (underlying t >>= _) h _;cases G : P.underlying t with
      | none => simp only [G] at j; exact j.elim
      | some d =>
        rw [ao, aF G];cases d <;> simp only [G, hz] at j <;> first | exact j.elim | skip
        case array len el =>
          rcases fN j with ⟨_, j⟩ | ⟨V, j⟩
          · exact j.elim
          · have V : nq P el = true := by simpa using V
            obtain ⟨i, hi⟩ := Z0.1 V;simp only;rw [ao, cd hi];have U : (Array.map (fun x => (x.1, a.eval x.2)) ps).toList = (ps.toList.map (·.1)).zip vs := hps;obtain ⟨ls, hls, j⟩ := rX j;cases O : fA (fun i => some (i * P.cellsOf el, P.cellsOf el)) z.cells.toList ls with
            | none => simp only [O] at j; exact j.elim
            | some cs =>
              simp only [O] at j;rw [U, C7 hls O];exact j
        case struct fs =>
          rcases fN j with ⟨_, j⟩ | ⟨V, j⟩
          · exact j.elim
          · have V : (fs.all fun f => nq P f.type) = true := by simpa using V
            simp only;rw [ao]
            have hm : ∀ R : Array (Nat × Nat) -> Hp -> Prop, aS P (fs.mapM fun f => do pure (f.offset, <- sizeOf f.type)) h R = R (fs.map fun f => (f.offset, P.cellsOf f.type)) h := by
              intro R;rw [Array.mapM_eq_mapM_toList]
              have hT' : ∀ f ∈ fs.toList, nq P f.type = true := by
                intro f O; exact (Array.all_eq_true_iff_forall_mem.1 V) f (by simpa using O)
              have : ∀ (l : List Field) (R : List (Nat × Nat) -> Hp -> Prop), (∀ f ∈ l, nq P f.type = true) ->
                  aS P (l.mapM fun f => (do pure (f.offset, <- sizeOf f.type) : Sem (Nat × Nat))) h R = R (l.map fun f => (f.offset, P.cellsOf f.type)) h := by
                intro l
                induction l with
                | nil => intro R _; rfl
                | cons f l ih =>
                  intro R hl;obtain ⟨i, hi⟩ := Z0.1 (hl f aj);rw [List.mapM_cons, ao, ao, cd hi];show aS P ((l.mapM fun f => (do pure (f.offset, <- sizeOf f.type) : Sem (Nat × Nat))) >>= _) h R = _;rw [ao, ih _ (fun f O => hl f (by simp [O]))] <;> rfl
              show aS P (List.toArray <$> _) h R = _;rw [map_eq_pure_bind, ao, this _ _ hT'];show R (List.toArray _) h = _
              congr 1
              apply ZK.1
              simp
            rw [hm];obtain ⟨ls, hls, j⟩ := rX j;cases O : fA (fun i => (fs.map fun f => (f.offset, P.cellsOf f.type))[i]?) z.cells.toList ls with
            | none => simp only [O] at j; exact j.elim
            | some cs =>
              simp only [O] at j;have U : (Array.map (fun x => (x.1, a.eval x.2)) ps).toList = (ps.toList.map (·.1)).zip vs := hps;rw [U, C7 hls O];exact j
  case buildSlice t len ps =>
    obtain ⟨vs, ef, j⟩ := iO j;have ef := g.Qq ef
    have hps : (ps.map fun x => (x.1, a.eval x.2)) = ((ps.toList.map (·.1)).zip vs).toArray := by
      apply ZK.1;rw [<- ef];simp only [Array.toList_map];generalize ps.toList = l
      induction l with
      | nil => rfl
      | cons p l ih => simpa using ih
    rw [sQ];have U : (Array.map (fun x => (x.1, a.eval x.2)) ps) = ((ps.toList.map (·.1)).zip vs).toArray := hps;rw [U];exact ma j
  case load t x =>
    have ht' : qX P t x e (fun _ _ v => kk v) L K h := j;obtain ⟨p, l, v, hv, hc, hk, hall⟩ := Mc g ht';rw [g.ev hv, sQ];exact hall h _ hc hk
  case store t x y =>
    obtain ⟨v, hv, j⟩ := bz j;obtain ⟨u, hu, j⟩ := bz j;rw [g.ev hv, g.ev hu, Xn];cases hb : cF P t with
    | none => cases v <;> simp only [hb] at j <;> exact j.elim
    | some b =>
      obtain ⟨i, hi⟩ := sS hb
      cases v <;> first
        | (cases b <;> simp only [hb] at j <;> exact j.elim)
        | skip
      rename_i p;cases b <;> simp only [hb] at j
      · rcases fN j with ⟨hl, j⟩ | ⟨hl, j⟩
        · rcases fN j with ⟨Y, j⟩ | ⟨Y, j⟩
          · exact j.elim
          · obtain ⟨q, rfl, j⟩ := gf j
            obtain ⟨hc, j⟩ := j;unfold Instr.storeAt storeVar;show aS P (sizeOf t >>= _) h _;rw [ao, cd hi];have hcl : u.cells = #[u] := by cases u <;> first | (simp [eY] at Y; done) | rfl
            have h1 : P.cellsOf t = 1 := by simpa using hl
            rw [hcl, h1];exact fB q [u] h 0 _ hc j
        · exact j.elim
      · rcases fN j with ⟨Y, j⟩ | ⟨Y, j⟩
        · rcases fN j with ⟨hl, j⟩ | ⟨hl, j⟩
          · obtain ⟨q, rfl, j⟩ := gf j
            obtain ⟨hc, j⟩ := j;unfold Instr.storeAt storeVar;show aS P (sizeOf t >>= _) h _;rw [ao, cd hi];obtain ⟨cs, rfl⟩ : ∃ cs, u = .agg cs := by cases u <;> first | (simp [eY] at Y; done) | exact ⟨_, rfl⟩
            have h1 : cs.size = P.cellsOf t := by simpa [jK] using hl
            show aS P (if cs.size ≠ P.cellsOf t then _ else storeCells q cs.toList 0) h _;rw [Y2 (by simp [h1])];exact fB q cs.toList h 0 _ hc j
          · exact j.elim
        · exact j.elim
  case nilCheck x =>
    obtain ⟨v, hv, j⟩ := bz j;rw [g.ev hv];cases v with
    | pointer p => obtain ⟨q, rfl, j⟩ := gf j; exact j
    | func fn X ca => cases fn <;> first | exact j.elim | exact j
    | iface t w => exact j
    | _ => exact j.elim
  case binOp op t x y yt =>
    obtain ⟨v, hv, j⟩ := bz j;obtain ⟨u, hu, j⟩ := bz j;rw [g.ev hv, g.ev hu, sQ];exact QD hu j
  case unOp op t x => obtain ⟨v, hv, j⟩ := bz j; rw [g.ev hv, sQ]; exact Tr j
  case convert s d x => obtain ⟨v, hv, j⟩ := bz j; rw [g.ev hv, sQ]; exact NG j
  case makeInterface t x =>
    obtain ⟨v, hv, j⟩ := bz j;rw [g.ev hv, sQ];unfold Instr.makeInterface;cases G : P.underlying t with
    | none => simp only [G] at j; exact j.elim
    | some d =>
      rw [ao, aF G];cases d <;> simp only [G] at j <;> first | exact j.elim | exact j
  case makeFunc fn X ca =>
    obtain ⟨vs, ef, j⟩ := iO j;obtain ⟨us, hus, j⟩ := iO j;rw [sQ];have e1 : X.map a.eval = vs.toArray := by apply ZK.1; simpa using g.Qq ef
    have e2 : ca.map a.eval = us.toArray := by apply ZK.1; simpa using g.Qq hus
    rw [e1, e2];exact j
  case makeMap t r =>
    cases r with
    | none => rw [sQ]; exact QN j
    | some r => exact j.elim
  case makeSlice t l c =>
    obtain ⟨v, hv, j⟩ := bz j;obtain ⟨u, hu, j⟩ := bz j;rw [g.ev hv, g.ev hu, sQ];exact ma j
  case slice t x lo hi mx =>
    obtain ⟨v, hv, j⟩ := bz j;obtain ⟨vs, ef, j⟩ := iO j;have ef := g.Qq ef;rw [g.ev hv, sQ];unfold UX at j
    cases lo <;> cases hi <;> cases mx <;> simp only [Option.toList, List.nil_append, List.append_nil, List.map_cons, List.map_nil, List.cons_append] at ef <;> subst ef <;>
      first | exact j.elim | exact Jm j
  case fieldAddr s x f =>
    obtain ⟨v, hv, j⟩ := bz j;rw [g.ev hv, sQ];cases G : P.underlying s with
    | none => cases v <;> simp only [G] at j <;> exact j.elim
    | some d =>
      cases v <;> first
        | (cases d <;> simp only [G] at j <;> exact j.elim)
        | skip
      rename_i p;cases d <;> simp only [G] at j <;> first | exact j.elim | skip
      rename_i fs;cases O : fs[f]? with
      | none => simp only [O] at j; exact j.elim
      | some fd =>
        simp only [O] at j;cases hc : P.cellsOf fd.type with
        | zero => simp only [hc] at j; exact j.elim
        | succ m =>
          simp only [hc] at j;obtain ⟨q, rfl, j⟩ := gf j
          have hi : ∃ i, P.info? fd.type = some i := by
            cases hi : P.info? fd.type with
            | none => simp [Program.cellsOf, hi] at hc
            | some i => exact ⟨i, rfl⟩
          obtain ⟨i, hi⟩ := hi;unfold Instr.fieldAt;rw [ao, aF G];simp only [O];show aS P (fieldPlace q fd >>= fun y => (pure (Value.pointer (some y)) : Sem Xab)) h _;unfold fieldPlace;rw [ao, ao, cd hi, hc];exact j
  case field s x f =>
    obtain ⟨v, hv, j⟩ := bz j;rw [g.ev hv, sQ];cases G : P.underlying s with
    | none => cases v <;> simp only [G] at j <;> exact j.elim
    | some d =>
      cases v <;> first
        | (cases d <;> simp only [G] at j <;> exact j.elim)
        | skip
      rename_i cs;cases d <;> simp only [G] at j <;> first | exact j.elim | skip
      rename_i fs;cases O : fs[f]? with
      | none => simp only [O] at j; exact j.elim
      | some fd =>
        simp only [O] at j;unfold Instr.field;rw [ao, aF G];simp only [O];show aS P (part fd.type cs fd.offset) h _;exact Lw j
  case indexAddr t x i =>
    obtain ⟨v, hv, Z⟩ := bz j;obtain ⟨u, hu, J⟩ := bz Z;clear j Z;rw [g.ev hv, g.ev hu, sQ];clear hv hu;unfold xY at J;generalize G : P.underlying t = ud at J;split at J
    · rename_i p len cp k m el
      rcases fN J with ⟨_, j⟩ | ⟨V, j⟩
      · exact j.elim
      · have V : nq P el = true := by simpa using V
        obtain ⟨i, hi⟩ := Z0.1 V;obtain ⟨hb, j⟩ := j;obtain ⟨q, rfl, j⟩ := gf j;unfold Instr.indexAt;show aS P (underlying t >>= _) h _;rw [ao, aF G];show aS P (underlying t >>= _) h _;rw [ao, aF G];show aS P (if 0 <= m /\ m < len then (sizeOf el >>= fun z => (pure (Value.pointer (some (q.add (m.toNat * z)))) : Sem Xab)) else _) h _;rw [Y8 hb, ao, cd hi];exact j
    · rename_i p k m len el
      rcases fN J with ⟨_, j⟩ | ⟨V, j⟩
      · exact j.elim
      · have V : nq P el = true := by simpa using V
        obtain ⟨i, hi⟩ := Z0.1 V;obtain ⟨hb, j⟩ := j;obtain ⟨q, rfl, j⟩ := gf j;unfold Instr.indexAt;show aS P (underlying t >>= _) h _;rw [ao, aF G];show aS P (underlying t >>= _) h _;rw [ao, aF G];show aS P (if 0 <= m /\ m < len then (sizeOf el >>= fun z => (pure (Value.pointer (some (q.add (m.toNat * z)))) : Sem Xab)) else _) h _;rw [Y8 hb, ao, cd hi];exact j
    · exact J.elim
  case index t x i =>
    obtain ⟨v, hv, Z⟩ := bz j;obtain ⟨u, hu, J⟩ := bz Z;clear j Z;rw [g.ev hv, g.ev hu, sQ];clear hv hu;unfold GG at J;generalize G : P.underlying t = ud at J;split at J
    · rename_i s k m
      obtain ⟨hb, j⟩ := J;unfold Instr.index;show aS P (underlying t >>= _) h _;rw [ao, aF G]
      have hs : s[m.toNat]? = some (s.data.toList.getD m.toNat 0) := by
        have hlt : m.toNat < s.size :=ad
        have : s[m.toNat]? = some s[m.toNat] := by simp [hlt]
        rw [this]
        congr 1
        have h2 : m.toNat < s.data.toList.length := by simpa using hlt
        rw [ZV, Y1 h2] <;> rfl
      show aS P (match (if 0 <= m then s[m.toNat]? else none) with | some b => (pure (Value.int .u8 b.toNat) : Sem Xab) | none => boundsPanic k m s.size .index) h _;rw [Y8 hb.1, hs];exact j
    · exact nr J
    · exact J.elim
  case lookup t m x ok =>
    obtain ⟨v, hv, j⟩ := bz j;obtain ⟨u, hu, j⟩ := bz j;rw [g.ev hv, g.ev hu, sQ];generalize G : P.underlying t = ud at j;split at j
    · cases ok <;> simp only at j <;> exact nr j
    · exact j.elim
  case mapUpdate t m x y =>
    obtain ⟨v, hv, j⟩ := bz j;obtain ⟨u, hu, j⟩ := bz j;obtain ⟨w, hw, j⟩ := bz j;rw [g.ev hv, g.ev hu, g.ev hw, Xn];exact j
  case insert t m x y =>
    obtain ⟨v, hv, j⟩ := bz j;obtain ⟨u, hu, j⟩ := bz j;obtain ⟨w, hw, j⟩ := bz j;rw [g.ev hv, g.ev hu, g.ev hw, Xn];exact j
  case mapEntry t m x =>
    obtain ⟨v, hv, j⟩ := bz j;obtain ⟨u, hu, j⟩ := bz j;rw [g.ev hv, g.ev hu, sQ];generalize G : P.underlying t = ud at j;split at j
    · exact nr j
    · exact j.elim
  case entryStore t m x y =>
    obtain ⟨v, hv, j⟩ := bz j;obtain ⟨u, hu, j⟩ := bz j;obtain ⟨w, hw, j⟩ := bz j;rw [g.ev hv, g.ev hu, g.ev hw, Xn];exact j
  case range t x =>
    obtain ⟨v, hv, j⟩ := bz j;rw [g.ev hv, sQ];exact QA j
  case next it b =>
    obtain ⟨v, hv, j⟩ := bz j;rw [g.ev hv, sQ];generalize G : P.underlying type = ud at j;split at j
    · rename_i ts
      generalize hts : ts.toList = tl at j;cases tl with
      | nil =>
        refine dO _ _ _ _ ?_ j;rintro v h' (⟨rfl, hx⟩ | ⟨x, rfl, hx⟩)
        · exact hx
        · rw [dG] at hx; exact hx
      | cons t0 ts =>
        refine dO _ _ _ _ ?_ j;rintro v h' (⟨rfl, hx⟩ | ⟨x, rfl, hx⟩)
        · exact hx
        · rw [dG] at hx; exact hx
    · exact j.elim
  case entry it =>
    obtain ⟨v, hv, j⟩ := bz j;rw [g.ev hv, sQ];exact nr j
  case typeAssert x t d ok =>
    obtain ⟨v, hv, j⟩ := bz j;rw [g.ev hv, sQ];cases ok <;> simp only at j <;> exact nr j
  case extract x i =>
    obtain ⟨v, hv, j⟩ := bz j;rw [g.ev hv, sQ];cases v with
    | tuple vs =>
      unfold Instr.extract;show aS P (match vs[i]? with | some v => pure v | none => stuck "Extract: no such component") h _
      rw [<- an9];cases hi : vs.toList[i]? with
      | none => simp only [hi] at j; exact j.elim
      | some w => simp only [hi] at j; exact j
    | _ => exact j.elim
  case call c =>
    rw [ao];unfold resolve;cases hc : c.callee with
    | builtin b =>
      simp only [hc] at j;obtain ⟨vs, ef, j⟩ := iO j;have e1 : c.args.map a.eval = vs.toArray := by apply ZK.1; simpa using g.Qq ef
      simp only [e1];exact FK j
    | invoke r m => simp only [hc] at j; exact j.elim
    | value f =>
      simp only [hc] at j;cases htm : EQ f with
      | true =>
        simp only [htm] at j;obtain ⟨gv, hg, j⟩ := bz j;obtain ⟨vs, ef, j⟩ := iO j;have e1 : c.args.map a.eval = vs.toArray := by apply ZK.1; simpa using g.Qq ef
        simp only [e1, g.ev hg];obtain ⟨f', X, ca, rfl, j, fn, hfn, hb, hn⟩ := j
        have hbd : fL P f' = true := by
          unfold fL;rw [hfn];simp [hb, hn]
        show aS P (callFunc f' (X ++ vs.toArray ++ ca)) h _
        have e2 : (X.toList ++ vs ++ ca.toList).toArray = X ++ vs.toArray ++ ca := by
          apply ZK.1; simp
        rw [<- e2, vU hbd];refine HC.mono j ?_;rintro v h' ⟨x, rfl, hx⟩;rw [dG] at hx;exact hx
      | false =>
        simp only [htm] at j;obtain ⟨gv, hg, j⟩ := bz j;obtain ⟨vs, ef, j⟩ := iO j;have e1 : c.args.map a.eval = vs.toArray := by apply ZK.1; simpa using g.Qq ef
        simp only [e1, g.ev hg]
        obtain ⟨f, X, ca, rfl⟩ : ∃ f X ca, gv = .func (.func f) X ca := by
          cases gv with
          | func fn X ca => cases fn <;> first | exact j.elim | exact ⟨_, _, _, rfl⟩
          | _ => exact j.elim
        have := Nc (show Cs P f (X.toList ++ vs ++ ca.toList) type kk L K h from j);show aS P (callFunc f (X ++ vs.toArray ++ ca)) h _
        have e2 : (X.toList ++ vs ++ ca.toList).toArray = X ++ vs.toArray ++ ca := by
          apply ZK.1; simp
        rw [<- e2];exact this
  all_goals exact j.elim
end ops
end Go.Sx
