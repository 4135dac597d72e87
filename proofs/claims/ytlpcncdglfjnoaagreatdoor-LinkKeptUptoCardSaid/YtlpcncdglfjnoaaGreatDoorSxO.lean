/- Part of the framework. No condition. -/
import Derived.Test.YtlpcncdglfjnoaaGreatDoorSxX
set_option linter.all false
set_option maxHeartbeats 4000000
namespace Go.Sx
section sems
variable {P:Program} {h:Hp}
def fQ {α:Type} (f:Program->Sem α) (K:α->Hp->Prop):aZ P (program >>= f) h K=aZ P (f P) h K:=by
 rw [an]; rfl
variable {H:TypeId} {O:TypeDesc}
def aE (a:P.underlying H=some O) (K:TypeDesc->Hp->Prop):aZ P (underlying H) h K=K O h:=by
 unfold underlying; rw [fQ,a]; rfl
def info_of_underlying (a:P.underlying H=some O):∃ i,P.info? H=some i:=by
 unfold Program.underlying at a;cases hi:P.info? H with
 | none=>rw [hi] at a; simp at a
 | some i=>exact ⟨i,rfl⟩
variable {I:TypeInfo}
def iD (hi:P.info? H=some I) (K:TypeInfo->Hp->Prop):aZ P (typeInfo H) h K=K I h:=by
 unfold typeInfo; rw [fQ,hi]; rfl
def cJ (hi:P.info? H=some I):P.cellsOf H=I.size:=by
 simp [Program.cellsOf,hi]
def bR (hi:P.info? H=some I) (K:Nat->Hp->Prop):aZ P (sizeOf H) h K=K (P.cellsOf H) h:=by
 unfold sizeOf; rw [an,iD hi,cJ hi]; rfl
def dL {z:Xab} (a:(P.info? H).bind (·.zero)=some z) (K:Xab->Hp->Prop):aZ P (zeroValue H) h K=K z h:=by
 cases hi:P.info? H with
 | none=>rw [hi] at a; simp at a
 | some i =>
  rw [hi] at a; simp at a;unfold zeroValue; rw [an,iD hi,a]; rfl
def j7 {b:Bool} (a:cP P H=some b) (K:Bool->Hp->Prop):aZ P (isAgg H) h K=K b h:=by
 unfold cP at a;cases c:P.underlying H with
 | none=>rw [c] at a; simp at a
 | some d =>
  rw [c] at a;unfold isAgg; rw [an,aE c]
  all_goals (cases d <;> simp at a <;> subst a <;> rfl)
def uI {b:Bool} (a:cP P H=some b):∃ i,P.info? H=some i:=by
 unfold cP at a;cases c:P.underlying H with
 | none=>rw [c] at a; simp at a
 | some d=>exact info_of_underlying c
theorem nI (a:Xax):∀ (c:List Xab) (i:Nat) (b:Array Xab) (K:Array Xab->Hp->Prop),aI h a i c->K (b++c.toArray) h ->
  aZ P (loadCellsFrom a i c.length b) h K
 | [],i,b,K,_,hk=>by
  have d:K b h:=by simpa using hk
  exact d
 | v::c,i,b,K,hc,hk=>by
  simp only [List.length_cons,loadCellsFrom];rw [an];refine ⟨v,hc.1,nI a c (i+1) (b.push v) K hc.2 ?_⟩;have e:b.push v++c.toArray=b++(v::c).toArray:=by
   apply ZM.1; simp
  rw [e]; exact hk
def ef {a:Xax} {n:Nat} {b:List Xab} (hn:b.length=n) (hc:aI h a 0 b) (K:Array Xab->Hp->Prop) (hk:K b.toArray h):aZ P (loadCells a n) h K:=by
 subst hn;exact nI a b 0 #[] K hc (by simpa using hk)
theorem fX (a:Xax):∀ (b:List Xab) (h:Hp) (i:Nat) (K:Unit->Hp->Prop),zB h a i b->K () (tK h a i b)->aZ P (storeCells a b i) h K
 | [],h,i,K,_,hk=>hk
 | v::b,h,i,K,hc,hk=>by
  simp only [storeCells];rw [an];exact ⟨hc.1,hc.2.1,hc.2.2.1,fX a b _ (i+1) K hc.2.2.2 hk⟩
end sems
structure Nd where
 n:Nat
 d:List Deferred
instance:Coe Nd Nat:=⟨Nd.n⟩
structure iB (n:Nd) (e:Env) (a:Act):Prop where
 size:a.tmps.size=n.n
 defers:a.defers=n.d
 get:∀ s v,dc e s=some v->a.tmps.getD s undef=v
def iB.ev {n:Nd} {e:Env} {a:Act} (g:iB n e a) {x:Operand} {v:Xab} (b:ev e x=some v):a.eval x=v:=by
 cases x with
 | tmp t=>exact g.get t v b
 | const w=>simpa [Sx.ev,Act.eval] using b
 | global i=>simpa [Sx.ev,Act.eval] using b
 | func f=>simpa [Sx.ev,Act.eval] using b
def dP (e:Env) (s:Nat) (v:Option Xab) (t:Nat):dc ((s,v)::e) t=if s=t then v else dc e t:=by
 simp only [dc]
 by_cases h:s=t
 ·subst h; simp
 ·have:Nat.beq s t=false:=by
   cases a:Nat.beq s t
   ·rfl
   ·exact (h (Zd a)).elim
  rw [this,Y1 h]; rfl
def iB.put {n:Nd} {e:Env} {a:Act} (g:iB n e a) (dst:Option Tmp) (v:Xab):iB n (eH n e dst v) (a.put dst v):=by
 cases dst with
 | none=>exact g
 | some d =>
  refine ⟨by simp [Act.put,g.size],by simp [Act.put,g.defers],fun s u b=>?_⟩;simp only [eH] at b;cases f:Nat.blt d n with
  | true =>
   have h:d<n:=by simpa [Nat.blt_eq] using f
   rw [f] at b;simp only [cond_true,dP] at b;simp only [Act.put,Array.getD_eq_getD_getElem?,Array.getElem?_setIfInBounds]
   by_cases i:d=s
   ·subst i;rw [Y8 rfl] at b;simp at b; subst b;simp [g.size,h]
   ·rw [Y1 i] at b;rw [Y1 i]
    have:=g.get s u b
    simpa [Array.getD_eq_getD_getElem?] using this
  | false =>
   rw [f] at b;have h:¬ d<n:=by intro j; rw [<- Nat.blt_eq] at j; rw [f] at j; cases j
   have c:a.put (some d) v=a:=by
    simp only [Act.put]
    have:a.tmps.setIfInBounds d v=a.tmps:=Array.setIfInBounds_eq_of_size_le (by rw [g.size]; exact Nat.le_of_not_lt h)
    rw [this]
   rw [c];exact g.get s u b
def iB.wO {n:Nd} {e:Env} {a:Act} (g:iB n e a) {s:Nat} {v:Xab} (hv:dc e s=some v) (w:Xab) (f:w=v):iB n (eH n e (some s) w) a:=by
 subst f;refine ⟨g.size,g.defers,fun t u b=>?_⟩;simp only [eH] at b;cases c:Nat.blt s n with
 | true =>
  rw [c] at b;simp only [cond_true,dP] at b
  by_cases d:s=t
  ·subst d; rw [Y8 rfl] at b; simp at b; subst b; exact g.get s w hv
  ·rw [Y1 d] at b; exact g.get t u b
 | false=>rw [c] at b; exact g.get t u b
section trees
variable {L:Lp} {K:Xab->Hp->Prop} {h:Hp}
def bJ {e:Env} {x:Operand} {k:Xab->T} (a:cg e x k L K h):∃ v,ev e x=some v/\k v L K h:=by
 unfold cg at a;cases b:ev e x with
 | none=>rw [b] at a; exact a.elim
 | some v=>rw [b] at a; exact ⟨v,rfl,a⟩
theorem ju {e:Env}:∀ {c:List Operand} {k:List Xab->T},ja e c k L K h->∃ b,c.map (ev e)=b.map some/\k b L K h
 | [],k,a=>⟨[],rfl,a⟩
 | x::c,k,a=>by
  obtain ⟨v,hv,a⟩:=bJ a;obtain ⟨b,eA,a⟩:=ju a;exact ⟨v::b,by simp [hv,eA],a⟩
theorem iB.RG {n:Nd} {e:Env} {a:Act} (g:iB n e a):∀ {c:List Operand} {d:List Xab},c.map (Sx.ev e)=d.map some->c.map a.eval=d
 | [],[],_=>rfl
 | x::c,v::d,b=>by
  simp only [List.map_cons,List.cons.injEq] at b;simp only [List.map_cons,g.ev b.1,g.RG b.2]
 | [],v::d,b=>by simp at b
 | x::c,[],b=>by simp at b
def gV {p:Xac} {k:Xax->T} (b:T.aR p k L K h):∃ a,p=some a/\k a L K h:=by
 cases p with
 | none=>exact b.elim
 | some a=>exact ⟨a,rfl,b⟩
def gw {b:Bool} {t u:T} (a:(cond b t u) L K h):(b=true/\t L K h)\/(b=false/\u L K h):=by
 cases b
 ·exact .inr ⟨rfl,a⟩
 ·exact .inl ⟨rfl,a⟩
end trees
section ops
variable {P:Program} {L:Lp} {K:Xab->Hp->Prop} {h:Hp}
def uF {s:Sem Xab} {R:Xab->Hp->Prop}:aZ P (do pure (Next.value (<- s))) h (Dy P R)=aZ P s h R:=by
 rw [an]; rfl
def XA {s:Sem Unit} {R:Xab->Hp->Prop}:aZ P (do s; pure Next.skip) h (Dy P R)=aZ P s h (fun _ h'=>R undef h'):=by
 rw [an]; rfl
variable {U:Bool}
def oM {s:Sem Xab} {cs:List ey} {a:Xab->T} (c:T.eN P s U cs (jW _ fun l=>a (rv U cs l)) L K h) :
  aZ P s h (fun v h'=>a v L K h'):=by
 refine ek _ _ _ _ ?_ c;rintro v h' ⟨x,rfl,b⟩;rw [dX] at b;exact b
variable {H I:TypeId}
def nL {s:Sem Xab} {a:Xab->T} (b:T.eN P s false [(false,[.slice H])] (fun p l c=>a (.slice p l c)) L K h) :
  aZ P s h (fun v h'=>a v L K h'):=by
 refine ek _ _ _ _ ?_ b;rintro v h' ⟨x,rfl,d⟩;exact d
def Sp {s:Sem Xab} {a:Xab->T} (c:T.eN P s false [(false,[.bool])] (fun b=>a (.bool b)) L K h):aZ P s h (fun v h'=>a v L K h'):=by
 refine ek _ _ _ _ ?_ c;rintro v h' ⟨x,rfl,d⟩;exact d
def Ek {s:Sem Xab} {a:Xab->T} (c:T.eN P s false [(false,[.int .i64])] (fun b=>a (.int .i64 b)) L K h):aZ P s h (fun v h'=>a v L K h'):=by
 refine ek _ _ _ _ ?_ c;rintro v h' ⟨x,rfl,d⟩;exact d
def Ra {s:Sem Xab} {a:Xab->T} (c:T.eN P s false [(false,[.string])] (fun b=>a (.string b)) L K h):aZ P s h (fun v h'=>a v L K h'):=by
 refine ek _ _ _ _ ?_ c;rintro v h' ⟨x,rfl,d⟩;exact d
def R2 {s:Sem Xab} {c:Xab->T} (d:T.eN P s false [(false,[.map H I])] (fun I=>c (.map I)) L K h):aZ P s h (fun v h'=>c v L K h'):=by
 refine ek _ _ _ _ ?_ d;rintro v h' ⟨x,rfl,e⟩;exact e
def RR {s:Sem Xab} {c:Xab->T} (d:T.eN P s false [(false,[.pointer H])] (fun b=>c (.pointer b)) L K h):aZ P s h (fun v h'=>c v L K h'):=by
 refine ek _ _ _ _ ?_ d;rintro v h' ⟨x,rfl,e⟩;exact e
def Qw {s:Sem Xab} {a:T} (b:T.eN P s true [] a L K h):aZ P s h (fun v h'=>v=.tuple #[]/\a L K h'):=by
 refine ek _ _ _ _ ?_ b;rintro v h' ⟨x,rfl,c⟩;exact ⟨rfl,c⟩
variable {V:IntKind} {Y c:Int}
def QL {op : BinOp} {b : Xab -> T} (d : nY op = false) (t : TypeId) (a : IW op V Y c b L K h) :
    aZ P (binOp op t (.int V Y) (.int V c)) h (fun v h' => b v L K h') := by
  cases op <;> simp only [nY, Bool.true_eq_false] at d <;> simp only [IW] at a <;>
    first
    | exact a.elim
    | (simp only [binOp, Op.intArith, Op.intDiv, Op.intBits, Op.intCmp, ne_eq, not_true_eq_false, if_false]; exact a)
    | (obtain ⟨h0, a⟩ := a
       simp only [binOp, Op.intDiv, ne_eq, not_true_eq_false, if_false, if_neg h0]; exact a)
def Mo {op:BinOp} {k':IntKind} {b:Xab->T} (d:nY op=true) (t:TypeId) (a:AX op V Y c b L K h) :
  aZ P (binOp op t (.int V Y) (.int k' c)) h (fun v h'=>b v L K h'):=by
 cases op <;> simp only [nY,Bool.false_eq_true] at d <;> simp only [AX] at a <;> obtain ⟨h0,a⟩:=a <;>
  simp only [binOp,Op.shift,if_neg (Int.not_lt.2 h0)] <;> exact a
def SX {op : BinOp} {m n : Xaa} {b : Xab -> T} (t : TypeId) (a : IQ op m n b L K h) :
    aZ P (binOp op t (.string m) (.string n)) h (fun v h' => b v L K h') := by
  cases op <;> simp only [IQ] at a <;>
    first
    | exact a.elim
    | (simp only [binOp, Op.stringOp]; exact a)
    | (obtain ⟨h0, a⟩ := a
       simp only [binOp, Op.stringOp, if_neg (Int.not_lt.2 h0)]; exact a)
def CK:Xab->Bool
 | .nilIface=>false
 | .agg _=>false
 | _=>true
variable {O Z:Operand}
def gW {op:BinOp} {a b:Xab} (c:CK a=true) {R:Xab->Hp->Prop} :
  aZ P (do eqGuard op H O Z a b; binOp op H a b) h R=aZ P (binOp op H a b) h R:=by
 rw [an]
 have:∀ K:Unit->Hp->Prop,aZ P (eqGuard op H O Z a b) h K=K () h:=by
  intro K;cases op <;> first | rfl | (cases a <;> first | (simp [CK] at c; done) | rfl)
 rw [this]
def Is (a:P.underlying H=some .bool) (m n:Bool) (R:Bool->Hp->Prop):aZ P (Op.equal H (.bool m) (.bool n)) h R=R (m==n) h:=by
 show aZ P (Op.equalIn (9999+1) H (.bool m) (.bool n)) h R=_;unfold Op.equalIn;rw [an,aE a]; rfl
def Cy (a:P.underlying H=some (.pointer I)) (p:Xac) (R:Bool->Hp->Prop):aZ P (Op.equal H (.pointer p) (.pointer none)) h R=R p.isNone h:=by
 show aZ P (Op.equalIn (9999+1) H (.pointer p) (.pointer none)) h R=_;unfold Op.equalIn;rw [an,aE a]; cases p <;> rfl
def zL (a:P.underlying H=some (.slice I)) (p:Xac) (l c:Nat) (R:Bool->Hp->Prop):aZ P (Op.equal H (.slice p l c) (.slice none 0 0)) h R=R p.isNone h:=by
 show aZ P (Op.equalIn (9999+1) H (.slice p l c) (.slice none 0 0)) h R=_;unfold Op.equalIn;rw [an,aE a]; cases p <;> rfl
def Co {b:TypeId} (c:P.underlying H=some (.map I b)) (p:Option Nat) (R:Bool->Hp->Prop):aZ P (Op.equal H (.map p) (.map none)) h R=R p.isNone h:=by
 show aZ P (Op.equalIn (9999+1) H (.map p) (.map none)) h R=_;unfold Op.equalIn;rw [an,aE c]; cases p <;> rfl
def wK {op:BinOp} {a b:Xab} {d:Xab->T}
  (e:∀ R:Bool->Hp->Prop,aZ P (Op.equal H a b) h R=R U h)
  (h1:binOp .eql H a b=(do pure (.bool (<- Op.equal H a b)))) (h2:binOp .neq H a b=(do pure (.bool (!(<- Op.equal H a b)))))
  (c:asked op U d T.fail L K h):aZ P (binOp op H a b) h (fun v h'=>d v L K h'):=by
 cases op <;> simp only [asked] at c <;> first
  | exact c.elim
  | (rw [h1,an,e]; exact c)
  | (rw [h2,an,e]; exact c)
def SZ {op:BinOp} {a b:Xab} {c:Xab->T} (d:Qv P op H O Z a b c L K h) :
  aZ P (do eqGuard op H O Z a b; binOp op H a b) h (fun v h'=>c v L K h'):=Sp d
variable {a:Env}
def RU {op:BinOp} {f b:Xab} {A:Xab->T} (s:ev a Z=some b)
  (g:EF P op H O Z f b A L K h):aZ P (do eqGuard op H O Z f b; binOp op H f b) h (fun v h'=>A v L K h'):=by
 have u:∀ q,b=.pointer q->isNil Z=true->q=none:=by
  intro q w hn;cases Z <;> simp only [isNil,Bool.false_eq_true] at hn;rename_i c;simp only [Sx.ev,Option.some.injEq] at s;subst s; subst w;cases q with
  | none=>rfl
  | some f=>simp [isNil] at hn
 have o:∀ q l c,b=.slice q l c->isNil Z=true->q=none/\l=0/\c=0:=by
  intro q l c w hn;cases Z <;> simp only [isNil,Bool.false_eq_true] at hn;rename_i c;simp only [Sx.ev,Option.some.injEq] at s;subst s; subst w;cases q with
  | none =>
   cases l <;> cases c <;> simp [isNil] at hn <;> exact ⟨rfl,rfl,rfl⟩
  | some f=>simp [isNil] at hn
 have r:∀ q,b=.map q->isNil Z=true->q=none:=by
  intro q w hn;cases Z <;> simp only [isNil,Bool.false_eq_true] at hn;rename_i c;simp only [Sx.ev,Option.some.injEq] at s;subst s; subst w;cases q with
  | none=>rfl
  | some f=>simp [isNil] at hn
 unfold EF at g;cases j:tz P H O Z with
 | false=>simp only [j] at g; exact SZ g
 | true =>
 simp only [j] at g;unfold uG at g;split at g
 ·rename_i k m k' n;rw [gW rfl];cases z:nY op with
  | true=>simp only [z] at g; exact Mo z H g
  | false =>
   simp only [z] at g
   by_cases hk:k=k'
   ·subst hk;simp only [decide_true] at g;exact QL z H g
   ·simp only [hk,decide_false] at g;exact g.elim
 ·rw [gW rfl]; exact SX H g
 ·rename_i m n;rw [gW rfl];cases i:P.underlying H with
  | none=>simp only [i] at g; exact g.elim
  | some d =>
   cases d <;> simp only [i] at g <;> first
    | exact g.elim
    | exact wK (fun R=>Is i m n R) rfl rfl g
 ·rename_i p q;cases i:P.underlying H with
  | none=>simp only [i] at g; exact g.elim
  | some d =>
   cases d <;> simp only [i] at g <;> first
    | exact g.elim
    | skip
   have hn:isNil Z=true:=by simpa [tz,i] using j
   obtain rfl:=u q rfl hn;rw [gW rfl]; exact wK (fun R=>Cy i p R) rfl rfl g
 ·rename_i p l c q l' c';cases i:P.underlying H with
  | none=>simp only [i] at g; exact g.elim
  | some d =>
   cases d <;> simp only [i] at g <;> first
    | exact g.elim
    | skip
   have hn:isNil Z=true:=by simpa [tz,i] using j
   obtain ⟨rfl,rfl,rfl⟩:=o q _ _ rfl hn;rw [gW rfl]; exact wK (fun R=>zL i p l c R) rfl rfl g
 ·rename_i p q;cases i:P.underlying H with
  | none=>simp only [i] at g; exact g.elim
  | some d =>
   cases d <;> simp only [i] at g <;> first
    | exact g.elim
    | skip
   have hn:isNil Z=true:=by simpa [tz,i] using j
   obtain rfl:=r q rfl hn;rw [gW rfl]; exact wK (fun R=>Co i p R) rfl rfl g
 ·exact g.elim
def Ur {op:UnOp} {a:Xab} {c:Xab->T} (b:VE op a c L K h):aZ P (Op.unary op a) h (fun v h'=>c v L K h'):=by
 unfold VE at b;split at b
 ·exact b
 ·exact b
 ·exact b
 ·exact b.elim
def O3 {a:Xab} {c:Xab->T} (b:yX P H I a c L K h):aZ P (convert H I a) h (fun v h'=>c v L K h'):=by
 unfold yX at b;generalize e:P.underlying H=us at b;generalize f:P.underlying I=g at b;split at b
 ·unfold convert;rw [an,aE e,an,aE f];exact b
 ·unfold convert;rw [an,aE e,an,aE f];exact b
 ·exact b.elim
 ·exact nL b
 ·exact Ra b
 ·exact b.elim
def eZ (y:Nat) (a:BoundsCode) {v:Xab} (hv:v=.int V Y) (h0:0<=Y) (h1:Y<=y) (R:Nat->Hp->Prop) :
  aZ P (Instr.sliceBound v y a) h R=R Y.toNat h:=by
 subst hv;unfold Instr.sliceBound;rw [an];show aZ P (if 0<=Y/\Y<=↑y then pure Y.toNat else boundsPanic V Y ↑y a) h R=_;rw [Y8 ⟨h0,h1⟩]; rfl
def sB {v:Xab} (hv:eU (some v)=true):∃ k i,v=.int k i:=by
 cases v <;> simp only [eU,Bool.false_eq_true] at hv;exact ⟨_,_,rfl⟩
def oW (isSlice:Bool) (len cap:Nat) {lo hi:Option Xab} (f:eU lo=true) (g:eU hi=true)
  (h0:0<=kT lo) (h1:kT lo<=lz len hi) (h2:lz len hi<=cap) (R:Nat × Nat × Nat->Hp->Prop) :
  aZ P (Instr.sliceBounds isSlice len cap lo hi none) h R=R ((kT lo).toNat,(lz len hi).toNat,cap) h:=by
 unfold Instr.sliceBounds;cases hi with
 | none =>
  cases lo with
  | none=>rfl
  | some v =>
   obtain ⟨k,i,rfl⟩:=sB f;have a:0<=i:=h0;have b:i<=len:=h1;show aZ P (Instr.sliceBound (.int k i) len _ >>= fun l=>pure (l,len,cap)) h R=_;rw [an,eZ len _ rfl a b]; rfl
 | some u =>
  obtain ⟨ku,iu,rfl⟩:=sB g;have c:(0:Int)<=iu:=Int.le_trans h0 h1;cases lo with
  | none =>
   show aZ P (Instr.sliceBound (.int ku iu) cap _ >>= fun e=>pure (0,e,cap)) h R=_;have d:iu<=cap:=h2;rw [an,eZ cap _ rfl c d]; rfl
  | some v =>
   obtain ⟨k,i,rfl⟩:=sB f;show aZ P (Instr.sliceBound (.int ku iu) cap _ >>= fun e=>Instr.sliceBound (.int k i) e _ >>= fun l=>pure (l,e,cap)) h R=_;have a:0<=i:=h0;have b:i<=iu:=h1;have d:iu<=cap:=h2;rw [an,eZ cap _ rfl c d,an,eZ _ _ rfl a (by rw [Int.toNat_of_nonneg c]; exact b)]; rfl
def KJ {a:Xab} {lo hi e:Option Xab} {j:Xab->T} (b:jx P H a lo hi e j L K h) :
  aZ P (Instr.sliceAt H a lo hi e) h (fun v h'=>j v L K h'):=by
 unfold jx at b;cases hint:eU lo && eU hi && eU e with
 | false=>simp only [hint] at b; exact b.elim
 | true =>
  simp only [hint] at b;simp only [Bool.and_eq_true] at hint;obtain ⟨⟨k,l⟩,o⟩:=hint;cases c:P.underlying H with
  | none=>simp only [c] at b; exact nL b
  | some d =>
   cases d <;> simp only [c] at b <;> first | exact nL b | skip
   case string =>
    cases e with
    | some m=>cases a <;> exact b.elim
    | none =>
    cases a <;> first | exact b.elim | skip
    rename_i s;obtain ⟨⟨h0,h1,h2⟩,b⟩:=b;unfold Instr.sliceAt;rw [an,aE c];show aZ P (Instr.slice H (.string s) lo hi none) h _;unfold Instr.slice;rw [an,aE c];show aZ P (Instr.sliceBounds false s.size s.size lo hi none >>= fun x=>(pure (Value.string (s.extract x.1 x.2.1)):Sem Xab)) h _;rw [an,oW false _ _ k l h0 h1 h2];exact b
   case slice n =>
    cases e with
    | some m=>exact nL b
    | none =>
    cases a <;> first | exact b.elim | skip
    rename_i p len cap;simp only at b;cases f:oK P n with
    | false=>simp only [f] at b; exact b.elim
    | true =>
     simp only [f] at b;obtain ⟨⟨h0,h1,h2⟩,b⟩:=b;obtain ⟨i,g⟩:=ZZ.1 f;unfold Instr.sliceAt;rw [an,aE c];show aZ P (Instr.slice H (.slice p len cap) lo hi none) h _;unfold Instr.slice;rw [an,aE c];show aZ P (Instr.sliceBounds true len cap lo hi none >>= fun x=>sizeOf n >>= fun size=>(pure (Value.slice (if x.2.2=x.1 then p else p.map (·.add (x.1*size))) (x.2.1-x.1) (x.2.2-x.1)):Sem Xab)) h _;rw [an,oW true _ _ k l h0 h1 h2,an,bR g];exact b
def M1 {cs:Array Xab} {off:Nat} {e:Xab->T} (a:uK P H cs.toList off e L K h) :
  aZ P (part H cs off) h (fun v h'=>e v L K h'):=by
 have f:∀ n,((cs.toList.drop off).take n).toArray=cs.extract off (off+n):=by
  intro n;apply ZM.1;simp [Array.toList_extract,List.extract_eq_drop_take]
 unfold uK at a;generalize c:P.underlying H=k at a;split at a
 ·obtain ⟨i,hi⟩:=info_of_underlying c;unfold part;rw [an,j7 (b:=true) (by simp [cP,c])];show aZ P (sizeOf H >>= fun n=>(pure (Value.agg (cs.extract off (off+n))):Sem Xab)) h _;rw [an,bR hi,<- f];exact a
 ·obtain ⟨i,hi⟩:=info_of_underlying c;unfold part;rw [an,j7 (b:=true) (by simp [cP,c])];show aZ P (sizeOf H >>= fun n=>(pure (Value.agg (cs.extract off (off+n))):Sem Xab)) h _;rw [an,bR hi,<- f];exact a
 ·rename_i d g j;unfold part;rw [an,j7 (b:=false) (by simp only [cP,c])];show aZ P (match cs[off]? with | some v => pure v | none => stuck "part: no such cell") h _
  rw [<- an9];cases hv:cs.toList[off]? with
  | none=>simp only [hv] at a; exact a.elim
  | some v=>simp only [hv] at a; exact a
 ·exact a.elim
variable {d:FuncId}
def xC (a:gp P d=true) (args:Array Xab) (R:Next->Hp->Prop):aZ P (callFunc d args) h R=R (.enter d args) h:=by
 unfold gp at a;unfold callFunc;rw [fQ];cases b:P.funcs[d]? with
 | none=>rw [b] at a; simp at a
 | some fn =>
  rw [b] at a;simp only [Bool.and_eq_true,Bool.not_eq_true'] at a;obtain ⟨h1,h2⟩:=a;have c:fn.body.isNone=false:=by cases e:fn.body <;> simp_all
  simp only [h2,c]; rfl
def OC {args:List Xab} {e:Xab->T} (a:DD P d args H e L K h) :
  aZ P (callFunc d args.toArray) h (Dy P fun v h'=>e v L K h'):=by
 unfold DD at a;cases c:gp P d with
 | false =>
  simp only [c] at a
  have:=oM a
  unfold IZ at this;rw [an] at this;refine ek _ _ _ _ ?_ this;intro x h' b;cases x <;> first | exact b | exact b.elim
 | true =>
  simp only [c] at a;rw [xC c];refine HC.mono a ?_;rintro v h' ⟨x,rfl,b⟩;rw [dX] at b;exact b
variable {b:Call}
def Re {args:List Xab} {i:Xab->T} (a:AG P b H args i L K h) :
  aZ P (Builtin.len_ b.argTypes H args.toArray) h (fun v h'=>i v L K h'):=by
 unfold AG at a;cases g:(b.argTypes[0]?).bind P.underlying with
 | none=>simp only [g] at a; exact Ek a
 | some d =>
  obtain ⟨j,e,f⟩:=YX.1 g;cases d <;> simp only [g] at a <;> first | exact Ek a | skip
  case string =>
   split at a
   ·unfold Builtin.len_;simp only [e];show aZ P (underlying j >>= _) h _;rw [an,aE f];exact a
   ·exact a.elim
  case slice k =>
   split at a
   ·unfold Builtin.len_;simp only [e];show aZ P (underlying j >>= _) h _;rw [an,aE f];exact a
   ·exact a.elim
def Q4 {args:List Xab} {i:Xab->T} (a:La P b args i L K h) :
  aZ P (Builtin.cap_ b.argTypes H args.toArray) h (fun v h'=>i v L K h'):=by
 unfold La at a;cases e:(b.argTypes[0]?).bind P.underlying with
 | none=>simp only [e] at a; exact a.elim
 | some d =>
  obtain ⟨j,f,g⟩:=YX.1 e;cases d <;> simp only [e] at a <;> first | exact a.elim | skip
  split at a
  ·unfold Builtin.cap_;simp only [f];show aZ P (underlying j >>= _) h _;rw [an,aE g];exact a
  ·exact a.elim
inductive lQ:List (Nat × Xab)->List (Nat × List Xab)->Prop
 | nil:lQ [] []
 | cons {i:Nat} {v:Xab} {l:List Xab} {ps:List (Nat × Xab)} {r:List (Nat × List Xab)} (h:v.cells.toList=l) (t:lQ ps r):lQ ((i,v)::ps) ((i,l)::r)
def LG {v:Xab} (h:fw v=true):v.cells.toList=ka v:=by
 cases v <;> first | rfl | (simp [fw] at h)
def zp {v:Xab} (h:fw v=false):v.cells.toList=[v]:=by
 cases v <;> first | rfl | (simp [fw] at h)
theorem tV {agg:Nat->Option Bool}:∀ {ps:List (Nat × Xab)} {k:List (Nat × List Xab)->T},fK agg ps k L K h->∃ r,lQ ps r/\k r L K h
 | [],k,a=>⟨[],.nil,a⟩
 | (i,v)::l,k,a=>by
  simp only [fK] at a;cases d:agg i with
  | none=>rw [d] at a; exact a.elim
  | some b =>
   rw [d] at a;cases b with
   | true =>
    rcases gw a with ⟨hv,a⟩ | ⟨_,a⟩
    ·obtain ⟨r,c,hk⟩:=tV a;exact ⟨_,.cons (LG hv) c,hk⟩
    ·exact a.elim
   | false =>
    rcases gw a with ⟨_,a⟩ | ⟨hv,a⟩
    ·exact a.elim
    ·obtain ⟨r,c,hk⟩:=tV a;exact ⟨_,.cons (zp hv) c,hk⟩
theorem AF:∀ (l:List Xab) (off k:Nat) (cs:Array Xab),((l.zipIdx k).foldl (fun (cs:Array Xab) (x:Xab × Nat)=>cs.setIfInBounds (off+x.2) x.1) cs)=(uy cs.toList (off+k) l).toArray
 | [],off,k,cs=>by simp [uy]
 | v::l,off,k,cs=>by
  rw [List.zipIdx_cons,ZD,AF l off (k+1)];simp only [uy,Array.toList_setIfInBounds] <;> rfl
def Em {place:Nat->Option (Nat × Nat)} {ps:List (Nat × Xab)} {r:List (Nat × List Xab)} (hc:lQ ps r):∀ {c cs:List Xab},fV place c r=some cs->Instr.fill place c.toArray ps=some cs.toArray:=by
 induction hc with
 | nil=>intro c cs h; simp [fV] at h; subst h; rfl
 | @cons i v l ps r hv _ d =>
  intro c cs h;unfold fV at h;unfold Instr.fill;split at h
  ·cases h
  ·rename_i off size f;rw [f];simp only;have g:v.cells.size=l.length:=by rw [<- hv,ab9]
   cases a:!(Nat.beq l.length size) || Nat.blt c.length (off+l.length) with
   | true=>rw [a] at h; cases h
   | false =>
    rw [a] at h;simp only [Bool.or_eq_false_iff,Bool.not_eq_false'] at a;have h1:l.length=size:=Zd a.1;have h2:¬ c.length<off+l.length:=fun b=>by
     have:=Nat.ble_eq_true_of_le b
     rw [show Nat.blt c.length (off+l.length)=Nat.ble (c.length+1) (off+l.length) from rfl,this] at a;exact absurd a.2 aj
    rw [Y1 (by simp [g,h1]; omega)];have e:v.cells.zipIdx.foldl (fun cs (x:Xab × Nat)=>cs.setIfInBounds (off+x.2) x.1) c.toArray=(uy c off l).toArray:=by
     rw [<- Array.foldl_toList,Array.toList_zipIdx,hv];exact AF l off 0 c.toArray
    have:=d h
    rw [<- e] at this;exact this
def G1 {a:Builtin} {args:List Xab} {f:Array Bool} {g:Xab->T} (d:tk P a b H args g L K h) :
  aZ P (builtin a b.argTypes H f args.toArray) h (Dy P fun v h'=>g v L K h'):=by
 unfold tk at d;split at d
 ·show aZ P (do pure (Next.value (<- Builtin.len_ b.argTypes H args.toArray))) h _;rw [uF]; exact Re d
 ·show aZ P (do pure (Next.value (<- Builtin.cap_ b.argTypes H args.toArray))) h _;rw [uF]; exact Q4 d
 ·show aZ P (do pure (Next.value (<- Builtin.append_ b.argTypes H args.toArray))) h _;rw [uF]; exact nL d
 ·show aZ P (do pure (Next.value (<- Builtin.copy_ b.argTypes H args.toArray))) h _;rw [uF]; exact Ek d
 ·show aZ P (do pure (Next.value (<- Builtin.min_ b.argTypes H args.toArray))) h _;rw [uF]; exact oM d
 ·show aZ P (do pure (Next.value (<- Builtin.max_ b.argTypes H args.toArray))) h _;rw [uF]; exact oM d
 ·show aZ P (do pure (Next.value (<- Builtin.delete_ b.argTypes H args.toArray))) h _;rw [uF];exact ek _ _ _ _ (fun v h' ⟨e,hk⟩=>by subst e; exact hk) (Qw d)
 ·show aZ P (do pure (Next.value (<- Builtin.unsafeString_ b.argTypes H args.toArray))) h _;rw [uF]; exact oM d
 ·show aZ P (do pure (Next.value (<- Builtin.unsafeSliceData_ b.argTypes H args.toArray))) h _;rw [uF]; exact oM d
 ·exact d.elim
def P8 {b:List Xab} {c:Xab->T} (d:T.new b H (fun a=>c (.pointer (some a))) L K h) {cs:Array Xab} (hv:cs=b.toArray) :
  aZ P (do pure (Value.pointer (some (<- newRow H cs)))) h (fun v h'=>c v L K h'):=by
 subst hv;exact d
def C3 {n:Nat} {t:TypeId} {p:Xac} {kk:Xax->List Xab->Xab->T} (f:cP P t=some U)
  (c:(match U with
   | true=>(bif (fB P 9 t).length==P.cellsOf t then T.aR p fun a=>T.af a (fB P 9 t) (jW _ fun l=>kk a l (.agg l.toArray)) else T.fail)
   | false=>T.aR p fun a=>T.af a (cM P t).2 (jW _ fun l=>kk a l (l.headD undef))) L K h) :
  ∃ a l v,p=some a/\aI h a 0 l/\kk a l v L K h/\∀ h' (R:Xab->Hp->Prop),aI h' a 0 l->R v h'->aZ P (Instr.loadAt t (.pointer p)) h' R:=by
 obtain ⟨i,hi⟩:=uI f;cases U with
 | true =>
  simp only at c;cases hl:(fB P 9 t).length==P.cellsOf t with
  | false=>rw [hl] at c; exact c.elim
  | true =>
   rw [hl] at c;have j:(fB P 9 t).length=P.cellsOf t:=by simpa using hl
   obtain ⟨a,rfl,c⟩:=gV c;obtain ⟨x,hc,c⟩:=c;rw [dX] at c;refine ⟨a,eA _ x,_,rfl,hc,c,fun h' R e hk=>?_⟩;unfold Instr.loadAt;show aZ P (loadVar t a) h' R;unfold loadVar;rw [an,j7 f];show aZ P (sizeOf t >>= fun n=>loadCells a n >>= fun cs=>(pure (Value.agg cs):Sem Xab)) h' R;rw [an,bR hi,an];exact ef (by rw [vT,j]) e _ hk
 | false =>
  simp only at c;obtain ⟨a,rfl,c⟩:=gV c;obtain ⟨x,hc,c⟩:=c;rw [dX] at c;have h1:∃ d,(cM P t).2=[d]:=by
   unfold cP at f;unfold cM;cases g:P.underlying t with
   | none=>rw [g] at f; simp at f
   | some d=>rw [g] at f; cases d <;> simp at f <;> exact ⟨_,rfl⟩
  obtain ⟨d,g⟩:=h1;refine ⟨a,eA _ x,_,rfl,hc,c,fun h' R e hk=>?_⟩;revert x;rw [g];intro x hc c e hk;unfold Instr.loadAt;show aZ P (loadVar t a) h' R;unfold loadVar;rw [an,j7 f];have hc0:=e.1
  have:a.add 0=a:=by simp [Addr.add]
  rw [this] at hc0;exact ⟨_,hc0,hk⟩
variable {e:Nd} {f:Act}
def ND (g : iB e a f) {i : Xax -> List Xab -> Xab -> T} (c : sW P H O a i L K h) :
    ∃ p l v, ev a O = some (.pointer (some p)) /\ aI h p 0 l /\ i p l v L K h /\ ∀ h' (R : Xab -> Hp -> Prop), aI h' p 0 l -> R v h' -> aZ P (Instr.loadAt H (.pointer (some p))) h' R := by
  unfold sW at c;obtain ⟨v, hv, c⟩ := bJ c;cases j : cP P H with
  | none => cases v <;> simp only [j] at c <;> exact c.elim
  | some b =>
    cases v <;> first
      | (cases b <;> simp only [j] at c <;> exact c.elim)
      | (rename_i p
         have k : (match b with
            | true => (bif (fB P 9 H).length == P.cellsOf H then T.aR p fun f => T.af f (fB P 9 H) (jW _ fun l => i f l (.agg l.toArray)) else T.fail)
            | false => T.aR p fun f => T.af f (cM P H).2 (jW _ fun l => i f l (l.headD undef))) L K h := by
            cases b <;> simp only [j] at c <;> exact c
         obtain ⟨q, l, v, rfl, hc, hk, d⟩ := C3 (n := e) j k;exact ⟨q, l, v, hv, hc, hk, d⟩)
def Ij {o : Oper} (g : iB e a f) {kk : Xab -> T} (A : wj P o a kk L K h) :
    Xx P o f.eval h (fun v h' => kk v L K h') := by
  obtain ⟨dst, op, V, pos, after, guard⟩ := o;unfold Xx;cases op <;> simp only [wj] at A <;> unfold execOp <;> simp only
  case move x => obtain ⟨v, hv, A⟩ := bJ A; rw [g.ev hv]; exact A
  case assign x => obtain ⟨v, hv, A⟩ := bJ A; rw [g.ev hv]; exact A
  case pick c x y =>
    obtain ⟨v, hv, A⟩ := bJ A;rw [g.ev hv]
    cases v <;> simp only at A <;> first
      | exact A.elim
      | (rename_i b
         rw [an];show aZ P (pure b) h _;cases b
         · obtain ⟨w, O, A⟩ := bJ (show cg a y kk L K h from A); rw [g.ev O]; exact A
         · obtain ⟨w, O, A⟩ := bJ (show cg a x kk L K h from A); rw [g.ev O]; exact A)
  case alloc t =>
    cases W : (P.info? t).bind (·.zero) with
    | none => simp only [W] at A; exact A.elim
    | some z =>
      simp only [W] at A;rw [uF];unfold Instr.alloc;rw [an, dL W];exact P8 A aj
  case box t x =>
    obtain ⟨v, hv, A⟩ := bJ A;rw [g.ev hv, uF];unfold Instr.box newVar;cases G : cP P t with
    | none => simp only [G] at A; exact A.elim
    | some b =>
      cases b <;> simp only [G] at A <;> rcases gw A with ⟨hv, A⟩ | ⟨hv, A⟩ <;> first
        | exact A.elim
        | (refine P8 A ?_
           cases v <;> first | (simp [fw] at hv; done) | simp [Value.cells, ka])
  case build t ps =>
    obtain ⟨vs, eA, A⟩ := ju A;have eA := g.RG eA
    have Q : (ps.map fun x => (x.1, f.eval x.2)).toList = (ps.toList.map (·.1)).zip vs := by
      rw [<- eA];simp only [Array.toList_map];generalize ps.toList = l
      induction l with
      | nil => rfl
      | cons p l ih => simp [ih]
    rw [uF];unfold Instr.build;rw [an];cases W : (P.info? t).bind (·.zero) with
    | none =>
      generalize P.underlying t = ud at A;cases ud with
      | none => simp only [W] at A; exact A.elim
      | some d => cases d <;> simp only [W] at A <;> exact A.elim
    | some z =>
      rw [dL W];show aZ P (underlying t >>= _) h _;cases B : P.underlying t with
      | none => simp only [B] at A; exact A.elim
      | some d =>
        rw [an, aE B];cases d <;> simp only [B, W] at A <;> first | exact A.elim | skip
        case array len S =>
          rcases gw A with ⟨_, A⟩ | ⟨H, A⟩
          · exact A.elim
          · have H : oK P S = true := by simpa using H
            obtain ⟨i, hi⟩ := ZZ.1 H;simp only;rw [an, bR hi];have F : (Array.map (fun x => (x.1, f.eval x.2)) ps).toList = (ps.toList.map (·.1)).zip vs := Q;obtain ⟨ls, X, A⟩ := tV A;cases E : fV (fun i => some (i * P.cellsOf S, P.cellsOf S)) z.cells.toList ls with
            | none => simp only [E] at A; exact A.elim
            | some cs =>
              simp only [E] at A;rw [F, Em X E];exact A
        case struct U =>
          rcases gw A with ⟨_, A⟩ | ⟨H, A⟩
          · exact A.elim
          · have H : (U.all fun j => oK P j.type) = true := by simpa using H
            simp only;rw [an]
            have hm : ∀ R : Array (Nat × Nat) -> Hp -> Prop, aZ P (U.mapM fun j => do pure (j.offset, <- sizeOf j.type)) h R = R (U.map fun j => (j.offset, P.cellsOf j.type)) h := by
              intro R;rw [Array.mapM_eq_mapM_toList]
              have hT' : ∀ j ∈ U.toList, oK P j.type = true := by
                intro j E; exact (Array.all_eq_true_iff_forall_mem.1 H) j (by simpa using E)
              have : ∀ (l : List Field) (R : List (Nat × Nat) -> Hp -> Prop), (∀ j ∈ l, oK P j.type = true) ->
                  aZ P (l.mapM fun j => (do pure (j.offset, <- sizeOf j.type) : Sem (Nat × Nat))) h R = R (l.map fun j => (j.offset, P.cellsOf j.type)) h := by
                intro l
                induction l with
                | nil => intro R _; rfl
                | cons j l ih =>
                  intro R hl;obtain ⟨i, hi⟩ := ZZ.1 (hl j aj);rw [List.mapM_cons, an, an, bR hi];show aZ P ((l.mapM fun j => (do pure (j.offset, <- sizeOf j.type) : Sem (Nat × Nat))) >>= _) h R = _;rw [an, ih _ (fun j E => hl j (by simp [E]))] <;> rfl
              show aZ P (List.toArray <$> _) h R = _;rw [map_eq_pure_bind, an, this _ _ hT'];show R (List.toArray _) h = _
              congr 1
              apply ZM.1
              simp
            rw [hm];obtain ⟨ls, X, A⟩ := tV A;cases E : fV (fun i => (U.map fun j => (j.offset, P.cellsOf j.type))[i]?) z.cells.toList ls with
            | none => simp only [E] at A; exact A.elim
            | some cs =>
              simp only [E] at A;have F : (Array.map (fun x => (x.1, f.eval x.2)) ps).toList = (ps.toList.map (·.1)).zip vs := Q;rw [F, Em X E];exact A
  case buildSlice t len ps =>
    obtain ⟨vs, eA, A⟩ := ju A;have eA := g.RG eA
    have Q : (ps.map fun x => (x.1, f.eval x.2)) = ((ps.toList.map (·.1)).zip vs).toArray := by
      apply ZM.1;rw [<- eA];simp only [Array.toList_map];generalize ps.toList = l
      induction l with
      | nil => rfl
      | cons p l ih => simpa using ih
    rw [uF];have F : (Array.map (fun x => (x.1, f.eval x.2)) ps) = ((ps.toList.map (·.1)).zip vs).toArray := Q;rw [F];exact nL A
  case load t x =>
    have ht' : sW P t x a (fun _ _ v => kk v) L K h := A;obtain ⟨p, l, v, hv, hc, hk, hall⟩ := ND g ht';rw [g.ev hv, uF];exact hall h _ hc hk
  case store t x y =>
    obtain ⟨v, hv, A⟩ := bJ A;obtain ⟨u, D, A⟩ := bJ A;rw [g.ev hv, g.ev D, XA];cases G : cP P t with
    | none => cases v <;> simp only [G] at A <;> exact A.elim
    | some b =>
      obtain ⟨i, hi⟩ := uI G
      cases v <;> first
        | (cases b <;> simp only [G] at A <;> exact A.elim)
        | skip
      rename_i p;cases b <;> simp only [G] at A
      · rcases gw A with ⟨hl, A⟩ | ⟨hl, A⟩
        · rcases gw A with ⟨M, A⟩ | ⟨M, A⟩
          · exact A.elim
          · obtain ⟨q, rfl, A⟩ := gV A
            obtain ⟨hc, A⟩ := A;unfold Instr.storeAt storeVar;show aZ P (sizeOf t >>= _) h _;rw [an, bR hi];have hcl : u.cells = #[u] := by cases u <;> first | (simp [fw] at M; done) | rfl
            have h1 : P.cellsOf t = 1 := by simpa using hl
            rw [hcl, h1];exact fX q [u] h 0 _ hc A
        · exact A.elim
      · rcases gw A with ⟨M, A⟩ | ⟨M, A⟩
        · rcases gw A with ⟨hl, A⟩ | ⟨hl, A⟩
          · obtain ⟨q, rfl, A⟩ := gV A
            obtain ⟨hc, A⟩ := A;unfold Instr.storeAt storeVar;show aZ P (sizeOf t >>= _) h _;rw [an, bR hi];obtain ⟨cs, rfl⟩ : ∃ cs, u = .agg cs := by cases u <;> first | (simp [fw] at M; done) | exact ⟨_, rfl⟩
            have h1 : cs.size = P.cellsOf t := by simpa [ka] using hl
            show aZ P (if cs.size ≠ P.cellsOf t then _ else storeCells q cs.toList 0) h _;rw [Y1 (by simp [h1])];exact fX q cs.toList h 0 _ hc A
          · exact A.elim
        · exact A.elim
  case nilCheck x =>
    obtain ⟨v, hv, A⟩ := bJ A;rw [g.ev hv];cases v with
    | pointer p => obtain ⟨q, rfl, A⟩ := gV A; exact A
    | func fn I ca => cases fn <;> first | exact A.elim | exact A
    | iface t w => exact A
    | _ => exact A.elim
  case binOp op t x y yt =>
    obtain ⟨v, hv, A⟩ := bJ A;obtain ⟨u, D, A⟩ := bJ A;rw [g.ev hv, g.ev D, uF];exact RU D A
  case unOp op t x => obtain ⟨v, hv, A⟩ := bJ A; rw [g.ev hv, uF]; exact Ur A
  case convert s d x => obtain ⟨v, hv, A⟩ := bJ A; rw [g.ev hv, uF]; exact O3 A
  case makeInterface t x =>
    obtain ⟨v, hv, A⟩ := bJ A;rw [g.ev hv, uF];unfold Instr.makeInterface;cases B : P.underlying t with
    | none => simp only [B] at A; exact A.elim
    | some d =>
      rw [an, aE B];cases d <;> simp only [B] at A <;> first | exact A.elim | exact A
  case makeFunc fn I ca =>
    obtain ⟨vs, eA, A⟩ := ju A;obtain ⟨us, hus, A⟩ := ju A;rw [uF];have Y : I.map f.eval = vs.toArray := by apply ZM.1; simpa using g.RG eA
    have e2 : ca.map f.eval = us.toArray := by apply ZM.1; simpa using g.RG hus
    rw [Y, e2];exact A
  case makeMap t r =>
    cases r with
    | none => rw [uF]; exact R2 A
    | some r => exact A.elim
  case makeSlice t l c =>
    obtain ⟨v, hv, A⟩ := bJ A;obtain ⟨u, D, A⟩ := bJ A;rw [g.ev hv, g.ev D, uF];exact nL A
  case slice t x lo hi mx =>
    obtain ⟨v, hv, A⟩ := bJ A;obtain ⟨vs, eA, A⟩ := ju A;have eA := g.RG eA;rw [g.ev hv, uF];unfold VK at A
    cases lo <;> cases hi <;> cases mx <;> simp only [Option.toList, List.nil_append, List.append_nil, List.map_cons, List.map_nil, List.cons_append] at eA <;> subst eA <;>
      first | exact A.elim | exact KJ A
  case fieldAddr s x j =>
    obtain ⟨v, hv, A⟩ := bJ A;rw [g.ev hv, uF];cases B : P.underlying s with
    | none => cases v <;> simp only [B] at A <;> exact A.elim
    | some d =>
      cases v <;> first
        | (cases d <;> simp only [B] at A <;> exact A.elim)
        | skip
      rename_i p;cases d <;> simp only [B] at A <;> first | exact A.elim | skip
      rename_i U;cases E : U[j]? with
      | none => simp only [E] at A; exact A.elim
      | some Z =>
        simp only [E] at A;cases hc : P.cellsOf Z.type with
        | zero => simp only [hc] at A; exact A.elim
        | succ m =>
          simp only [hc] at A;obtain ⟨q, rfl, A⟩ := gV A
          have hi : ∃ i, P.info? Z.type = some i := by
            cases hi : P.info? Z.type with
            | none => simp [Program.cellsOf, hi] at hc
            | some i => exact ⟨i, rfl⟩
          obtain ⟨i, hi⟩ := hi;unfold Instr.fieldAt;rw [an, aE B];simp only [E];show aZ P (fieldPlace q Z >>= fun y => (pure (Value.pointer (some y)) : Sem Xab)) h _;unfold fieldPlace;rw [an, an, bR hi, hc];exact A
  case field s x j =>
    obtain ⟨v, hv, A⟩ := bJ A;rw [g.ev hv, uF];cases B : P.underlying s with
    | none => cases v <;> simp only [B] at A <;> exact A.elim
    | some d =>
      cases v <;> first
        | (cases d <;> simp only [B] at A <;> exact A.elim)
        | skip
      rename_i cs;cases d <;> simp only [B] at A <;> first | exact A.elim | skip
      rename_i U;cases E : U[j]? with
      | none => simp only [E] at A; exact A.elim
      | some Z =>
        simp only [E] at A;unfold Instr.field;rw [an, aE B];simp only [E];show aZ P (part Z.type cs Z.offset) h _;exact M1 A
  case indexAddr t x i =>
    obtain ⟨v, hv, N⟩ := bJ A;obtain ⟨u, D, C⟩ := bJ N;clear A N;rw [g.ev hv, g.ev D, uF];clear hv D;unfold zt at C;generalize B : P.underlying t = ud at C;split at C
    · rename_i p len cp k m S
      rcases gw C with ⟨_, A⟩ | ⟨H, A⟩
      · exact A.elim
      · have H : oK P S = true := by simpa using H
        obtain ⟨i, hi⟩ := ZZ.1 H;obtain ⟨G, A⟩ := A;obtain ⟨q, rfl, A⟩ := gV A;unfold Instr.indexAt;show aZ P (underlying t >>= _) h _;rw [an, aE B];show aZ P (underlying t >>= _) h _;rw [an, aE B];show aZ P (if 0 <= m /\ m < len then (sizeOf S >>= fun z => (pure (Value.pointer (some (q.add (m.toNat * z)))) : Sem Xab)) else _) h _;rw [Y8 G, an, bR hi];exact A
    · rename_i p k m len S
      rcases gw C with ⟨_, A⟩ | ⟨H, A⟩
      · exact A.elim
      · have H : oK P S = true := by simpa using H
        obtain ⟨i, hi⟩ := ZZ.1 H;obtain ⟨G, A⟩ := A;obtain ⟨q, rfl, A⟩ := gV A;unfold Instr.indexAt;show aZ P (underlying t >>= _) h _;rw [an, aE B];show aZ P (underlying t >>= _) h _;rw [an, aE B];show aZ P (if 0 <= m /\ m < len then (sizeOf S >>= fun z => (pure (Value.pointer (some (q.add (m.toNat * z)))) : Sem Xab)) else _) h _;rw [Y8 G, an, bR hi];exact A
    · exact C.elim
  case index t x i =>
    obtain ⟨v, hv, N⟩ := bJ A;obtain ⟨u, D, C⟩ := bJ N;clear A N;rw [g.ev hv, g.ev D, uF];clear hv D;unfold H0 at C;generalize B : P.underlying t = ud at C;split at C
    · rename_i s k m
      obtain ⟨G, A⟩ := C;unfold Instr.index;show aZ P (underlying t >>= _) h _;rw [an, aE B]
      have hs : s[m.toNat]? = some (s.data.toList.getD m.toNat 0) := by
        have hlt : m.toNat < s.size :=ad
        have : s[m.toNat]? = some s[m.toNat] := by simp [hlt]
        rw [this]
        congr 1
        have h2 : m.toNat < s.data.toList.length := by simpa using hlt
        rw [ZS, YZ h2] <;> rfl
      show aZ P (match (if 0 <= m then s[m.toNat]? else none) with | some b => (pure (Value.int .u8 b.toNat) : Sem Xab) | none => boundsPanic k m s.size .index) h _;rw [Y8 G.1, hs];exact A
    · exact oM C
    · exact C.elim
  case lookup t m x ok =>
    obtain ⟨v, hv, A⟩ := bJ A;obtain ⟨u, D, A⟩ := bJ A;rw [g.ev hv, g.ev D, uF];generalize B : P.underlying t = ud at A;split at A
    · cases ok <;> simp only at A <;> exact oM A
    · exact A.elim
  case mapUpdate t m x y =>
    obtain ⟨v, hv, A⟩ := bJ A;obtain ⟨u, D, A⟩ := bJ A;obtain ⟨w, O, A⟩ := bJ A;rw [g.ev hv, g.ev D, g.ev O, XA];exact A
  case insert t m x y =>
    obtain ⟨v, hv, A⟩ := bJ A;obtain ⟨u, D, A⟩ := bJ A;obtain ⟨w, O, A⟩ := bJ A;rw [g.ev hv, g.ev D, g.ev O, XA];exact A
  case mapEntry t m x =>
    obtain ⟨v, hv, A⟩ := bJ A;obtain ⟨u, D, A⟩ := bJ A;rw [g.ev hv, g.ev D, uF];generalize B : P.underlying t = ud at A;split at A
    · exact oM A
    · exact A.elim
  case entryStore t m x y =>
    obtain ⟨v, hv, A⟩ := bJ A;obtain ⟨u, D, A⟩ := bJ A;obtain ⟨w, O, A⟩ := bJ A;rw [g.ev hv, g.ev D, g.ev O, XA];exact A
  case range t x =>
    obtain ⟨v, hv, A⟩ := bJ A;rw [g.ev hv, uF];exact RR A
  case next it b =>
    obtain ⟨v, hv, A⟩ := bJ A;rw [g.ev hv, uF];generalize B : P.underlying V = ud at A;split at A
    · rename_i ts
      generalize hts : ts.toList = tl at A;cases tl with
      | nil =>
        refine ek _ _ _ _ ?_ A;rintro v h' (⟨rfl, J⟩ | ⟨x, rfl, J⟩)
        · exact J
        · rw [dX] at J; exact J
      | cons t0 ts =>
        refine ek _ _ _ _ ?_ A;rintro v h' (⟨rfl, J⟩ | ⟨x, rfl, J⟩)
        · exact J
        · rw [dX] at J; exact J
    · exact A.elim
  case entry it =>
    obtain ⟨v, hv, A⟩ := bJ A;rw [g.ev hv, uF];exact oM A
  case typeAssert x t d ok =>
    obtain ⟨v, hv, A⟩ := bJ A;rw [g.ev hv, uF];cases ok <;> simp only at A <;> exact oM A
  case extract x i =>
    obtain ⟨v, hv, A⟩ := bJ A;rw [g.ev hv, uF];cases v with
    | tuple vs =>
      unfold Instr.extract;show aZ P (match vs[i]? with | some v => pure v | none => stuck "Extract: no such component") h _
      rw [<- an9];cases hi : vs.toList[i]? with
      | none => simp only [hi] at A; exact A.elim
      | some w => simp only [hi] at A; exact A
    | _ => exact A.elim
  case call c =>
    rw [an];unfold resolve;cases hc : c.callee with
    | builtin b =>
      simp only [hc] at A;obtain ⟨vs, eA, A⟩ := ju A;have Y : c.args.map f.eval = vs.toArray := by apply ZM.1; simpa using g.RG eA
      simp only [Y];exact G1 A
    | invoke r m => simp only [hc] at A; exact A.elim
    | value j =>
      simp only [hc] at A;cases htm : Gd j with
      | true =>
        simp only [htm] at A;obtain ⟨gv, hg, A⟩ := bJ A;obtain ⟨vs, eA, A⟩ := ju A;have Y : c.args.map f.eval = vs.toArray := by apply ZM.1; simpa using g.RG eA
        simp only [Y, g.ev hg];obtain ⟨f', I, ca, rfl, A, fn, hfn, G, hn⟩ := A
        have hbd : gp P f' = true := by
          unfold gp;rw [hfn];simp [G, hn]
        show aZ P (callFunc f' (I ++ vs.toArray ++ ca)) h _
        have e2 : (I.toList ++ vs ++ ca.toList).toArray = I ++ vs.toArray ++ ca := by
          apply ZM.1; simp
        rw [<- e2, xC hbd];refine HC.mono A ?_;rintro v h' ⟨x, rfl, J⟩;rw [dX] at J;exact J
      | false =>
        simp only [htm] at A;obtain ⟨gv, hg, A⟩ := bJ A;obtain ⟨vs, eA, A⟩ := ju A;have Y : c.args.map f.eval = vs.toArray := by apply ZM.1; simpa using g.RG eA
        simp only [Y, g.ev hg]
        obtain ⟨j, I, ca, rfl⟩ : ∃ j I ca, gv = .func (.func j) I ca := by
          cases gv with
          | func fn I ca => cases fn <;> first | exact A.elim | exact ⟨_, _, _, rfl⟩
          | _ => exact A.elim
        have := OC (show DD P j (I.toList ++ vs ++ ca.toList) V kk L K h from A);show aZ P (callFunc j (I ++ vs.toArray ++ ca)) h _
        have e2 : (I.toList ++ vs ++ ca.toList).toArray = I ++ vs.toArray ++ ca := by
          apply ZM.1; simp
        rw [<- e2];exact this
  all_goals exact A.elim
end ops
end Go.Sx
