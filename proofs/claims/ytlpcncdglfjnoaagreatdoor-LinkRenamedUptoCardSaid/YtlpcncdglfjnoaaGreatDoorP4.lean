/- Contracts over heaps, part 4. Condition: as each statement says. -/
import Derived.Test.YtlpcncdglfjnoaaGreatDoorP3
import Derived.Test.YtlpcncdglfjnoaaGreatDoorBtG
set_option linter.all false
set_option maxRecDepth 100000
set_option maxHeartbeats 4000000
namespace Go.Sx.Lk
open Go.Proofs Go.Sx.Ob
def HJ (u:Nat):(Lib.decDigits u).foldl (fun a b=>a*10+(b.toNat-48)) 0=u:=by
 induction u using Nat.strongRecOn with
 | ind u c =>
  rw [Lib.decDigits];split
  ·next h =>
   have h1:(UInt8.ofNat (48+u)).toNat=48+u:=by rw [UInt8.toNat_ofNat']; omega
   simp only [List.foldl_cons,List.foldl_nil,h1];omega
  ·next h =>
   have h1:(UInt8.ofNat (48+u % 10)).toNat=48+u % 10:=by rw [UInt8.toNat_ofNat']; omega
   rw [Ws,c (u / 10) ad];simp only [List.foldl_cons,List.foldl_nil,h1];omega
def vS (n:Nat):me n=⟨(Lib.decDigits n).toArray⟩:=by
 unfold me;rw [Lib.itoa_nonneg]
variable {H Z a h:Nat}
def rC {n:Nat} (h:me H=me n):H=n:=by
 rw [vS,vS] at h;have h1:Lib.decDigits H=Lib.decDigits n:=by
  have:=VO (fun b:XA=>b.data.toList) h
  simpa using this
 rw [<- HJ H,h1,HJ]
def pV (a b:XA):(a++b).data.toList=a.data.toList++b.data.toList:=by
 rw [ByteArray.data_append,Array.toList_append]
variable {U:XA}
def vy {b c:XA} (h:U++b=U++c):b=c:=by
 have h1:=VO (fun b:XA=>b.data.toList) h;simp only [pV] at h1;have h2:=List.append_cancel_left h1;cases b; cases c;simp only at h2
 congr 1
 exact Array.ext' h2
variable {I:LW} {d:List Lb}
def word_inj {E:List Ky} (f:WI I d E) {k k':Ky} (hk:k∈d.map wR\/k∈E) (g:k'∈d.map wR\/k'∈E) (h:I.word k=I.word k'):k=k':=by
 have c:∀ a b:XA,(⟨#[76]⟩:XA)++a≠(⟨#[69]⟩:XA)++b:=by
  intro a b e;have h1:=VO (fun b:XA=>b.data.toList) e;simp only [pV] at h1;simp at h1
 have n:∀ {k:Ky},k∈d.map wR\/k∈E->I.num k=none->∃ i,I.pP k=some i/\∃ hi:i<E.length,E[i]=k:=by
  intro k hk hn;rw [f.num] at hn
  have:=nw.1 hn
  have hk:k∈E:=hk.elim (fun h=>absurd h this) id;obtain ⟨i,hi⟩:=Af hk;exact ⟨i,by rw [f.pP]; exact hi,ja hi⟩
 unfold LW.word at h;cases h1:I.num k with
 | some i =>
  cases h2:I.num k' with
  | some j =>
   rw [h1,h2] at h
   have:=rC (vy h)
   subst this;rw [f.num] at h1 h2;obtain ⟨a,o⟩:=ja h1;obtain ⟨b,p⟩:=ja h2;rw [<- o,<- p]
  | none =>
   rw [h1,h2] at h;exact absurd h (c _ _)
 | none =>
  obtain ⟨i,q,hi,l⟩:=n hk h1;cases h2:I.num k' with
  | some j =>
   rw [h1,h2] at h;exact absurd h.symm (c _ _)
  | none =>
   obtain ⟨j,r,s,m⟩:=n g h2;rw [h1,h2] at h;simp only [q,r,Option.getD_some] at h
   have:=rC (vy h)
   subst this;rw [<- l,<- m]
def Bf (b:ND I) (k:Ky):(I.word k).size<=maxLen:=by
 have a:2000<=maxLen:=bJ
 unfold LW.word;cases h:I.num k with
 | some n =>
  have:=kB (n:=n) (by have:=b.n _ _ h; omega)
  show (_++_:XA).size<=_;rw [ByteArray.size_append]
  have:(⟨#[76]⟩:XA).size=1:=rfl
  omega
 | none =>
  have h1:(I.pP k).getD 0<=2^60:=by
   cases h2:I.pP k with
   | none=>simp
   | some i=>have:=b.e _ _ h2; simp; omega
  have:=kB h1
  show (_++_:XA).size<=_;rw [ByteArray.size_append]
  have:(⟨#[69]⟩:XA).size=1:=rfl
  omega
variable {Y:cL}
def zu (h:I.bad H Y=none):∀ t,t∈Y.ai->∃ k,I.own H t.1=some k:=by
 unfold LW.bad at h;rw [Option.map_eq_none_iff,List.find?_eq_none] at h;intro t a
 have:=h t a
 cases b:I.own H t.1 with
 | none=>rw [b] at this; simp at this
 | some k=>exact ⟨k,rfl⟩
def Hc (h:I.bad H Y=none):∀ t,t∈(I.di H Y).ai->∃ p k,p∈Y.ai/\I.own H p.1=some k/\t.1=I.word k:=by
 intro t d;have hb:=zu h;rcases ue d with ⟨p,b,c,a⟩ | ⟨p,y,v,b,a,hv,c⟩
 ·obtain ⟨k,hk⟩:=hb p b;rw [c] at hk;rw [hk] at a;cases a
 ·obtain ⟨k,hk⟩:=hb p b;rw [hk] at a;simp only [Option.map_some,Option.some.injEq] at a;subst a;refine ⟨p,k,b,hk,?_⟩;rw [<- c]
  have:v=(I.word k,1):=by simpa [qn] using hv
  rw [this]
def yu (h:I.bad H Y=none):(I.di H Y).ai.length<=Y.ai.length:=by
 have a:Nf (I.di H Y).ai:=jq _ _;have h1:((I.di H Y).ai.map (·.1)).Nodup:=Wl.2 (a.1.imp fun h=>jP h);have h2:=mQ ((I.di H Y).ai.map (·.1)) (Y.ai.map fun t=>I.word ((I.own H t.1).getD (0,dA))) h1 (fun s b=>by
  obtain ⟨t,c,rfl⟩:=Vy.1 b;obtain ⟨p,k,d,hk,e⟩:=Hc h t c;rw [e];refine Vy.2 ⟨p,d,?_⟩;rw [hk];rfl)
 rwa [Vr,Vr] at h2
def Mi (b:ND I) (h:I.bad H Y=none):∀ t,t∈(I.di H Y).ai->t.1.size<=maxLen:=by
 intro t a;obtain ⟨p,k,_,_,c⟩:=Hc h t a;rw [c];exact Bf b k
variable {b:bS}
def AZ (h:my I H b=none):(∀ x,x∈b.text->I.bad H x.e=none)/\(∀ x,x∈b.data->I.bad H x.e=none)/\∀ e,e∈b.aS->I.bad H e.2=none:=by
 unfold my at h;rw [Option.or_eq_none_iff,Option.or_eq_none_iff] at h;obtain ⟨h1,h2,a⟩:=h;unfold LW.ya at h1 h2;rw [Wz] at h1 h2 a;exact ⟨h1,h2,a⟩
theorem oX {w:LW}:∀ (us:List bS) (n:Nat),eS w n us=none->∀ i,(hi:i<us.length)->my w (n+i) us[i]=none
 | [],n,h,i,hi=>absurd hi ah
 | u::us,n,h,i,hi=>by
  rw [eS] at h;cases a:my w n u with
  | some s=>rw [a] at h; cases h
  | none =>
   rw [a] at h
   match i with
   | 0=>simpa using a
   | i+1 =>
    have:=oX us (n+1) h i (by simpa using hi)
    rw [show n+1+i=n+(i+1) from ad] at this;simpa using this
theorem uL:∀ (us:List bS) (n:Nat) (q:Nat × jn),q∈eF n us->∃ i,∃ hi:i<us.length,q.1=n+i/\q.2∈us[i].aS
 | [],n,q,h=>by simp [eF] at h
 | u::us,n,q,h=>by
  rw [eF,VG] at h;rcases h with h | h
  ·obtain ⟨e,a,rfl⟩:=Vy.1 h;exact ⟨0,ah,rfl,a⟩
  ·obtain ⟨i,hi,h1,h2⟩:=uL us (n+1) q h;exact ⟨i+1,by simpa using hi,ad,by simpa using h2⟩
variable {e:Nat × jn}
def yv {us:List bS} (h:eS I 0 us=none) (a:e∈eF 0 us):I.bad e.1 e.2.2=none:=by
 obtain ⟨i,hi,h1,h2⟩:=uL us 0 e a
 have:=(AZ (oX us 0 h i hi)).2.2 _ h2
 rw [h1];exact this
theorem Ht:∀ (us:List bS) (n:Nat),(∀ u,u∈us->u.aS.length<=8192)->(eF n us).length<=us.length*8192
 | [],n,h=>by simp [eF]
 | u::us,n,h=>by
  rw [eF,Vs,Vr,Wc];have h1:=Ht us (n+1) (fun v hv=>h v (by simp [hv]));have h2:=h u ah;omega
theorem wm:∀ (us:List bS) (n:Nat),(∀ u,u∈us->(u.aS.map (·.1)).Nodup)->((eF n us).map iY).Nodup
 | [],n,h=>by simp [eF]
 | u::us,n,h=>by
  rw [eF,VB,Wm];refine ⟨?_,wm us (n+1) (fun v hv=>h v (by simp [hv])),?_⟩
  ·have:(u.aS.map fun e=>(n,e)).map iY=(u.aS.map (·.1)).map fun s=>(n,s):=by rw [VN,VN]; rfl
   rw [this,Wu,Wl];exact (Wu.1 (h u ah)).imp fun h e=>h (Xg e).2
  ·intro a c b d e;obtain ⟨q,f,rfl⟩:=Vy.1 c;obtain ⟨r,g,rfl⟩:=Vy.1 d;obtain ⟨x,_,rfl⟩:=Vy.1 f;obtain ⟨i,_,h1,_⟩:=uL us (n+1) r g
   have:n=r.1:=(Xg e).1
   omega
theorem AG:∀ (us:List bS) (n:Nat),((eF n us).map fun q=>q.2.2.ai.length).sum<=((us.flatMap bU).flatMap (·.ai)).length
 | [],n=>by simp [eF]
 | u::us,n=>by
  rw [eF,VB,List.sum_append,Wh,Xa,Vs];have h1:=AG us (n+1);have h2:((u.aS.map fun e=>(n,e)).map fun q=>q.2.2.ai.length).sum<=((bU u).flatMap (·.ai)).length:=by
   unfold bU;rw [Xa,Vs,VN]
   have:∀ l:List jn,(l.map ((fun q:Nat × jn=>q.2.2.ai.length) ∘ fun e=>(n,e))).sum=((l.map (·.2)).flatMap (·.ai)).length:=by
    intro l
    induction l with
    | nil=>rfl
    | cons e l a=>rw [VY,Wg,VY,Wh,Vs,a]; rfl
   rw [this];omega
  omega
structure GH (us:List bS):Prop where
 right:∀ u,u∈us->ee u=0
 many:us.length<=64
def GH.aS {us:List bS} (r:GH us) {u:bS} (a:u∈us):u.aS.length<=8192/\u.text.length+u.data.length<=8192:=by
 have h:=(wv (r.right u a)).1;unfold lW at h;rw [Bool.or_eq_false_iff] at h;have h1:=VI h.1;have h2:=VI h.2;omega
def GH.eqs {us:List bS} (r:GH us):(eF 0 us).length<=2^19:=by
 have h1:=Ht us 0 (fun u a=>(r.aS a).1);have h2:=r.many;omega
theorem zh (n sec:Nat):∀ (l:List cv) (i:Nat),(wX n sec i l).length<=l.length
 | [],i=>by simp [wX]
 | x::l,i=>by
  have:=zh n sec l (i+1)
  rw [wX,Vs,Wc];split <;> simp <;> omega
theorem AU:∀ (us:List bS) (n:Nat),(∀ u,u∈us->u.text.length+u.data.length<=8192)->(df n us).length<=us.length*8192
 | [],n,h=>by simp [df]
 | u::us,n,h=>by
  rw [df,Vs,Wc];have h1:=AU us (n+1) (fun v hv=>h v (by simp [hv]));have h2:=h u ah;have h3:=zh n 0 u.text 0;have h4:=zh n 1 u.data 0;unfold GD;rw [Vs];omega
def GH.dM {us:List bS} (r:GH us):(df 0 us).length<=2^19:=by
 have h1:=AU us 0 (fun u a=>(r.aS a).2);have h2:=r.many;omega
def GH.IQ {us:List bS} (r:GH us) {w:LW} (a:WI w (df 0 us) ((eF 0 us).map iY)):ND w :=
 a.IQ (by have:=r.dM; omega) (by rw [Vr]; have:=r.eqs; omega)
def QN {us:List bS} (r:GH us) (sm:Fs us) (m:WI I (df 0 us) ((eF 0 us).map iY)) (n:eS I 0 us=none) {es:List ei} (h:es.map jM=rZ I us):sJ es:=by
 have lb:=r.IQ m;have hn:Sx.aU es=(eF 0 us).map fun q=>I.word (iY q):=by
  have:=VO (List.map (·.1)) h
  unfold rZ at this;rw [VN,VN] at this;exact this
 have hl:es.length=(eF 0 us).length:=by
  have:=VO List.length h
  unfold rZ at this;simpa using this
 have c:∀ e,e∈es->∃ q,q∈eF 0 us/\e.name=I.word (iY q)/\e.x=I.di q.1 q.2.2:=by
  intro e d;have h1:jM e∈rZ I us:=by rw [<- h]; exact VM d
  unfold rZ at h1;obtain ⟨q,f,h2⟩:=Vy.1 h1;exact ⟨q,f,(Xg h2).1.symm,(Xg h2).2.symm⟩
 have g:(es.flatMap (·.x.ai)).length<=2^20:=by
  have s:∀ l:List ei,(l.flatMap (·.x.ai)).length=((l.map jM).map (·.2.ai.length)).sum:=by
   intro l
   induction l with
   | nil=>rfl
   | cons e l i=>rw [Wh,Vs,VY,VY,Wg,i]; rfl
  rw [s,h];unfold rZ;rw [VN];have y:∀ l:List (Nat × jn),(∀ q,q∈l->I.bad q.1 q.2.2=none)->(l.map ((fun p:XA × cL=>p.2.ai.length) ∘ fun q=>(I.word (q.1,q.2.1),I.di q.1 q.2.2))).sum<=(l.map fun q=>q.2.2.ai.length).sum:=by
   intro l hl
   induction l with
   | nil=>simp
   | cons q l i =>
    rw [VY,VY,Wg,Wg];have h1:=i (fun p z=>hl p (by simp [z]));have h2:=yu (hl q ah);have h3:((fun p:XA × cL=>p.2.ai.length) ∘ fun q:Nat × jn=>(I.word (q.1,q.2.1),I.di q.1 q.2.2)) q=(I.di q.1 q.2.2).ai.length:=rfl;omega
  have h1:=y (eF 0 us) (fun q f=>yv n f);have h2:=AG us 0;have h3:=sm.ai;omega
 refine ⟨⟨?_,?_,?_,?_,?_⟩,g⟩
 ·rw [hn];have h1:=wm us 0 (fun u A=>by
   have:=wj (r.right u A)
   unfold cd at this;rw [Wm] at this;exact this.2.1)
  rw [Wu,Wl] at h1 ⊢;refine W9 ?_ h1;intro a b B j k e;exact k (word_inj m (.inr (VM B)) (.inr (VM j)) e)
 ·have:=r.eqs; omega
 ·intro e d;obtain ⟨q,_,h1,_⟩:=c e d;rw [h1];exact Bf lb _
 ·intro e d
  have:=gu (fun e:ei=>e.x.ai) d
  omega
 ·intro e d t o;obtain ⟨q,f,_,h2⟩:=c e d;rw [h2] at o;exact Mi lb (yv n f) t o
def Js {es ms:List ei} (o:sJ es) (hc:∀ v,¬ oM (eZ es) v) (g:ms.map (fun m=>(m.name,m.x))=es.map (fun e=>(e.name,iD es e.name))) (hl:es.length<=2^19) :
  EqsOk ms/\(∀ e,e∈ms->e.x.ai.length<=2^20)/\(ms.flatMap (·.x.ai)).length<=2^39/\ms.length<=2^20:=by
 have hn:Sx.aU ms=Sx.aU es:=by
  have:=VO (List.map (·.1)) g
  rw [VN,VN] at this;exact this
 have j:ms.length=es.length:=by
  have:=VO List.length g
  simpa using this
 have a:∀ e,e∈ms->e.name∈Sx.aU es/\e.x=iD es e.name:=by
  intro e b;have h1:(e.name,e.x)∈es.map (fun e=>(e.name,iD es e.name)):=by rw [<- g]; exact VM (f:=fun m:ei=>(m.name,m.x)) b
  obtain ⟨q,k,h2⟩:=Vy.1 h1;have h3:=(Xg h2).1;exact ⟨by rw [<- h3]; exact VM k,by rw [<- (Xg h2).2,h3]⟩
 have c:∀ e,e∈ms->e.x.ai.length<=2^20:=fun e b=>by rw [(a e b).2]; exact o.CW hc (a e b).1
 refine ⟨⟨by rw [hn]; exact o.nodup,ad,fun e b=>?_,fun e b=>by have:=c e b; omega,fun e b t i=>?_⟩,c,?_,ad⟩
 ·exact o.names _ (a e b).1
 ·rw [(a e b).2] at i;exact o.JZ hc (a e b).1 t i
 ·have n:∀ l:List ei,(∀ e,e∈l->e.x.ai.length<=2^20)->(l.flatMap (·.x.ai)).length<=l.length*2^20:=by
   intro l h
   induction l with
   | nil=>simp
   | cons e l p =>
    rw [Wh,Vs,Wc];have h1:=p (fun d r=>h d (by simp [r]));have h2:=h e ah;omega
  have:=n ms c
  omega
def qt (n:Nat):XA:=⟨(Lib.decDigits n).toArray⟩
def oK (us:List bS) (n:Nat) (x:cL):Option XA:=(x.ai.find? fun t=>(pv us n t.1).isNone).map (·.1)
def qO (us:List bS) (n:Nat) (x:cL):XA:=(oK us n x).getD ⟨#[]⟩
def Bj {P:Program} {h:Hp} {L:Lp} {K:XB->Hp->Prop} {k:XC->Nat->Nat->T} {t o e:TypeId} {z:XB} {sz by':Nat} (C:P.underlying t=some (.slice e)) (j:(P.info? e).map (fun i=>(i.zero,i.size,i.bytes))=some (some z,sz,by'))
  (r:z.cells.size=sz) {b:Nat} {p:XC} {l c:Nat} {xs:List (List XB)} (s:SL h b e sz p l c xs) {q:XC} {m d:Nat} {f:List (List XB)} (n:(q=none/\f=[])\/∃ a,q=some a/\aE h a 0 f.flatten) (D:m=f.length) (u:∀ y,y∈f->y.length=sz) (w:f.flatten.all cO=true)
  (x:(2*(l+m)+1024)*by'<=2^48) (A:l+m<=2^48) (E:b<=h.size)
  (hk:∀ p' c' h',SL h' b e sz p' (l+m) c' (xs++f)->Ch (aG p) h h'->k p' (l+m) c' L K h') :
  T.eK P (Builtin.append_ #[t,t] o #[.slice p l c,.slice q m d]) false [(false,[.slice 0])] k L K h:=by
 obtain ⟨i,hi,F,rfl,rfl⟩:=kq j;refine dc ?_;rcases n with ⟨rfl,rfl⟩ | ⟨a,rfl,hc⟩
 ·have h0:m=0:=D;subst h0;have B:l<=c:=SL.FL s;simp [Builtin.append_,al,au C,bF hi,cH hi,Builtin.lenOf,Builtin.firstCells,B];have g:∃ p' l' c',Value.slice p l c=.slice p' l' c'/\k p' l' c' L K h:=⟨p,l,c,rfl,by simpa using hk p c h (by simpa using s) (Ch.refl _ _)⟩
  cases p with
  | none=>exact g
  | some a=>exact g
 ·exact jh (P:=P) (K:=fun v h'=>∃ p l c,v=.slice p l c/\k p l c L K h') (ty:=o) (ys:=f) C hi F r s D u hc w x A E fun p' c' h' G k' _=>⟨p',_,c',rfl,hk p' c' h' G k'⟩
def F6 (us:List bS) (n:Nat) (l:List cL):XA:=((l.map (qO us n)).find? fun s=>!decide (s.data.toList=[])).getD ⟨#[]⟩
theorem ql {α:Type} (f:Nat->Option α) (x:α):∀ (n i:Nat),i<n->(∀ j,j<i->f j=none)->f i=some x->(List.range n).findSome? f=some x
 | 0,i,hi,_,_=>absurd hi ad
 | n+1,i,hi,h0,a=>by
  rw [List.range_succ,Xl]
  by_cases h:i<n
  ·rw [ql f x n i h h0 a] <;> rfl
  ·have:i=n:=ad
   subst this;have hn:(List.range i).findSome? f=none:=by
    rw [Wz];intro j b;exact h0 j (Xd.1 b)
   rw [hn];simp [a]
def sK {α:Type} (f:Nat->Option α) (n:Nat) (h:∀ j,j<n->f j=none):(List.range n).findSome? f=none:=by
 rw [Wz];intro j a;exact h j (Xd.1 a)
def EQ (us:List bS) (i:Nat):Option (Nat × XA):=us[i]?.bind fun u=>(u.aJ.find? fun s=>(us.take i).any fun v=>fH v.aJ s).map fun s=>(i,s)
def yx (us:List bS):Option (Nat × XA):=(List.range us.length).findSome? (EQ us)
def Ie (us:List bS) (i:Nat):Option (Nat × XA):=us[i]?.bind fun u=>if (F6 us i (bU u)).data.toList=[] then none else some (i,F6 us i (bU u))
def Rj (us:List bS):Option (Nat × XA):=(List.range us.length).findSome? (Ie us)
def DC (us:List bS):Fl :=
 if us.length=0 then ⟨25,0,dA⟩
 else if 64<us.length then ⟨4,0,dA⟩
 else match us.findIdx? fun u=>decide (ee u≠0) with
 | some n=>⟨31,n,dA⟩
 | none=>match yx us with
  | some q=>⟨22,q.1,q.2⟩
  | none=>match Rj us with
   | some q=>⟨23,q.1,q.2⟩
   | none=>⟨0,0,dA⟩
theorem MT (n:Nat):∀ (l:List XA) (w:LW) (s:XA),(l.foldl (ul n) w).gl s=if fH l s=true then some n else w.gl s
 | [],w,s=>by simp [fH]
 | a::l,w,s=>by
  rw [V2,MT n l (ul n w a) s];have h1:fH (a::l) s=(decide (a=s) || fH l s):=by unfold fH; rw [List.any_cons]
  have h2:(ul n w a).gl s=if a=s then some n else w.gl s:=by
   show dB w.gl a n s=_;unfold dB
   by_cases h:s=a
   ·rw [VE h,VE h.symm]
   ·rw [Vu h,Vu fun e=>h e.symm]
  rw [h1,h2]
  by_cases b:a=s <;> by_cases hl:fH l s=true <;> simp [b,hl]
def NU (us:List bS) (s:XA):Option Nat:=us.findIdx? fun u=>fH u.aJ s
def MH (us:List bS) (s:XA):(NU us s).isSome=us.any fun u=>fH u.aJ s:=by
 unfold NU;rw [List.findIdx?_isSome]
theorem yP (us:List bS):∀ (k n:Nat) (w:LW),us.length-n=k->n<=us.length->(∀ s,w.gl s=NU (us.take n) s)->(∀ j,j<n->EQ us j=none) ->
  match fZ n (us.drop n) w with
  | .error q=>yx us=some q
  | .ok w'=>yx us=none/\∀ s,w'.gl s=NU us s
 | 0,n,w,hk,hn,c,d=>by
  have:n=us.length:=ad
  subst this;rw [Wn];rw [V1] at c;exact ⟨sK _ _ d,c⟩
 | k+1,n,w,hk,hn,c,d=>by
  have a:n<us.length:=ad
  rw [VU a];unfold fZ;have f:us[n]?=some us[n]:=VC a;have o:(fun g=>(w.gl g).isSome)=fun g=>(us.take n).any fun v=>fH v.aJ g:=by
   funext g
   rw [c,MH]
  have b:EQ us n=(us[n].aJ.find? fun g=>(w.gl g).isSome).map fun s=>(n,s):=by
   unfold EQ;rw [f,WY,o]
  cases h:us[n].aJ.find? fun g=>(w.gl g).isSome with
  | some g =>
   rw [h] at b;exact ql _ _ _ n a d b
  | none =>
   rw [h] at b;refine yP us k (n+1) (Eo n us[n] w) ad a (fun s=>?_) (fun j t=>?_)
   ·unfold Eo;rw [MT,Vt a];unfold NU;rw [Xq];have h0:=c s;unfold NU at h0;rw [<- h0]
    by_cases hi:fH us[n].aJ s=true
    ·rw [VE hi];have p:s∈us[n].aJ:=by
      unfold fH at hi;obtain ⟨x,i,l⟩:=WX.1 hi;rw [<- Vv l]; exact i
     have:=List.find?_eq_none.1 h s p
     have m:w.gl s=none:=by
      cases r:w.gl s with
      | none=>rfl
      | some q=>rw [r] at this; exact absurd rfl this
     rw [m];simp [List.findIdx?_cons,hi,List.length_take];omega
    ·rw [Vu hi];cases w.gl s <;> simp [List.findIdx?_cons,hi]
   ·by_cases e:j=n
    ·subst e; exact b
    ·exact d j ad
theorem rH (s:XA) (n:Nat):∀ (us:List bS) (m:Nat),(n,s)∈(df m us).map wR↔∃ u,m<=n/\us[n-m]?=some u/\(s∈dM u.text\/s∈dM u.data)
 | [],m=>by simp [df]
 | u::us,m=>by
  rw [df,VB,VG,rH s n us (m+1)];unfold GD;rw [VB,ml,ml,VG,Vy,Vy];constructor
  ·rintro ((⟨x,b,c⟩ | ⟨x,b,c⟩) | ⟨v,h1,h2,a⟩)
   ·cases c;exact ⟨u,VL _,ah,.inl b⟩
   ·cases c;exact ⟨u,VL _,ah,.inr b⟩
   ·refine ⟨v,ad,?_,a⟩;rw [show n-m=(n-(m+1))+1 from ad];exact h2
  ·rintro ⟨v,h1,h2,a⟩
   by_cases e:n=m
   ·subst e;rw [W1] at h2;cases h2;rcases a with a | a
    ·exact .inl (.inl ⟨s,a,rfl⟩)
    ·exact .inl (.inr ⟨s,a,rfl⟩)
   ·refine .inr ⟨v,ad,?_,a⟩;rw [show n-m=(n-(m+1))+1 from ad] at h2;exact h2
theorem ux (s:XA) (n:Nat):∀ (us:List bS) (m:Nat),(n,s)∈(eF m us).map iY↔∃ u,m<=n/\us[n-m]?=some u/\s∈u.aS.map (·.1)
 | [],m=>by simp [eF]
 | u::us,m=>by
  rw [eF,VB,VG,ux s n us (m+1),VN];constructor
  ·rintro (h | ⟨v,h1,h2,a⟩)
   ·obtain ⟨e,c,b⟩:=Vy.1 h;cases b;exact ⟨u,VL _,ah,Vy.2 ⟨e,c,rfl⟩⟩
   ·refine ⟨v,ad,?_,a⟩;rw [show n-m=(n-(m+1))+1 from ad];exact h2
  ·rintro ⟨v,h1,h2,a⟩
   by_cases e:n=m
   ·subst e;rw [W1] at h2;cases h2;obtain ⟨x,d,rfl⟩:=Vy.1 a;exact .inl (Vy.2 ⟨x,d,rfl⟩)
   ·refine .inr ⟨v,ad,?_,a⟩;rw [show n-m=(n-(m+1))+1 from ad] at h2;exact h2
def xH (l:List Ky) (k:Ky):(kf l k).isSome=true↔k∈l:=by
 constructor
 ·intro h;apply W6;intro hk;rw [nw.2 hk] at h;cases h
 ·intro h;obtain ⟨i,hi⟩:=Af h;rw [hi] <;> rfl
def Oo {us:List bS} (b:WI I (df 0 us) ((eF 0 us).map iY)) {u:bS} (a:us[H]?=some u) (s:XA):I.has (H,s)=true↔s∈cd u:=by
 unfold LW.has;rw [b.num,b.pP,Bool.or_eq_true,xH,xH,rH,ux];unfold cd;rw [VG,VG];simp only [Nat.sub_zero,Nat.zero_le,true_and];constructor
 ·rintro (⟨v,hv,h⟩ | ⟨v,hv,h⟩)
  ·rw [a] at hv; cases hv; exact .inl h
  ·rw [a] at hv; cases hv; exact .inr h
 ·rintro (h | h)
  ·exact .inl ⟨u,a,h⟩
  ·exact .inr ⟨u,a,h⟩
def KA {us:List bS} (a:WI I (df 0 us) ((eF 0 us).map iY)) (b:∀ s,I.gl s=NU us s) (hn:H<us.length) (s:XA):I.own H s=(pv us H s).map fun o=>(o,s):=by
 have hu:=VC hn;have h1:=Oo a hu s;have h2:fH (cd us[H]) s=true↔s∈cd us[H]:=by
  unfold fH;rw [WX];constructor
  ·rintro ⟨x,c,d⟩;rw [<- Vv d]; exact c
  ·intro h;exact ⟨s,h,Vw rfl⟩
 unfold LW.own pv;rw [hu,Option.map_some,b s]
 by_cases h:s∈cd us[H]
 ·rw [VE (h1.2 h),VE (by rw [h2.2 h])] <;> rfl
 ·rw [Vu fun x=>h (h1.1 x),Vu fun x=>h (h2.1 (VP x))] <;> rfl
def Ur (L:List Lb) (o:Nat) (s:XA):Option Nat:=L.findIdx? fun x=>decide (x.u=o) && decide (x.n=s)
def Hd (L:List Lb) (o:Nat) (s:XA):XA:=match Ur L o s with
 | some i=>⟨#[76]⟩++qt i
 | none=>((⟨#[69]⟩++qt o)++⟨#[95]⟩)++s
def Hw (us:List bS) (L:List Lb) (n:Nat) (s:XA):XA:=Hd L ((pv us n s).getD 0) s
def Ty (f:XA->XA) (s:XA):Option cL:=some (qn (f s))
def Es (us:List bS) (L:List Lb) (n:Nat) (x:cL):cL:=fg (Ty (Hw us L n)) x
def dR (us:List bS) (L:List Lb) (l:List bS):List (XA × cL):=(eF 0 l).map fun q=>(Hw us L q.1 q.2.1,Es us L q.1 q.2.2)
def nl (n:Nat):me n=qt n:=vS n
def Ef (n:Nat):∀ c,c∈Lib.decDigits n->c≠95:=by
 intro c hc e;rw [Lib.decDigits_eq] at hc;obtain ⟨t,_,rfl⟩:=Vy.1 hc;unfold Lib.dg at e;have h1:=VO UInt8.toNat e;have h2:(UInt8.ofNat (48+n / 10^(Lib.nDigits n-1-t) % 10)).toNat=48+n / 10^(Lib.nDigits n-1-t) % 10:=by
  rw [UInt8.toNat_ofNat'];omega
 rw [h2] at h1;have a:(95:UInt8).toNat=95:=rfl;omega
theorem PI:∀ {a b s t:List UInt8},(∀ c,c∈a->c≠95)->(∀ c,c∈b->c≠95)->a++95::s=b++95::t->a=b/\s=t
 | [],[],s,t,_,_,h=>by simpa using h
 | [],c::b,s,t,_,e,h=>by
  simp only [List.nil_append,List.cons_append,List.cons.injEq] at h;exact absurd h.1.symm (e c ah)
 | c::a,[],s,t,f,_,h=>by
  simp only [List.nil_append,List.cons_append,List.cons.injEq] at h;exact absurd h.1 (f c ah)
 | c::a,d::b,s,t,f,e,h=>by
  simp only [List.cons_append,List.cons.injEq] at h;obtain ⟨h1,h2⟩:=PI (fun x g=>f x (Vz _ g)) (fun x g=>e x (Vz _ g)) h.2;exact ⟨by rw [h.1,h1],h2⟩
def Cu (L:List Lb) (o:Nat) (s:XA):Ur L o s=kf (L.map wR) (o,s):=by
 unfold Ur kf;rw [List.findIdx?_map]
 congr 1
 funext x
 show _=decide (wR x=(o,s));unfold wR;rw [W7]
 simp
def Qe (L:List Lb) (k:Ky):XA:=Hd L k.1 k.2
def OD {k k':Ky} (h:Qe d k=Qe d k'):k=k':=by
 have f:∀ a b:XA,(⟨#[76]⟩:XA)++a≠(⟨#[69]⟩:XA)++b:=by
  intro a b e;have h1:=VO (fun b:XA=>b.data.toList) e;simp only [pV] at h1;simp at h1
 have has:∀ a b c:XA,((⟨#[69]⟩++a)++⟨#[95]⟩)++b=(⟨#[69]⟩:XA)++(a++(⟨#[95]⟩++b)):=by
  intro a b c;simp only [ByteArray.append_assoc]
 obtain ⟨o,s⟩:=k;obtain ⟨o',s'⟩:=k';unfold Qe Hd at h;rw [Cu,Cu] at h;cases h1:kf (d.map wR) (o,s) with
 | some i =>
  cases h2:kf (d.map wR) (o',s') with
  | some j =>
   rw [h1,h2] at h;have h:(⟨#[76]⟩:XA)++qt i=⟨#[76]⟩++qt j:=h;rw [<- nl,<- nl] at h
   have:=rC (vy h)
   subst this;obtain ⟨a,l⟩:=ja h1;obtain ⟨b,m⟩:=ja h2;rw [<- l,<- m]
  | none =>
   rw [h1,h2] at h;have h:(⟨#[76]⟩:XA)++qt i=((⟨#[69]⟩++qt o')++⟨#[95]⟩)++s':=h;rw [has _ _ ⟨#[]⟩] at h;exact absurd h (f _ _)
 | none =>
  cases h2:kf (d.map wR) (o',s') with
  | some j =>
   rw [h1,h2] at h;have h:((⟨#[69]⟩++qt o)++⟨#[95]⟩)++s=(⟨#[76]⟩:XA)++qt j:=h;rw [has _ _ ⟨#[]⟩] at h;exact absurd h.symm (f _ _)
  | none =>
   rw [h1,h2] at h;have h:((⟨#[69]⟩++qt o)++⟨#[95]⟩)++s=((⟨#[69]⟩++qt o')++⟨#[95]⟩)++s':=h;rw [has _ _ ⟨#[]⟩,has _ _ ⟨#[]⟩] at h;have h:=vy h;have h3:=VO (fun b:XA=>b.data.toList) h;simp only [pV] at h3;have p:Lib.decDigits o++95::s.data.toList=Lib.decDigits o'++95::s'.data.toList:=by
    have e:∀ n:Nat,(qt n).data.toList=Lib.decDigits n:=fun n=>by unfold qt; simp
    rw [e,e] at h3;simpa using h3
   obtain ⟨q,g⟩:=PI (Ef o) (Ef o') p;have r:o=o':=by
    apply rC;rw [nl,nl];unfold qt;rw [q]
   subst r
   congr 1
   cases s; cases s';simp only at g
   congr 1
   exact Array.ext' g
structure ir (us:List bS) (w:LW):Prop where
 right:∀ u,u∈us->ee u=0
 wi:WI w (df 0 us) ((eF 0 us).map iY)
 gl:∀ s,w.gl s=NU us s
def JW (us:List bS) (k:Ky):Prop:=k∈(df 0 us).map wR\/k∈(eF 0 us).map iY
def Ll {us:List bS} (c:us[H]?=some b) (a:U∈cd b):JW us (H,U):=by
 unfold cd at a;rw [VG,VG] at a;rcases a with a | a
 ·exact .inl ((rH U H us 0).2 ⟨b,WG _,by rw [Nat.sub_zero]; exact c,a⟩)
 ·exact .inr ((ux U H us 0).2 ⟨b,WG _,by rw [Nat.sub_zero]; exact c,a⟩)
def Db {u:bS} (h:ee u=0):∀ x,x∈u.aJ->x∈cd u:=by
 have h1:=(wv h).2;rw [nJ] at h1;unfold qG at h1;simp only [Bool.and_eq_true,decide_eq_true_eq] at h1;exact fun x a=>((xv _ _ _ h1.2.2.2.2).1 x a).1
def fw {l:List XA} :fH l U=true↔U∈l:=by
 unfold fH;rw [WX];constructor
 ·rintro ⟨x,a,b⟩;rw [<- Vv b]; exact a
 ·intro h;exact ⟨U,h,Vw rfl⟩
def H0 {us:List bS} (d:∀ u,u∈us->ee u=0) (h:pv us H U=some Z):JW us (Z,U):=by
 unfold pv at h;split at h
 ·rename_i a;cases h;cases b:us[H]? with
  | none=>rw [b] at a; cases a
  | some u =>
   rw [b] at a;exact Ll b (fw.1 (VP a))
 ·rw [Wj] at h;obtain ⟨c,h1,_⟩:=h;exact Ll (VC c) (Db (d _ (VA c)) U (fw.1 h1))
def JB {us:List bS} {n:Nat} (a:us[n]?=some b) (c:U∈cd b):pv us n U=some n:=by
 unfold pv;rw [a,Option.map_some,VE (by rw [fw.2 c])]
def Lg {us:List bS} (a:WI I (df 0 us) ((eF 0 us).map iY)) {k:Ky} (hk:JW us k) (hn:k∉(eF 0 us).map iY):I.word k=Qe (df 0 us) k:=by
 have hk:k∈(df 0 us).map wR:=hk.elim id fun h=>absurd h hn
 obtain ⟨i,hi⟩:=Af hk;unfold LW.word Qe Hd;rw [Cu,a.num];show (match kf ((df 0 us).map wR) k with | some n=>(⟨#[76]⟩:XA)++me n | none=>_)=match kf ((df 0 us).map wR) (k.1,k.2) with | some i=>(⟨#[76]⟩:XA)++qt i | none=>_
 rw [hi];show (⟨#[76]⟩:XA)++me i=⟨#[76]⟩++qt i;rw [nl]
def Tz (f:XA->Nat) (s:XA):mw f (qn s)=f s % 4294967296:=by
 unfold mw qn;show (0+(1*f s+0)) % 4294967296=_
 congr 1
 omega
def ir.own {us:List bS} {w:LW} (A:ir us w) {n:Nat} (hn:n<us.length) (s:XA):w.own n s=(pv us n s).map fun o=>(o,s):=KA A.wi A.gl hn s
def ir.rel {us:List bS} (A:ir us I) (hn:H<us.length) (c:I.bad H Y=none):Gt (JW us) I.word (Qe (df 0 us)) (I.di H Y) (Es us (df 0 us) H Y):=by
 intro f g a;unfold LW.di Es;rw [rE,rE];refine FF fun t d=>?_
 obtain ⟨k,hk⟩:=zu c t d;rw [A.own hn] at hk;obtain ⟨o,b,rfl⟩:=W2.1 hk;have hky:=H0 A.right b;unfold O9 Ty Hw;simp only [A.own hn,b,Option.map_some,Option.getD_some];rw [Tz,Tz,a _ hky] <;> rfl
def HD {us:List bS} (a:e∈eF 0 us):∃ u,us[e.1]?=some u/\e.2∈u.aS:=by
 obtain ⟨i,hi,h1,h2⟩:=uL us 0 e a;rw [V9] at h1;exact ⟨us[i],by rw [h1]; exact VC hi,h2⟩
def ir.two {us:List bS} (A:ir us I) (d:eS I 0 us=none):Ag (eF 0 us) iY (JW us) I.word (Qe (df 0 us)) (fun q=>I.di q.1 q.2.2) fun q=>Es us (df 0 us) q.1 q.2.2 where
 nd:=wm us 0 fun u b=>by
  have:=wj (A.right u b)
  unfold cd at this;rw [Wm] at this;exact this.2.1
 NA:=fun q a=>.inr (VM a)
 ia:=fun k k' hk c h=>word_inj A.wi hk c h
 ib:=fun k k' _ _ h=>OD h
 Iv:=fun k hk hn=>Lg A.wi hk hn
 rel:=fun q a=>by
  obtain ⟨u,b,_⟩:=HD a;exact A.rel (List.getElem?_eq_some_iff.1 b).1 (yv d a)
 fa:=fun q _=>jq _ _
 fb:=fun q _=>jq _ _
def QJ (w:LW) (us:List bS):rZ w us=wD (eF 0 us) iY w.word fun q=>w.di q.1 q.2.2:=rfl
def Ss (us:List bS):dR us (df 0 us) us=wD (eF 0 us) iY (Qe (df 0 us)) fun q=>Es us (df 0 us) q.1 q.2.2:=by
 unfold dR wD;refine V4 fun q a=>?_
 obtain ⟨u,b,c⟩:=HD a
 have:pv us q.1 q.2.1=some q.1:=JB b (by
  unfold cd;exact Wd _ (VM c))
 unfold Hw;rw [this] <;> rfl
def ir.T6 {us:List bS} {w:LW} (A:ir us w) (a:eS w 0 us=none):rR (rZ w us)=tY (rK (dR us (df 0 us) us)):=by
 rw [QJ,Ss];exact (A.two a).T6
def Iu {us:List bS} (A:ir us I) {n:Nat} (hn:n<us.length) (x:cL):I.bad n x=oK us n x:=by
 unfold LW.bad oK
 have:(fun t:XA × Nat=>(I.own n t.1).isNone)=fun t=>(pv us n t.1).isNone:=by
  funext t
  rw [A.own hn]
  all_goals (cases pv us n t.1 <;> rfl)
 rw [this]
def rz (w:LW) (n:Nat) (u:bS):my w n u=(bU u).findSome? (w.bad n):=by
 unfold my LW.ya bU;rw [Xl,Xl,List.findSome?_map,List.findSome?_map,List.findSome?_map,Option.or_assoc] <;> rfl
theorem C9 {us:List bS} {n:Nat}:∀ (l:List cL),(∀ x,x∈l->∀ t,t∈x.ai->¬ t.1.data.toList=[])->((F6 us n l).data.toList=[]↔l.findSome? (oK us n)=none)/\∀ s,l.findSome? (oK us n)=some s->F6 us n l=s
 | [],_=>by
  refine ⟨⟨fun _=>rfl,fun _=>rfl⟩,fun s c=>by cases c⟩
 | x::l,h=>by
  obtain ⟨d,f⟩:=C9 l fun y g=>h y (Vz _ g)
  have hx:=h x ah;have b:F6 us n (x::l)=if (qO us n x).data.toList=[] then F6 us n l else qO us n x:=by
   unfold F6;rw [VY,Xi]
   by_cases e:(qO us n x).data.toList=[]
   ·rw [VE e];simp [e]
   ·rw [Vu e];simp [e]
  rw [List.findSome?_cons];cases a:oK us n x with
  | none =>
   have:qO us n x=⟨#[]⟩:=by unfold qO; rw [a]; rfl
   rw [b,VE (by rw [this])];exact ⟨d,f⟩
  | some s =>
   have h1:qO us n x=s:=by unfold qO; rw [a]; rfl
   have h2:¬ s.data.toList=[]:=by
    unfold oK at a;obtain ⟨t,i,rfl⟩:=W2.1 a;exact hx t (List.mem_of_find?_eq_some i)
   rw [b,Vu (by rw [h1]; exact h2),h1];refine ⟨⟨fun k=>absurd k h2,fun k=>by cases k⟩,fun r j=>by cases j; rfl⟩
def Rr {us:List bS} (A:ir us I) (a:∀ u,u∈us->∀ x,x∈bU u->∀ t,t∈x.ai->¬ t.1.data.toList=[]) {n:Nat} (hn:n<us.length):Ie us n=(my I n us[n]).map fun s=>(n,s):=by
 have c:I.bad n=oK us n:=funext fun x=>Iu A hn x
 obtain ⟨h1,h2⟩:=C9 (us:=us) (n:=n) (bU us[n]) (a _ (VA hn));unfold Ie;rw [VC hn,WY,rz,c];cases b:(bU us[n]).findSome? (oK us n) with
 | none=>rw [VE (h1.2 b)]; rfl
 | some s =>
  rw [b] at h1;have h2:=h2 s b;rw [Vu (fun k=>by cases h1.1 k),h2] <;> rfl
theorem Ha {us:List bS} {w:LW} (A:ir us w) (b:∀ u,u∈us->∀ x,x∈bU u->∀ t,t∈x.ai->¬ t.1.data.toList=[]):∀ (k n:Nat),us.length-n=k->n<=us.length->(∀ j,j<n->Ie us j=none)->Rj us=eS w n (us.drop n)
 | 0,n,hk,hn,c=>by
  have:n=us.length:=ad
  subst this;rw [Wn];exact sK _ _ c
 | k+1,n,hk,hn,c=>by
  have a:n<us.length:=ad
  rw [oN w us n a];have hu:=Rr A b a;cases d:my w n us[n] with
  | some s =>
   rw [d] at hu;exact ql _ _ _ n a c hu
  | none =>
   rw [d] at hu;refine Ha A b k (n+1) ad a fun j f=>?_
   by_cases e:j=n
   ·subst e; exact hu
   ·exact c j ad
def NX (g:Good Y):∀ t,t∈Y.ai->¬ t.1.data.toList=[]:=by
 intro t a e;have h:=g.K9 t a;rw [e] at h;cases h
def Ot (g:Good Y):∀ t,t∈Y.ai->t.1.size<=32:=by
 intro t a;have h:=g.K9 t a;unfold cn at h;simp only [Bool.and_eq_true] at h
 have:=Vv h.1.1.1.2
 simpa using this
def RY (us:List bS):Except Fl LP->Prop
 | .error f=>f.Ar≠0/\(DC us=f\/((DC us).Ar=0/\(us.length<=64/\∃ w,ir us w/\eS w 0 us=none)/\∃ i q,tY (rK (dR us (df 0 us) us))=some i/\(eF 0 us)[i]?=some q/\f=⟨24,q.1,q.2.1⟩))
 | .ok P=>(DC us).Ar=0/\us.length<=64/\P.us=us/\P.D=rZ P.w us/\ir us P.w/\eS P.w 0 us=none/\rR (rZ P.w us)=none/\tY (rK (dR us (df 0 us) us))=none
def Pw {D:List (XA × cL)} (h:rR D=some H):H<D.length:=by
 unfold rR at h;rw [Wj] at h;exact h.1
def zw {us:List bS} (sm:∀ u,u∈us->∀ x,x∈bU u->x.num<4294967296/\∀ t,t∈x.ai->t.2<4294967296):RY us (jD us):=by
 unfold jD
 by_cases h0:us.length=0
 ·rw [VE h0];refine ⟨ah,.inl ?_⟩;unfold DC;rw [VE h0]
 rw [Vu h0]
 by_cases b:64<us.length
 ·rw [VE b];refine ⟨ah,.inl ?_⟩;unfold DC;rw [Vu h0,VE b]
 rw [Vu b];have a:DC us=match us.findIdx? fun u=>decide (ee u≠0) with
  | some n=>⟨31,n,dA⟩
  | none=>match yx us with
   | some q=>⟨22,q.1,q.2⟩
   | none=>match Rj us with
    | some q=>⟨23,q.1,q.2⟩
    | none=>⟨0,0,dA⟩:=by
  unfold DC;rw [Vu h0,Vu b] <;> rfl
 cases e:us.findIdx? fun u=>decide (ee u≠0) with
 | some n =>
  rw [e] at a;exact ⟨ah,.inl a⟩
 | none =>
  rw [e] at a;have f:∀ u,u∈us->ee u=0:=by
   intro u hu;rw [Wv] at e
   have:=VI (e u hu)
   omega
  have i0:=K8 f;have g:∀ s,(gV 0 us FR).gl s=none:=by
   have p:∀ (n sec:Nat) (l:List cv) (i:Nat) (w:LW),(gp n sec i l w).gl=w.gl:=by
    intro n sec l
    induction l with
    | nil=>intro i w; rfl
    | cons x l d =>
     intro i w;rw [gp,d];unfold hY;split <;> rfl
   have y:∀ (n:Nat) (l:List jn) (w:LW),(l.foldl (r7 n) w).gl=w.gl:=by
    intro n l
    induction l with
    | nil=>intro w; rfl
    | cons x l d=>intro w; rw [V2,d]; rfl
   have z:∀ (l:List bS) (n:Nat) (w:LW),(gV n l w).gl=w.gl:=by
    intro l
    induction l with
    | nil=>intro n w; rfl
    | cons u l d =>
     intro n w;rw [gV,d];unfold CF;rw [y,p,p]
   intro s;rw [z] <;> rfl
  have hm:=yP us us.length 0 (gV 0 us FR) ad (WG _) (fun s=>by rw [g]; rfl) (fun j h=>absurd h ad);rw [Xz] at hm;simp only;cases k:fZ 0 us (gV 0 us FR) with
  | error q =>
   rw [k] at hm;have hm:yx us=some q:=hm;rw [hm] at a;exact ⟨ah,.inl a⟩
  | ok w =>
   rw [k] at hm;obtain ⟨B,C⟩:yx us=none/\∀ s,w.gl s=NU us s:=hm
   rw [B] at a;have A:ir us w:=⟨f,i0.meet k,C⟩
   have m:∀ u,u∈us->∀ x,x∈bU u->∀ t,t∈x.ai->¬ t.1.data.toList=[]:=fun u hu x D=>NX (zO (f u hu) (sm u hu) x D)
   have hu:=Ha A m us.length 0 ad (WG _) (fun j h=>absurd h ad);rw [Xz] at hu;rw [hu] at a;cases c:eS w 0 us with
   | some q =>
    rw [c] at a;simp only [c];exact ⟨ah,.inl a⟩
   | none =>
    rw [c] at a;have r:(DC us).Ar=0:=by rw [a]
    have hcy:=A.T6 c;cases hc:rR (rZ w us) with
    | some i =>
     have hi:=Pw hc;have hi:i<(eF 0 us).length:=by unfold rZ at hi; rwa [Vr] at hi
     simp only [c,hc];refine ⟨ah,.inr ⟨r,⟨ad,w,A,c⟩,i,(eF 0 us)[i],by rw [<- hcy,hc],VC hi,?_⟩⟩;have o:((eF 0 us).map fun q=>(q.1,q.2.1)).getD i (0,dA)=((eF 0 us)[i].1,(eF 0 us)[i].2.1):=by
      rw [V3,Wa,VC hi] <;> rfl
     rw [o]
    | none =>
     simp only [c,hc];exact ⟨r,ad,rfl,rfl,A,c,hc,by rw [<- hcy,hc]⟩
def qN (s:XA):XA:=⟨#[81,95]⟩++s
def uj (s:XA):(qN s).data.toList=81::95::s.data.toList:=by
 unfold qN;rw [pV] <;> rfl
def QA {t:XA} (h:qN U=qN t):U=t:=by
 have:=VO (fun z=>z.data.toList) h
 simp only [uj,List.cons.injEq,true_and] at this;exact DW this
def Aj (s:XA):Prop:=¬ (2<s.data.toList.length/\s.data.toList.take 2=[81,95])
def PC (h:0<U.data.toList.length):¬ Aj (qN U):=fun hn=>hn ⟨by rw [uj]; simp; simpa using h,by rw [uj]; rfl⟩
def A1 (A G:List XA) (s:XA):XA:=if fH A s && !fH G s then qN s else s
def sV (t:XA × Nat):dt->dt
 | []=>[t]
 | p::l=>if (p::l).all fun q=>decide (iB t.1 q.1) then t::p::l else p::sV t l
def fV (ρ:XA->XA) (l:dt):dt:=l.foldl (fun out t=>sV (ρ t.1,t.2) out) []
def eM (u:bS) (s:XA):XA:=A1 (cd u) u.aJ s
def lR (u:bS) (x:cL):cL:=⟨fV (eM u) x.ai,x.num⟩
def dx (u:bS) (x:cv):cv:={ x with name:=eM u x.name,e:=lR u x.e }
def iJ (u:bS) (e:jn):jn:=(eM u e.1,lR u e.2)
def cq (u:bS):bS:=⟨u.text.map (dx u),u.data.map (dx u),u.aS.map (iJ u),u.aJ⟩
structure lH (u:bS):Prop where
 right:ee u=0
 nm:∀ s,s∈cd u->s.data.toList.length<=28/\Aj s
 tm:∀ x,x∈bU u->∀ t,t∈x.ai->Aj t.1
theorem rN (t:XA × Nat):∀ (l:dt),(sV t l).Perm (t::l)
 | []=>Xn _
 | p::l=>by
  unfold sV;split
  ·exact Xn _
  ·exact ((rN t l).cons p).trans (List.Perm.swap t p l)
theorem Bs (t:XA × Nat):∀ (l:dt),(l.Pairwise fun p q=>iB p.1 q.1)->(∀ p,p∈l->p.1≠t.1)->(sV t l).Pairwise fun p q=>iB p.1 q.1
 | [],_,_=>List.pairwise_singleton _ _
 | p::l,h,hn=>by
  unfold sV;split
  ·next d =>
   rw [VT] at d;exact Wt.2 ⟨fun q b=>Vv (d q b),h⟩
  ·next d =>
   obtain ⟨h1,h2⟩:=Wt.1 h;refine Wt.2 ⟨fun q b=>?_,Bs t l h2 fun q b=>hn q (Vz _ b)⟩;rcases VK.1 ((rN t l).mem_iff.1 b) with rfl | b
   ·by_cases c:iB p.1 q.1
    ·exact c
    ·exfalso;refine d (VT.2 fun r f=>?_);have a:iB q.1 p.1:=by
      by_cases a:iB q.1 p.1
      ·exact a
      ·exact absurd (C0 _ _ a c) (fun e=>hn p ah e.symm)
     rcases VK.1 f with rfl | f
     ·exact Vw a
     ·exact Vw (kn a (h1 r f))
   ·exact h1 q b
theorem G1 (t:XA × Nat):∀ (l:dt) (k:Nat),k<=l.length->(∀ j,(a:j<l.length)->k<=j->iB t.1 l[j].1)->(∀ (hk:0<k) (h:k-1<l.length),¬ iB t.1 l[k-1].1)->sV t l=l.take k++t::l.drop k
 | [],k,_,_,_=>by simp [sV]
 | p::l,0,_,h1,_=>by
  unfold sV;rw [VE (VT.2 fun q d=>?_)]
  ·rfl
  ·obtain ⟨j,a,rfl⟩:=VV d;exact Vw (h1 j a (WG _))
 | p::l,k+1,hk,h1,h2=>by
  have hk:k<=l.length:=by simpa using hk
  unfold sV;rw [Vu]
  ·rw [G1 t l k hk (fun j a f=>h1 (j+1) (by simpa using a) ad) (fun g h=>?_)]
   ·rfl
   ·have:=h2 ad (by simp; omega)
    simp only [Nat.add_sub_cancel] at this;have e:(p::l)[k]'(by simp; omega)=l[k-1]:=by
     obtain ⟨m,rfl⟩:∃ m,k=m+1:=⟨k-1,ad⟩
     simp
    rwa [e] at this
  ·intro c;rw [VT] at c;have b:k<(p::l).length:=by simp; omega
   have:=h2 ad (by simp; omega)
   simp only [Nat.add_sub_cancel] at this;exact this (Vv (c _ (VA b)))
def nS (ρ:XA->XA) (l:dt):(fV ρ l).Perm (l.map fun t=>(ρ t.1,t.2)):=by
 unfold fV
 have:∀ (l out:dt),(l.foldl (fun out t=>sV (ρ t.1,t.2) out) out).Perm (out++l.map fun t=>(ρ t.1,t.2)):=by
  intro l
  induction l with
  | nil=>intro out; simp
  | cons t l a =>
   intro out;rw [V2,VY];refine (a _).trans ?_;refine ((rN _ out).append_right _).trans ?_;exact (List.perm_middle).symm
 exact this l []
def Jw (ρ:XA->XA) (l:dt) (hn:(l.map fun t=>ρ t.1).Nodup):(fV ρ l).Pairwise fun p q=>iB p.1 q.1:=by
 unfold fV
 have:∀ (l out:dt),(out.Pairwise fun p q=>iB p.1 q.1)->(l.map fun t=>ρ t.1).Nodup->(∀ p,p∈out->∀ t,t∈l->p.1≠ρ t.1)->(l.foldl (fun out t=>sV (ρ t.1,t.2) out) out).Pairwise fun p q=>iB p.1 q.1:=by
  intro l
  induction l with
  | nil=>intro out h _ _; exact h
  | cons t l d =>
   intro out h hn b;rw [VY,WN] at hn;rw [V2];refine d _ (Bs _ _ h fun p a=>b p a t ah) hn.2 fun p a r c=>?_
   rcases VK.1 ((rN _ _).mem_iff.1 a) with rfl | a
   ·exact fun e=>hn.1 (Vy.2 ⟨r,c,e.symm⟩)
   ·exact b p a r (Vz _ c)
 exact this l [] List.Pairwise.nil hn ah
def qS {ρ:XA->XA} {l:dt} {p:XA × Nat}:p∈fV ρ l↔∃ t,t∈l/\p=(ρ t.1,t.2):=by
 rw [(nS ρ l).mem_iff,Vy];constructor <;> rintro ⟨t,h1,h2⟩ <;> exact ⟨t,h1,h2.symm⟩
section
variable {u:bS}
def Gi (h:ee u=0):(∀ x,x∈u.text->bY x 0=true)/\(∀ x,x∈u.data->bY x 1=true)/\(∀ e,e∈u.aS->yd e=true)/\(cd u).Nodup/\cF (cd u) dA u.aJ=true:=by
 have:=(wv h).2
 rw [nJ] at this;unfold qG at this;rw [VJ,VJ,VJ,VJ,VT,VT,VT,decide_eq_true_iff] at this;exact ⟨this.1,this.2.1,this.2.2.1,this.2.2.2.1,this.2.2.2.2⟩
variable {I:Nat}
def BV {x:cv} (h:bY x I=true) (hk:x.kind=1):cn x.name.data.toList=true:=by
 unfold bY at h;rw [VE hk] at h;simp only [Bool.and_eq_true] at h;exact h.1.1.1
def uI {l:List cv} {s:XA}:s∈dM l↔∃ x,x∈l/\x.kind=1/\x.name=s:=by
 unfold dM;rw [Vy];constructor
 ·rintro ⟨x,a,rfl⟩;obtain ⟨h1,h2⟩:=Xu.1 a;exact ⟨x,h1,Vv h2,rfl⟩
 ·rintro ⟨x,h1,h2,rfl⟩;exact ⟨x,Xu.2 ⟨h1,Vw h2⟩,rfl⟩
def wu (h:ee u=0):∀ s,s∈cd u->cn s.data.toList=true:=by
 obtain ⟨h1,h2,c,_⟩:=Gi h;intro s a;unfold cd at a;rcases VG.1 a with a | a
 ·rcases VG.1 a with a | a
  ·obtain ⟨x,b,hk,rfl⟩:=uI.1 a;exact BV (h1 x b) hk
  ·obtain ⟨x,b,hk,rfl⟩:=uI.1 a;exact BV (h2 x b) hk
 ·obtain ⟨e,d,rfl⟩:=Vy.1 a
  have:=c e d
  unfold yd at this;exact (VJ _ _▸this).1
def mS {s:List UInt8} (h:cn s=true):0<s.length/\s.length<=32:=by
 unfold cn at h;simp only [Bool.and_eq_true,decide_eq_true_eq] at h;exact ⟨h.1.1.1.1,h.1.1.1.2⟩
variable {H:XA}
def Pt (h:cn H.data.toList=true) (hl:H.data.toList.length<=28):cn (qN H).data.toList=true:=by
 have hp:=(mS h).1;rw [uj];unfold cn at h ⊢;simp only [Bool.and_eq_true,decide_eq_true_eq,Bool.not_eq_true'] at h ⊢;refine ⟨⟨⟨⟨ah,by rw [Wc,Wc]; omega⟩,rfl⟩,?_⟩,by rw [ze (by rw [Wc,Wc]; omega)]⟩;rw [W8,W8,h.1.2] <;> rfl
def CY {s:XA} (h:s∉cd u):eM u s=s:=by
 unfold eM A1;rw [Vu];rw [VJ,fw];exact fun a=>h a.1
def nX (u:bS) (s:XA):eM u s=s\/(eM u s=qN s/\s∈cd u/\s∉u.aJ):=by
 unfold eM A1;split
 ·next h =>
  rw [VJ,fw,Bool.not_eq_true',<- Bool.not_eq_true,fw] at h;exact .inr ⟨rfl,h⟩
 ·exact .inl rfl
def DF {s:XA} (h:s∈u.aJ):eM u s=s:=by
 rcases nX u s with h1 | ⟨_,_,h1⟩
 ·exact h1
 ·exact absurd h h1
def yp (r:lH u) {t:XA} (b:Aj H) (c:Aj t) (h:eM u H=eM u t):H=t:=by
 have pos:∀ z,z∈cd u->0<z.data.toList.length:=fun z d=>(mS (wu r.right z d)).1
 rcases nX u H with h1 | ⟨h1,h2,_⟩ <;> rcases nX u t with a | ⟨a,e,_⟩
 ·rw [h1,a] at h; exact h
 ·rw [h1,a] at h;subst h;exact absurd b (PC (pos t e))
 ·rw [h1,a] at h;subst h;exact absurd c (PC (pos H h2))
 ·rw [h1,a] at h;exact QA h
def wg (r:lH u) (h:cn H.data.toList=true):cn (eM u H).data.toList=true:=by
 rcases nX u H with h1 | ⟨h1,h2,_⟩
 ·rw [h1]; exact h
 ·rw [h1];exact Pt h (r.nm H h2).1
def tu (r:lH u) {x:cL} (d:∀ t,t∈x.ai->Aj t.1) (h:lB none x.ai=true):lB none (lR u x).ai=true:=by
 obtain ⟨h1,h2,_⟩:=C2 h;refine RF (fun p g=>?_) (Jw _ _ ?_) ah
 ·obtain ⟨t,f,rfl⟩:=qS.1 g;exact ⟨wg r (h1 t f).1,(h1 t f).2⟩
 ·rw [Wu,Wl];refine W9 (fun {a b} i j c e=>?_) h2;exact jP c (yp r (d a i) (d b j) e)
def K0 {x:cL}:Io (lR u x)=Io x:=by
 unfold Io
 have:(lR u x).ai=[]↔x.ai=[]:=by
  constructor
  ·intro h
   have:=(nS (eM u) x.ai).length_eq
   rw [show fV (eM u) x.ai=[] from h,Vr] at this;exact Wk this.symm
  ·intro h;show fV (eM u) x.ai=[];rw [h] <;> rfl
 rw [show (lR u x).num=x.num from rfl]
 congr 1
 exact Xs.2 this
def DL (r:lH u) {x:cv} (p:x.kind=1->x.name∈cd u) (m:∀ t,t∈x.e.ai->Aj t.1) (h:bY x I=true):bY (dx u x) I=true:=by
 have i:z3 (dx u x)=z3 x:=K0;have d:dA∉cd u:=fun hh=>by
  have:=(mS (wu r.right _ hh)).1
  simp [dA] at this
 have a:z1 x=true->z1 (dx u x)=true:=by
  unfold z1;intro hh;have hh:=Vv hh;show decide (eM u x.name=dA)=true;rw [hh,CY d];exact Vw rfl
 have f:tV x.inst x.e=true->tV x.inst (lR u x.e)=true:=by
  unfold tV;intro hh;rw [VJ] at hh ⊢;refine ⟨hh.1,?_⟩;have hh:=hh.2;split at hh
  ·next j =>
   rw [VE j];rw [VJ] at hh ⊢;exact ⟨hh.1,tu r m hh.2⟩
  ·next j =>
   rw [Vu j,K0];exact hh
 unfold bY at h ⊢;rw [show (dx u x).kind=x.kind from rfl,show (dx u x).n=x.n from rfl,show (dx u x).inst=x.inst from rfl,show (dx u x).e=lR u x.e from rfl,show z2 (dx u x)=z2 x from rfl,i,show z4 (dx u x)=z4 x from rfl]
 repeat' split at h
 all_goals first
  | (rename_i h1; rw [VE h1]; simp only [Bool.and_eq_true] at h ⊢; exact ⟨⟨⟨wg r h.1.1.1,h.1.1.2⟩,h.1.2⟩,h.2⟩)
  | skip
 ·next h1 h2 =>
  rw [Vu h1,VE h2];simp only [Bool.and_eq_true] at h ⊢;exact ⟨⟨⟨h.1.1.1,f h.1.1.2⟩,a h.1.2⟩,h.2⟩
 ·next h1 h2 b =>
  rw [Vu h1,Vu h2,VE b];simp only [Bool.and_eq_true] at h ⊢;exact ⟨⟨⟨h.1.1.1,a h.1.1.2⟩,h.1.2⟩,h.2⟩
 ·next h1 h2 b c =>
  rw [Vu h1,Vu h2,Vu b,VE c];simp only [Bool.and_eq_true] at h ⊢;exact ⟨⟨⟨⟨h.1.1.1.1,a h.1.1.1.2⟩,h.1.1.2⟩,h.1.2⟩,h.2⟩
 ·next h1 h2 b c g =>
  rw [Vu h1,Vu h2,Vu b,Vu c,VE g];simp only [Bool.and_eq_true] at h ⊢;exact ⟨⟨⟨⟨⟨h.1.1.1.1.1,h.1.1.1.1.2⟩,h.1.1.1.2⟩,a h.1.1.2⟩,h.1.2⟩,h.2⟩
 ·next h1 h2 b c g l =>
  rw [Vu h1,Vu h2,Vu b,Vu c,Vu g,VE l];simp only [Bool.and_eq_true] at h ⊢;exact ⟨⟨⟨⟨h.1.1.1.1,tu r m h.1.1.1.2⟩,a h.1.1.2⟩,h.1.2⟩,h.2⟩
 ·next h1 h2 b c g l o =>
  rw [Vu h1,Vu h2,Vu b,Vu c,Vu g,Vu l,VE o];simp only [Bool.and_eq_true] at h ⊢;exact ⟨⟨⟨⟨⟨h.1.1.1.1.1,h.1.1.1.1.2⟩,h.1.1.1.2⟩,a h.1.1.2⟩,h.1.2⟩,h.2⟩
 ·cases h
def rM (l:List cv):dM (l.map (dx u))=(dM l).map (eM u):=by
 unfold dM;rw [List.filter_map,VN,VN] <;> rfl
def zg:cd (cq u)=(cd u).map (eM u):=by
 unfold cd;show dM (u.text.map (dx u))++dM (u.data.map (dx u))++(u.aS.map (iJ u)).map (·.1)=_;rw [rM,rM,VB,VB,VN,VN] <;> rfl
theorem AK (r:lH u):∀ (l:List XA) (o:XA),(∀ s,s∈l->s∈u.aJ)->cF (cd u) o l=true->cF (cd (cq u)) o l=true
 | [],_,_,_=>rfl
 | s::l,o,hl,h=>by
  unfold cF at h ⊢;rw [VJ] at h ⊢;refine ⟨?_,AK r l s (fun t a=>hl t (Vz _ a)) h.2⟩;have h1:=h.1;unfold NC at h1 ⊢;rw [VJ,fw] at h1 ⊢;refine ⟨?_,h1.2⟩;rw [zg,Vy];exact ⟨s,h1.1,DF (hl s ah)⟩
def D6 (r:lH u):ee (cq u)=0:=by
 obtain ⟨h1,h2,h,i,j⟩:=Gi r.right;have hm:=(wv r.right).1;have hl:∀ x,x∈u.text->x.e∈bU u:=fun x c=>by unfold bU; simp only [List.mem_append,List.mem_map]; exact .inl (.inl ⟨x,c,rfl⟩)
 have k:∀ x,x∈u.data->x.e∈bU u:=fun x c=>by unfold bU; simp only [List.mem_append,List.mem_map]; exact .inl (.inr ⟨x,c,rfl⟩)
 have l:∀ x,x∈u.aS->x.2∈bU u:=fun x c=>by unfold bU; simp only [List.mem_append,List.mem_map]; exact .inr ⟨x,c,rfl⟩
 have mt:∀ x,x∈u.text->x.kind=1->x.name∈cd u:=fun x c hk=>by unfold cd; simp only [List.mem_append]; exact .inl (.inl (uI.2 ⟨x,c,hk,rfl⟩))
 have m:∀ x,x∈u.data->x.kind=1->x.name∈cd u:=fun x c hk=>by unfold cd; simp only [List.mem_append]; exact .inl (.inr (uI.2 ⟨x,c,hk,rfl⟩))
 unfold ee;have f:lW (cq u)=lW u:=by
  unfold lW cq;simp only [List.length_map]
 rw [f,hm,Vu ah,VE];rw [nJ];unfold qG;rw [VJ,VJ,VJ,VJ,VT,VT,VT,decide_eq_true_iff];refine ⟨?_,?_,?_,?_,AK r _ _ (fun s n=>n) j⟩
 ·intro y d;obtain ⟨x,c,rfl⟩:=Vy.1 (show y∈u.text.map (dx u) from d);exact DL r (mt x c) (r.tm _ (hl x c)) (h1 x c)
 ·intro y d;obtain ⟨x,c,rfl⟩:=Vy.1 (show y∈u.data.map (dx u) from d);exact DL r (m x c) (r.tm _ (k x c)) (h2 x c)
 ·intro y d;obtain ⟨x,c,rfl⟩:=Vy.1 (show y∈u.aS.map (iJ u) from d)
  have:=h x c
  unfold yd at this ⊢;rw [VJ] at this ⊢;exact ⟨wg r this.1,tu r (r.tm _ (l x c)) this.2⟩
 ·rw [zg,Wu,Wl];refine W9 (fun {a b} o p g e=>?_) (Wu.1 i);exact g (yp r (r.nm a o).2 (r.nm b p).2 e)
end
def HZ (F:Nat->bS) (k:Ky):Ky:=(k.1,eM (F k.1) k.2)
theorem Ae (F:Nat->bS):∀ (l:List bS) (n:Nat),(∀ i,(hi:i<l.length)->F (n+i)=l[i])->(df n (l.map cq)).map wR=((df n l).map wR).map (HZ F)
 | [],n,_=>rfl
 | u::l,n,a=>by
  have h0:F n=u:=by have:=a 0 ah; simpa using this
  rw [VY,df,df,VB,VB,VB,Ae F l (n+1) (fun i hi=>by
   have:=a (i+1) (by simpa using hi)
   rw [show n+(i+1)=n+1+i from ad] at this;rw [this];rfl)]
  congr 1
  unfold GD;show ((wX n 0 0 (u.text.map (dx u))++wX n 1 0 (u.data.map (dx u))).map wR)=_;rw [VB,ml,ml,rM,rM,VB,ml,ml,VB];simp only [List.map_map]
  congr 1 <;> refine V4 fun s _=>?_ <;> simp [HZ,h0]
theorem Dv (F:Nat->bS):∀ (l:List bS) (n:Nat),(∀ i,(hi:i<l.length)->F (n+i)=l[i])->eF n (l.map cq)=(eF n l).map fun q=>(q.1,iJ (F q.1) q.2)
 | [],n,_=>rfl
 | u::l,n,a=>by
  have h0:F n=u:=by have:=a 0 ah; simpa using this
  rw [VY,eF,eF,VB,Dv F l (n+1) (fun i hi=>by
   have:=a (i+1) (by simpa using hi)
   rw [show n+(i+1)=n+1+i from ad] at this;rw [this];rfl)]
  congr 1
  show (u.aS.map (iJ u)).map (fun e=>(n,e))=_;rw [VN,VN];refine V4 fun e _=>?_
  simp [h0]
def Em {f:Ky->Ky} {l:List Ky} {k:Ky} (h:∀ x,x∈l->f x=f k->x=k):kf (l.map f) (f k)=kf l k:=by
 unfold kf
 induction l with
 | nil=>rfl
 | cons x l a =>
  rw [VY,List.findIdx?_cons,List.findIdx?_cons,a fun y b=>h y (Vz _ b)]
  have:decide (f x=f k)=decide (x=k):=by
   rw [Xs];exact ⟨h x ah,fun e=>by rw [e]⟩
  rw [this]
section
variable {us:List bS}
variable {I:Ky}
def LQ (h:JW us I):∃ u,us[I.1]?=some u/\I.2∈cd u:=by
 obtain ⟨n,s⟩:=I;rcases h with h | h
 ·obtain ⟨u,_,h1,h2⟩:=(rH s n us 0).1 h;refine ⟨u,h1,?_⟩;unfold cd;rw [VG,VG];exact .inl h2
 ·obtain ⟨u,_,h1,h2⟩:=(ux s n us 0).1 h;refine ⟨u,h1,?_⟩;unfold cd;rw [VG];exact .inr h2
def FU (us:List bS) (n:Nat):bS:=us.getD n UD
variable {H:Nat}
def D8 (hn:H<us.length):FU us H=us[H]:=by
 unfold FU;rw [V3,VC hn] <;> rfl
def Rz {u:bS} (h:us[H]?=some u):FU us H=u:=by
 unfold FU;rw [V3,h] <;> rfl
def My (d:∀ u,u∈us->lH u) {k':Ky} (h1:JW us I) (h2:JW us k') (h:HZ (FU us) I=HZ (FU us) k'):I=k':=by
 obtain ⟨u,a,b⟩:=LQ h1;obtain ⟨v,hv,c⟩:=LQ h2;obtain ⟨n,s⟩:=I;obtain ⟨m,t⟩:=k';unfold HZ at h;simp only [Prod.mk.injEq] at h a hv b c;obtain ⟨rfl,h⟩:=h;rw [a] at hv;cases hv;rw [Rz a] at h;have r:=d u (List.mem_of_getElem? a);rw [yp r (r.nm s b).2 (r.nm t c).2 h]
def Du:(df 0 (us.map cq)).map wR=((df 0 us).map wR).map (HZ (FU us)) :=
 Ae _ us 0 fun i hi=>by rw [V9]; exact D8 hi
def Ey:eF 0 (us.map cq)=(eF 0 us).map fun q=>(q.1,iJ (FU us q.1) q.2) :=
 Dv _ us 0 fun i hi=>by rw [V9]; exact D8 hi
def BG:(eF 0 (us.map cq)).map iY=((eF 0 us).map iY).map (HZ (FU us)):=by
 rw [Ey,VN,VN] <;> rfl
variable {w w':LW}
def BC (b:∀ u,u∈us->lH u) (A:ir us w) (B:ir (us.map cq) w') {k:Ky} (hk:JW us k):w'.word (HZ (FU us) k)=w.word k:=by
 have c:w'.num (HZ (FU us) k)=w.num k:=by
  rw [B.wi.num,A.wi.num,Du];exact Em fun x a e=>My b (.inl a) hk e
 have d:w'.pP (HZ (FU us) k)=w.pP k:=by
  rw [B.wi.pP,A.wi.pP,BG];exact Em fun x a e=>My b (.inr a) hk e
 unfold LW.word;rw [c,d]
def IA (d:∀ u,u∈us->lH u) (hn:H<us.length) {s:XA} (f:Aj s):pv (us.map cq) H (eM us[H] s)=pv us H s:=by
 have r:=d _ (VA hn);have b:fH (cd (cq us[H])) (eM us[H] s)=fH (cd us[H]) s:=by
  rw [W7,fw,fw,zg,Vy];constructor
  ·rintro ⟨t,c,e⟩;rw [<- yp r (r.nm t c).2 f e];exact c
  ·exact fun h=>⟨s,h,rfl⟩
 unfold pv;rw [Wa,VC hn];simp only [Option.map_some,b,Option.some.injEq];split
 ·rfl
 ·next h =>
  have a:s∉cd us[H]:=fun g=>h (fw.2 g)
  rw [CY a,List.findIdx?_map] <;> rfl
def Je {o:Nat} (hn:H<us.length) {s:XA} (h:pv us H s=some o):eM us[H] s=eM (FU us o) s:=by
 unfold pv at h;rw [VC hn] at h;split at h
 ·cases h;rw [D8 hn]
 ·next a =>
  rw [Option.map_some,Option.some.injEq] at a;have b:s∉cd us[H]:=fun c=>a (fw.2 c)
  rw [Wj] at h;obtain ⟨d,h1,_⟩:=h;rw [CY b,D8 d,DF (fw.1 h1)]
def zF (a:∀ u,u∈us->lH u) (A:ir us w) (B:ir (us.map cq) w') (hn:H<us.length) {s:XA} (b:Aj s):w'.own H (eM us[H] s)=(w.own H s).map (HZ (FU us)):=by
 rw [B.own (by rw [Vr]; exact hn),A.own hn,IA a hn b,Option.map_map];cases h:pv us H s with
 | none=>rfl
 | some o =>
  simp only [Option.map_some,Option.some.injEq,Function.comp_apply];unfold HZ;simp only;rw [Je hn h]
def Jy (g:XA->Nat) {l m:dt} (h:l.Perm m):fe g l=fe g m:=by
 induction h with
 | nil=>rfl
 | cons x _ c=>rw [dq,dq,c]
 | swap x y l=>simp only [dq]; omega
 | trans _ _ a b=>exact a.trans b
theorem Et (g h:XA->Nat) (ρ:XA->XA):∀ (l:dt),(∀ t,t∈l->g (ρ t.1)=h t.1)->fe g (l.map fun t=>(ρ t.1,t.2))=fe h l
 | [],_=>rfl
 | t::l,e=>by
  rw [VY,dq,dq,Et g h ρ l fun u a=>e u (Vz _ a),e t ah]
def C7 (a:∀ u,u∈us->lH u) (A:ir us w) (B:ir (us.map cq) w') (hn:H<us.length) {x:cL} (e:x∈bU us[H]) (c:x.num<4294967296) (g:w.bad H x=none):w'.di H (lR us[H] x)=w.di H x:=by
 have r:=a _ (VA hn);refine Oj (jq _ _) (jq _ _) (qy c) (qy c) fun f=>?_
 unfold LW.di;rw [rE,rE];unfold mw;show (x.num+fe _ (fV (eM us[H]) x.ai)) % _=_;rw [Jy _ (nS _ _),Et _ _ _ _ fun t d=>?_];have hq:=r.tm x e t d;obtain ⟨k,hk⟩:=zu g t d;have hown:=zF a A B hn hq;rw [hk] at hown;unfold O9;simp only [hk,hown,Option.map_some];have b:JW us k:=by
  rw [A.own hn] at hk;obtain ⟨o,h,rfl⟩:=W2.1 hk;exact H0 A.right h
 rw [BC a A B b]
def Fa (b:∀ u,u∈us->lH u) (A:ir us w) (B:ir (us.map cq) w') (hn:H<us.length) {x:cL} (c:x∈bU us[H]):(w'.bad H (lR us[H] x)).isSome=(w.bad H x).isSome:=by
 have r:=b _ (VA hn);unfold LW.bad;rw [Option.isSome_map,Option.isSome_map,W7,List.find?_isSome,List.find?_isSome];constructor
 ·rintro ⟨p,d,h⟩;obtain ⟨t,a,rfl⟩:=qS.1 d;refine ⟨t,a,?_⟩;rw [zF b A B hn (r.tm x c t a),Option.isNone_map] at h;exact h
 ·rintro ⟨t,a,h⟩;refine ⟨(eM us[H] t.1,t.2),qS.2 ⟨t,a,rfl⟩,?_⟩;rw [zF b A B hn (r.tm x c t a),Option.isNone_map];exact h
def rB (u:bS):bU (cq u)=(bU u).map (lR u):=by
 unfold bU cq;simp only [List.map_append,List.map_map] <;> rfl
def Jr (b:∀ u,u∈us->lH u) (A:ir us w) (B:ir (us.map cq) w') (hn:H<us.length):(my w' H (cq us[H])).isSome=(my w H us[H]).isSome:=by
 rw [rz,rz,rB,W7,List.findSome?_isSome_iff,List.findSome?_isSome_iff];constructor
 ·rintro ⟨y,c,h⟩;obtain ⟨x,a,rfl⟩:=Vy.1 c;exact ⟨x,a,by rw [Fa b A B hn a] at h; exact h⟩
 ·rintro ⟨x,a,h⟩;exact ⟨_,VM a,by rw [Fa b A B hn a]; exact h⟩
theorem yN (b:∀ u,u∈us->lH u) (A:ir us w) (B:ir (us.map cq) w'):∀ (k n:Nat),us.length-n=k->n<=us.length->(eS w' n ((us.map cq).drop n)).map (·.1)=(eS w n (us.drop n)).map (·.1)
 | 0,n,hk,a=>by
  rw [WQ (by rw [Vr]; omega),WQ ad] <;> rfl
 | k+1,n,hk,a=>by
  have hn:n<us.length:=ad
  have ih:=yN b A B k (n+1) ad ad;have hb:=Jr b A B hn;rw [oN w us n hn,oN w' (us.map cq) n (by rw [Vr]; exact hn),VD];cases h1:my w n us[n] with
  | some s =>
   rw [h1] at hb;obtain ⟨t,c⟩:=Ww.1 hb;rw [c] <;> rfl
  | none =>
   rw [h1] at hb;have hb:my w' n (cq us[n])=none:=by simpa using hb
   rw [hb];exact ih
def M2 (b:∀ u,u∈us->lH u) (sm:Fs us) (A:ir us w) (B:ir (us.map cq) w') (c:eS w 0 us=none):rZ w' (us.map cq)=rZ w us:=by
 unfold rZ;rw [Ey,VN];refine V4 fun q a=>?_
 obtain ⟨i,hi,h1,h2⟩:=uL us 0 q a;rw [V9] at h1;have hbq:=yv c a;rw [h1] at hbq;have hl:q.2.2∈bU us[i]:=by unfold bU; simp only [List.mem_append,List.mem_map]; exact .inr ⟨_,h2,rfl⟩
 have hk:JW us (q.1,q.2.1):=.inr (Vy.2 ⟨q,a,rfl⟩);have e1:=BC b A B hk;have e2:=C7 b A B hi hl (sm.num _ (VA hi) _ hl).1 hbq;show (w'.word (HZ (FU us) (q.1,q.2.1)),w'.di q.1 (lR (FU us q.1) q.2.2))=_;rw [e1,h1,D8 hi,e2]
end
def LB (us:List bS):yx (us.map cq)=yx us:=by
 unfold yx;rw [Vr]
 congr 1
 funext i
 unfold EQ;rw [Wa,<- List.map_take];cases us[i]? with
 | none=>rfl
 | some u =>
  simp only [Option.map_some,Option.bind_some,List.any_map] <;> rfl
def DM {us:List bS} (d:∀ u,u∈us->ee u=0):match fZ 0 us (gV 0 us FR) with
  | .error q=>yx us=some q
  | .ok w=>yx us=none/\ir us w:=by
 have i0:=K8 d;have b:∀ s,(gV 0 us FR).gl s=none:=by
  have e:∀ (n sec:Nat) (l:List cv) (i:Nat) (w:LW),(gp n sec i l w).gl=w.gl:=by
   intro n sec l
   induction l with
   | nil=>intro i w; rfl
   | cons x l a =>
    intro i w;rw [gp,a];unfold hY;split <;> rfl
  have f:∀ (n:Nat) (l:List jn) (w:LW),(l.foldl (r7 n) w).gl=w.gl:=by
   intro n l
   induction l with
   | nil=>intro w; rfl
   | cons x l a=>intro w; rw [V2,a]; rfl
  have g:∀ (l:List bS) (n:Nat) (w:LW),(gV n l w).gl=w.gl:=by
   intro l
   induction l with
   | nil=>intro n w; rfl
   | cons u l a =>
    intro n w;rw [gV,a];unfold CF;rw [f,e,e]
  intro s;rw [g] <;> rfl
 have hm:=yP us us.length 0 (gV 0 us FR) ad (WG _) (fun s=>by rw [b]; rfl) (fun j h=>absurd h ad);rw [Xz] at hm;cases c:fZ 0 us (gV 0 us FR) with
 | error q=>rw [c] at hm; exact hm
 | ok w =>
  rw [c] at hm;exact ⟨hm.1,⟨d,i0.meet c,hm.2⟩⟩
def U' (us:List bS):Except Fl LP->Except Fl LP->Prop
 | .error f,.error g=>f.Ar=g.Ar/\f.unit=g.unit
 | .ok P,.ok Q=>Q.w.lb.length=P.w.lb.length/\∀ n,(hn:n<us.length)->∀ x:cv,x.e∈bU us[n]->(Q.ez n (dx us[n] x)).e=(P.ez n x).e
 | _,_=>False
def AD {us:List bS} (c:∀ u,u∈us->lH u) (sm:Fs us):U' us (jD us) (jD (us.map cq)):=by
 have o:∀ u,u∈us->ee u=0:=fun u b=>(c u b).right
 have d:∀ v,v∈us.map cq->ee v=0:=fun v hv=>by
  obtain ⟨u,b,rfl⟩:=Vy.1 hv;exact D6 (c u b)
 have p:us.findIdx? (fun u=>decide (ee u≠0))=none:=Wv.2 fun u b=>by rw [o u b]; rfl
 have r:(us.map cq).findIdx? (fun u=>decide (ee u≠0))=none:=Wv.2 fun u b=>by rw [d u b]; rfl
 unfold jD;rw [Vr]
 by_cases h0:us.length=0
 ·rw [VE h0,VE h0];exact ⟨rfl,rfl⟩
 rw [Vu h0,Vu h0]
 by_cases a:64<us.length
 ·rw [VE a,VE a];exact ⟨rfl,rfl⟩
 rw [Vu a,Vu a,p,r];have m1:=DM o;have m2:=DM d;rw [LB] at m2;simp only;cases h1:fZ 0 us (gV 0 us FR) with
 | error q =>
  rw [h1] at m1;cases h2:fZ 0 (us.map cq) (gV 0 (us.map cq) FR) with
  | error q' =>
   rw [h2] at m2;have e:q=q':=VP (m1.symm.trans m2);subst e;exact ⟨rfl,rfl⟩
  | ok w' =>
   rw [h2] at m2;exact absurd (m1.symm.trans m2.1) ah
 | ok w =>
  rw [h1] at m1;cases h2:fZ 0 (us.map cq) (gV 0 (us.map cq) FR) with
  | error q' =>
   rw [h2] at m2;exact absurd (m2.symm.trans m1.1) ah
  | ok w' =>
   rw [h2] at m2;have A:=m1.2;have B:=m2.2;have hbu:=yN c A B us.length 0 ad (WG _);rw [Xz,Xz] at hbu;simp only;cases f:eS w 0 us with
   | some q =>
    rw [f] at hbu;obtain ⟨q',g,e⟩:=W2.1 hbu;simp only [g];exact ⟨rfl,e.symm⟩
   | none =>
    rw [f] at hbu;have h:eS w' 0 (us.map cq)=none:=Option.map_eq_none_iff.1 hbu;have hD:=M2 c sm A B f;simp only [h,hD];cases hc:rR (rZ w us) with
    | some i =>
     refine ⟨rfl,?_⟩
     have:((eF 0 (us.map cq)).map fun q=>(q.1,q.2.1))=((eF 0 us).map fun q=>(q.1,q.2.1)).map (HZ (FU us)):=BG
     simp only;rw [this];generalize (eF 0 us).map (fun q=>(q.1,q.2.1))=l;rw [V3,V3,Wa];cases l[i]? with
     | none=>rfl
     | some k=>rfl
    | none =>
     refine ⟨?_,fun n hn x j=>?_⟩
     ·show w'.lb.length=w.lb.length;rw [B.wi.lb,A.wi.lb]
      have:=VO List.length (Du (us:=us))
      simpa using this
     ·have m:w.bad n x.e=none:=by
       have:=oX us 0 f n hn
       rw [V9,rz,Wz] at this;exact this x.e j
      show Ry (MU (rZ w us)) (w'.di n (lR us[n] x.e))=Ry (MU (rZ w us)) (w.di n x.e);rw [C7 c A B hn j (sm.num _ (VA hn) _ j).1 m]
variable {O:Hp} {g:TypeId}
def fC {e':TypeId} {c zs:List XB} (a:bm O H g c) (b:bm O H e' zs):g=e':=by
 have:=VP (Eq.trans (Eq.symm a) b)
 injection this
structure A5 (h:Hp) (p:XC) (l:Nat) (xs:List XA):Prop where
 len:l=xs.length
 many:xs.length<=2^60
 cells:∀ i,(hi:i<xs.length)->∃ a,p=some a/\aE h (a.add (i*1)) 0 [.string xs[i]]
variable {V c:XC}
def A5.af {h':Hp} {xs:List XA} (v:A5 O V H xs) (k:Ext O h'):A5 h' V H xs :=
 ⟨v.len,v.many,fun i hi=>by
  obtain ⟨a,b,hc⟩:=v.cells i hi;exact ⟨a,b,bh k ah _ _ hc⟩⟩
def A5.U5 {xs:List XA} (v:NF O V H xs):A5 O V H xs:=⟨v.len,v.many,fun i hi=>by
  obtain ⟨a,b,hc,_⟩:=v.cells i hi;exact ⟨a,b,hc⟩⟩
def A5.U4 {xs:List XA} (v:SN O H V Z a xs) (d:xs.length<=2^60):A5 O V Z xs:=⟨SN.len v,d,fun i hi=>SN.cell v hi⟩
def Hk {xs:List XA} (v:A5 O V H xs) (s:XA):wA YC 38 [.slice V H Z,.string s] O (.bool (fH xs s)):=by
 refine eC mixed Tryz.func38 aw (iP V H Z s) ?_;unfold gy aT bo bC ay bz dI aK cj;have n:=v.len;have hmn:=v.many;refine aY (cs:=fK) (fun y m h'=>∃ i:Nat,y.2.1=(i:Int)/\m=xs.length-i/\i<=xs.length/\h'=O/\fH (xs.take i) s=false) (false,(0:Int),()) xs.length rfl
  ⟨0,rfl,rfl,ad,rfl,rfl⟩ ?_
 rintro ⟨b2,f,⟨⟩⟩ m h' ⟨i,hi,rfl,d,rfl,hn⟩;simp only at hi;subst hi;refine ak ?_;refine aQ ?_ ?_<;>intro q
 ·have b:i<xs.length:=ad
  obtain ⟨a,e,hc⟩:=v.cells i b;refine cC e ?_;rw [cX i];refine aC (xs[i],()) hc (ak ?_);have hs:=TH xs s i b;rw [qP];refine an ?_ ?_<;>intro r
  ·have r:=Vv r;refine ⟨VO Value.bool ?_,rfl⟩;unfold fH;exact (WX.2 ⟨_,VA b,Vw r⟩).symm
  ·rw [hn,r] at hs;refine aD (cs:=fK) (b2,((i+1:Nat):Int),()) (xs.length-(i+1)) rfl ad (by rw [wrap_i64 ad ad]; rfl) ?_;exact ⟨i+1,rfl,rfl,ad,rfl,hs⟩
 ·have:i=xs.length:=ad
  subst this;rw [V1] at hn;exact ⟨by rw [hn],rfl⟩
def yr {h:Hp} {p q:XC} {l c m d:Nat} {A G:List XA} (v:A5 h p l A) (w:A5 h q m G) {s:XA} (a:s.size<=2^40):wA YC 40 [.string s,.slice p l c,.slice q m d] h (.string (A1 A G s)):=by
 refine eC mixed Tryz.func40 aw (pu s p l c q m d) ?_;unfold kZ aP;refine aF (Hk v s) ?_;unfold A1;cases h1:fH A s with
 | false=>exact bX rfl ⟨rfl,rfl⟩
 | true =>
  refine cy rfl ?_;refine aF (Hk w s) ?_;cases h2:fH G s with
  | true=>exact bX rfl ⟨rfl,rfl⟩
  | false =>
   refine cy rfl ?_;refine jl ad ?_;exact ⟨rfl,rfl⟩
def G3 {α:Type} {l:List α} {k:Nat} (hk:k<=l.length) (x y:α):(l.take k++x::l.drop k).set k y=l.take k++y::l.drop k:=by
 rw [WU _ _ (by rw [VQ]; omega),VQ,WD hk,W1,List.set_cons_zero]
def IJ {α:Type} {l:List α} {k:Nat} (hk:k<l.length):l.take (k+1)++l[k]::l.drop (k+1)=l.take k++l[k]::l.drop k:=by
 rw [Vt hk,VW,VU hk] <;> rfl
def Nj (b g:YA) (s:XA) (j N:Int):T :=
  T.ao g [.string s,ar j] <|
  T.ae b [.slice 66] <| fun (O:XC) (k P:Nat) =>
  T.ae b [.slice 66] <| fun (l:XC) (m n:Nat) =>
  T.ae g [.string,.int .u32] <| fun (o:XA) (p:Int) =>
  bR (Instr.buildSlice 57 1 #[(0,.agg #[.string o,ar p])]) false [eb] <| fun (q:XC) (r t:Nat) =>
  bR (Builtin.append_ #[57,57] 57 #[.slice l m n,.slice q r t]) false [eb] <| fun (u:XC) (w x:Nat) =>
  T.ao b [.slice u w x] <|
  T.loop [aK] [vI (k:Int)] <| fun (a:Int) =>
  cond (decide (a>(0:Int)))
  (T.ae b [.slice 66] <| fun (c:XC) (d y:Nat) =>
  T.need (((0:Int)<=(bf (a-(1:Int))))/\((bf (a-(1:Int)))<(d:Int))) <|
  T.bd c <| fun (z:YA) =>
  T.ae (z.add ((Int.toNat (bf (a-(1:Int))))*2)) [.string] <| fun (h:XA) =>
  T.ae g [.string] <| fun (i:XA) =>
  cond (!((Op.bytesLess (ByteArray.toList h) (ByteArray.toList i)) || ((ByteArray.toList h)==(ByteArray.toList i))))
   (T.ae b [.slice 66] <| fun (e:XC) (f A:Nat) =>
   T.ae b [.slice 66] <| fun (B:XC) (C Q:Nat) =>
   T.need (((0:Int)<=(bf (a-(1:Int))))/\((bf (a-(1:Int)))<(C:Int))) <|
   T.bd B <| fun (D:YA) =>
   T.ae (D.add ((Int.toNat (bf (a-(1:Int))))*2)) [.string,.int .u32] <| fun (E:XA) (F:Int) =>
   T.need (eH a f) <|
   T.bd e <| fun (G:YA) =>
   T.ao (G.add (ay a 2)) [.string E,ar F] <|
   T.again 1 [vI (bf (a-(1:Int)))])
   (T.ae b [.slice 66] <| fun (e:XC) (f A:Nat) =>
   T.ae g [.string,.int .u32] <| fun (H:XA) (I:Int) =>
   T.need (eH a f) <|
   T.bd e <| fun (J:YA) =>
   T.ao (J.add (ay a 2)) [.string H,ar I] <|
   T.again 0 [vI (bf (N+(1:Int)))]))
  (T.ae b [.slice 66] <| fun (c:XC) (d y:Nat) =>
  T.ae g [.string,.int .u32] <| fun (K:XA) (L:Int) =>
  T.need (eH a d) <|
  T.bd c <| fun (M:YA) =>
  T.ao (M.add (ay a 2)) [.string K,ar L] <|
  T.again 0 [vI (bf (N+(1:Int)))])
def M7 {U:List XB->Hp->Prop} {K:XB->Hp->Prop} {h:Hp} {f gx b:Nat} {q:XC} {m d:Nat} {out:dt} {num:Int} {t:XA × Nat} {V:Int}
  (H:bm h f 60 [.slice q m d,.int .u32 num]) (bx:bm h gx 66 [.string ⟨#[]⟩,.int .u32 0]) (sl:SL h b 66 2 q m d (out.map cg)) (hb:b<=h.size) (hlen:out.length<=2^40) (B:gx∉aG q)
  (X:∀ h' q' c,bm h' f 60 [.slice q' (m+1) c,.int .u32 num]->SL h' b 66 2 q' (m+1) c ((sV t out).map cg)->Ch (f::gx::aG q) h h'->T.again 0 [vI (IntKind.wrap .i64 (V+(1:Int)))] [U] K h') :
  Nj ⟨f,0,none⟩ ⟨gx,0,none⟩ t.1 (t.2:Int) V [U] K h:=by
 have X:∀ J h' q' c,bm h' f 60 [.slice q' (m+1) c,.int .u32 num]->SL h' b 66 2 q' (m+1) c ((sV t out).map cg)->Ch (f::gx::aG q) h h'->T.again 0 [vI (IntKind.wrap .i64 (V+(1:Int)))] [U,J] K h':=fun J h' q' c h1 h2 h3=>X h' q' c h1 h2 h3
 unfold Nj ay bR bf eH ar aK eb;have Y:m=out.length:=by have:=sl.1; rwa [Vr] at this
 have I:f≠gx:=fun e=>by
  rw [e] at H;exact absurd (fC H bx) bJ
 have Z:f∉aG q:=fun r=>by
  obtain ⟨ys,hy⟩:=SL.fO sl _ r;exact absurd (fC H hy) bJ
 refine bT bx ?_;intro h1 s k1 z1;have s:bm h1 gx 66 [.string t.1,.int .u32 (t.2:Int)]:=s;have b61:=H.af k1 (by simpa using I);have sl1:=sl.bH k1 (fun i hi r=>B (by rw [<- VH.1 r]; exact hi));refine av b61 ((q,m,d),()) (ak ?_);refine av b61 ((q,m,d),()) (ak ?_);refine av s (t.1,(t.2:Int),()) (ak ?_);refine lO (vs:=cg t) LK za rfl ad ad aw rfl rfl sl1 ad ad ad ?_;intro q' c h2 C L p;have b62:=b61.af L Z;have bx2:=s.af L B;have z2:=L.size;have lt6:=H.lt;have ltx:=bx.lt;have l:f∉aG q':=fun r=>by
  obtain ⟨ys,hy⟩:=SL.fO C _ r;exact absurd (fC b62 hy) bJ
 have M:gx∉aG q':=by
  rcases p with p | ⟨a,p,F⟩
  ·rw [p]; exact B
  ·rw [p];intro r
   have:gx=a.block:=VH.1 r
   omega
 have A:∀ i,i∈aG q'->i<h.size->i∈aG q:=by
  intro i hi hl;rcases p with p | ⟨a,p,F⟩
  ·rw [p] at hi; exact hi
  ·rw [p] at hi
   have:i=a.block:=VH.1 hi
   omega
 refine bT b62 ?_;intro h3 u W z3;have u:bm h3 f 60 [.slice q' (m+1) c,.int .u32 num]:=u;have bx3:=bx2.af W (by simpa using Ne.symm I);have sl3:=C.bH W (fun i hi r=>l (by rw [<- VH.1 r]; exact hi));have c3:Ch (f::gx::aG q) h h3:=by
  refine Ch.trans (Ch.trans (k1.mono ah) L fun i hi hl=>?_) W fun i hi hl=>?_
  ·exact Vz _ (Vz _ hi)
  ·rw [VH.1 hi]; simp
 have e0:out.map cg++[cg t]=(out.take out.length++t::out.drop out.length).map cg:=by
  rw [V1,Wn,VB] <;> rfl
 rw [e0,<- Y] at sl3;refine aY (cs:=cU) (fun y z h'=>∃ (k:Nat) (x:XA × Nat),y.1=(k:Int)/\z=k/\k<=out.length/\bm h' f 60 [.slice q' (m+1) c,.int .u32 num]/\bm h' gx 66 [.string t.1,.int .u32 (t.2:Int)]/\SL h' b 66 2 q' (m+1) c ((out.take k++x::out.drop k).map cg)/\Ch (f::gx::aG q) h h'/\∀ j,(hj:j<out.length)->k<=j->iB t.1 out[j].1) ((m:Int),()) m rfl
  ⟨m,t,rfl,rfl,ad,u,bx3,sl3,c3,fun j hj hle=>ad⟩ ?_
 clear c3 sl3 bx3 u W C L bx2 b62;rintro ⟨n37,⟨⟩⟩ z h4 ⟨k,x,hk,hz,D,g,E,w,ck,N⟩;simp only at hk;subst hk;refine ak ?_;have n:(out.take k++x::out.drop k).length=out.length+1:=by simp; omega
 obtain ⟨a,F,_⟩:=SL.cells w (i:=k) (by rw [Vr,n]; omega)
 have O:(∀ (hk:0<k) (h:k-1<out.length),¬ iB t.1 out[k-1].1)->∀ J,(T.ae (⟨f,0,none⟩:YA) [.slice 66] <| fun (p38:XC) (l39 l40:Nat) =>
   T.ae (⟨gx,0,none⟩:YA) [.string,.int .u32] <| fun (s41:XA) (n42:Int) =>
   T.need (((0:Int)<=(k:Int))/\((k:Int)<(l39:Int))) <|
   T.bd p38 <| fun (a43:YA) =>
   T.ao (a43.add ((Int.toNat (k:Int))*2)) [.string s41,.int .u32 n42] <|
   T.again 0 [vI (IntKind.wrap .i64 (V+(1:Int)))]) [U,J] K h4:=by
  intro Q J;refine av g ((q',m+1,c),()) (ak ?_);refine av E (t.1,(t.2:Int),()) (ak ?_);refine cC F ?_;rw [cX k];refine SL.store (P:=YC) (vs:=cg t) w (i:=k) (by rw [Vr,n]; omega) (by simp [cg]) (by simp [cg,cO]) F ?_;intro h5 o G z5;rw [<- WR,G3 D,<- G1 t out k D N Q] at o;exact X J h5 q' c (g.af G l) o (Ch.trans ck G fun i hi hl=>Vz _ (Vz _ (A i hi hl)))
 refine aQ ?_ ?_<;>intro g1
 ·obtain ⟨j,rfl⟩:∃ j,k=j+1:=⟨k-1,ad⟩
  have hwj:IntKind.wrap .i64 (((j+1:Nat):Int)-1)=(j:Int):=by rw [wrap_i64 ad ad]; omega
  rw [hwj];have hj:j<out.length:=ad
  have R:(out.take (j+1)++x::out.drop (j+1))[j]'(by rw [n]; omega)=out[j]:=by
   rw [WZ (by rw [VQ]; omega),List.getElem_take]
  obtain ⟨a2,S,hc⟩:=SL.cells w (i:=j) (by rw [Vr,n]; omega);rw [VD,R] at hc;refine av g ((q',m+1,c),()) (ak ?_);refine cC S ?_;rw [cX j];refine aC (out[j].1,()) ⟨hc.1,trivial⟩ (ak ?_);refine av E (t.1,()) (ak ?_);rw [leB,Bool.not_not];refine aQ ?_ ?_<;>intro g2
  ·refine av g ((q',m+1,c),()) (ak ?_);refine av g ((q',m+1,c),()) (ak ?_);refine cC S ?_;refine aC (out[j].1,(out[j].2:Int),()) hc (ak ?_);refine cC F ?_;rw [show Int.toNat ((j+1:Nat):Int)=j+1 from ad];refine SL.store (P:=YC) (vs:=cg out[j]) w (i:=j+1) (by rw [Vr,n]; omega) (by simp [cg]) (by simp [cg,cO]) F ?_;intro h5 o G z5;rw [<- WR,G3 D,IJ hj] at o;refine aD (cs:=cU) ((j:Int),()) j rfl ad rfl ⟨j,out[j],rfl,rfl,ad,g.af G l,E.af G M,o,Ch.trans ck G fun i hi hl=>Vz _ (Vz _ (A i hi hl)),fun i hi hle=>?_⟩
   by_cases hij:i=j
   ·subst hij; exact g2
   ·exact N i hi ad
  ·exact O (fun _ _=>by simpa using g2) _
 ·exact O (fun hk _=>ad) _
def BI {h:Hp} {p:XC} {l c:Nat} {x:cL} (v:iW h p l x.ai) (hl:x.ai.length<=2^40) (hs:∀ t,t∈x.ai->t.1.size<=2^40) {K L:XC} {M cA N cG:Nat} {A G:List XA} (vA:A5 h K M A) (vG:A5 h L N G) :
  HC YC 41 #[iX p l c x,.slice K M cA,.slice L N cG] h fun w h'=>Ext h h'/\∃ p' l' c',w=iX p' l' c' ⟨fV (A1 A G) x.ai,x.num⟩/\SL h' h.size 66 2 p' l' c' ((fV (A1 A G) x.ai).map cg):=by
 refine aZ (args:=[.agg #[.slice p l c,.int .u32 x.num],.slice K M cA,.slice L N cG]) mixed Tryz.func41 aw (nu p l c x.num K M cA L N cG) ?_;unfold js aT bo bC ay nU aR bf ar aM ct aK;have hvl:=v.len;refine br ?_;intro h1 b3 e1 z1;refine br ?_;intro h2 b4 R z2;rw [ax];refine av (b3.af R ah) ((x.num:Int),()) (ak ?_);refine br ?_;intro h3 o S z3;refine bT o ?_;intro h4 o O z4;have o:bm h4 h2.size 60 [.slice none 0 0,.int .u32 (x.num:Int)]:=o;have s:Ext h h4:=bZ ((e1.trans R).trans S) O;have b3:=(b3.af (R.trans S) ah).af O (by simp; omega);have b4:=(b4.af S ah).af O (by simp; omega);have z04:=s.size;refine aY (cs:=cU) (fun y z h'=>∃ (i:Nat) (q:XC) (m d:Nat),y.1=(i:Int)/\z=x.ai.length-i/\i<=x.ai.length/\Ext h h'/\h4.size<=h'.size/\bm h' h.size 60 [.slice p l c,.int .u32 (x.num:Int)]/\bm h' h1.size 60 [.slice none 0 0,.int .u32 0]/\bm h' h2.size 60 [.slice q m d,.int .u32 (x.num:Int)]/\SL h' h.size 66 2 q m d ((fV (A1 A G) (x.ai.take i)).map cg)) ((0:Int),()) x.ai.length rfl
  ⟨0,none,0,0,rfl,rfl,ad,s,VL _,b3,b4,o,SL.nil _ _ _ _⟩ ?_
 clear b3 b4 o O s;rintro ⟨n7,⟨⟩⟩ z P ⟨i,q,m,d,hi,rfl,hil,f,z5,b3,b4,o,sl⟩;simp only at hi;subst hi;refine ak ?_;refine av b3 ((p,l,c),()) (ak ?_);refine aQ ?_ ?_<;>intro g
 ·have u:i<x.ai.length:=ad
  obtain ⟨a,ha,hc⟩:=v.cells i u;have hts:=hs _ (VA u);have D:fV (A1 A G) (x.ai.take (i+1))=sV (A1 A G x.ai[i].1,x.ai[i].2) (fV (A1 A G) (x.ai.take i)):=by
   unfold fV;rw [Vt u,Ws] <;> rfl
  generalize x.ai[i]=t at hc D hts;have E:∀ {h':Hp},Ext h h'->aE h' (a.add (i*2)) 0 (cg t):=fun e=>bh e ah _ _ hc
  have U:∀ {h':Hp},Ext h h'->aE h' (a.add (i*2)) 0 [.string t.1]:=fun e=>⟨(E e).1,trivial⟩
  have F:∀ {h':Hp},Ext h h'->aE h' ((a.add (i*2)).add 1) 0 [.int .u32 (t.2:Int)]:=fun e=>mf [.int .u32 (t.2:Int)] 1 0 ⟨(E e).2.1,trivial⟩
  refine av b3 ((p,l,c),()) (ak ?_);refine cC ha ?_;rw [cX i];refine aC (t.1,()) (U f) (ak ?_);refine av b3 ((p,l,c),()) (ak ?_);refine cC ha ?_;refine aC ((t.2:Int),()) (F f) (ak ?_);have sb:∀ {h':Hp},Ext P h'->aE h' ⟨h.size,0,none⟩ 0 [.slice p l c]:=fun e=>(b3.af e ah).cells _ rfl
  have V:(fV (A1 A G) (x.ai.take i)).length<=2^40:=by
   rw [(nS _ _).length_eq,Vr,VQ];omega
  have hml:m=(fV (A1 A G) (x.ai.take i)).length:=by have:=sl.1; rwa [Vr] at this
  have to:=yr (c:=cA) (d:=cG) (vA.af f) (vG.af f) hts;have rest:∀ {h6:Hp} {r:Nat},Ext P h6->P.size<=r->bm h6 r 66 [.string ⟨#[]⟩,.int .u32 0]->∀ J,Nj ⟨h2.size,0,none⟩ ⟨r,0,none⟩ (A1 A G t.1) (t.2:Int) (i:Int) [Jl (cs:=cU) (fun y z h'=>∃ (i:Nat) (q:XC) (m d:Nat),y.1=(i:Int)/\z=x.ai.length-i/\i<=x.ai.length/\Ext h h'/\h4.size<=h'.size/\bm h' h.size 60 [.slice p l c,.int .u32 (x.num:Int)]/\bm h' h1.size 60 [.slice none 0 0,.int .u32 0]/\bm h' h2.size 60 [.slice q m d,.int .u32 (x.num:Int)]/\SL h' h.size 66 2 q m d ((fV (A1 A G) (x.ai.take i)).map cg)) (x.ai.length-i)] J h6:=by
   intro h6 r b hgx bx J;have H:∀ j,j∈aG q->h.size<=j/\j<P.size:=fun j n=>sl.cu n
   have W:r∉aG q:=fun k=>by have:=H r k; omega
   refine M7 (t:=(A1 A G t.1,t.2)) (o.af b ah) bx (sl.af b ah) (by have:=f.size; have:=b.size; omega) V W ?_;intro h7 q' d' X Y Q;have Z:∀ j,j∈(h2.size::r::aG q)->h.size<=j:=fun j n=>by
    have:=f.size
    rcases VK.1 n with rfl | n
    ·omega
    ·rcases VK.1 n with rfl | n
     ·omega
     ·exact (H j n).1
   have hn3:h.size∉(h2.size::r::aG q):=fun k=>by
    rcases VK.1 k with h | k
    ·omega
    ·rcases VK.1 k with h | k
     ·omega
     ·obtain ⟨ys,I⟩:=SL.fO sl _ k;exact absurd (fC b3 I) bJ
   have hn4:h1.size∉(h2.size::r::aG q):=fun k=>by
    rcases VK.1 k with h | k
    ·omega
    ·rcases VK.1 k with h | k
     ·omega
     ·obtain ⟨ys,I⟩:=SL.fO sl _ k;exact absurd (fC b4 I) bJ
   have e57:Ext h h7:=Ch.trans (f.trans b) Q (fun j n hl=>by have:=Z j n; omega);have z7:=Q.size;have z6:=b.size;have hw:=lC i;exact aD (cs:=cU) (((i+1:Nat):Int),()) (x.ai.length-(i+1)) rfl ad (VO (fun z=>[Value.int .i64 z]) hw) ⟨i+1,q',m+1,d',rfl,rfl,ad,e57,ad,(b3.af b ah).af Q hn3,(b4.af b ah).af Q hn4,X,by rw [D]; exact Y⟩
  refine ⟨?_,?_,trivial⟩
  ·refine vc to ?_;refine ⟨⟨F f,sb (Ch.refl _ _),sb (Ch.refl _ _),trivial⟩,?_⟩;refine br ?_;intro h6 B b z6;refine ⟨⟨F (f.trans b),sb b,U (f.trans b),sb b,trivial⟩,?_⟩;exact rest b (VL _) B _
  ·refine br ?_;intro h6 B b z6;refine ⟨⟨F (f.trans b),sb b,U (f.trans b),sb b,trivial⟩,?_⟩;refine vc (yr (c:=cA) (d:=cG) (vA.af (f.trans b)) (vG.af (f.trans b)) hts) ?_;refine ⟨⟨F (f.trans b),sb b,sb b,trivial⟩,?_⟩;exact rest b (VL _) B _
 ·have hie:i=x.ai.length:=ad
  rw [hie,V1] at sl;refine av o ((q,m,d),(x.num:Int),()) (ak ?_);refine bT b4 ?_;intro h6 C k6 z6;have C:bm h6 h1.size 60 [.slice q m d,.int .u32 (x.num:Int)]:=C;refine av C ((q,m,d),(x.num:Int),()) ?_;exact ⟨bZ f k6,q,m,d,rfl,sl.bH k6 (fun j n k=>by
   rw [VH.1 k] at n;obtain ⟨ys,I⟩:=SL.fO sl _ n;exact absurd (fC b4 I) bJ)⟩
def Ue (s:XA):ByteArray.toList (ByteArray.extract s 0 2)=s.data.toList.take 2:=by
 rw [ByteArray.toList_eq,ByteArray.data_extract,Array.toList_extract];simp [List.extract]
def B2 {s:XA} (h:2<s.size->(ByteArray.toList (ByteArray.extract s 0 (Int.toNat (2:Int)))==([81,95]:List UInt8))=false):Aj s:=by
 rintro ⟨h1,h2⟩;have h3:=h (by simpa using h1);change (ByteArray.toList (ByteArray.extract s 0 2)==([81,95]:List UInt8))=false at h3;rw [Ue,h2] at h3;exact absurd h3 bJ
def uT {α:Type} {a l:List α} (c:a.length=H) (hi:H<l.length) (b:H<(a++l.drop H).length):(a++l.drop H)[H]=l[H]:=by
 rw [WS ad,List.getElem_drop]
 congr 1
 omega
def CT {α:Type} {a l:List α} (b:a.length=H) (hi:H<l.length) (y:α):(a++l.drop H).set H y=(a++[y])++l.drop (H+1):=by
 rw [VU hi,WU _ _ ad,b,W1,List.set_cons_zero,VW] <;> rfl
def yz (x:cv):cv:={ x with name:=dA }
def P6 (w:cm × cv):cm × cv:=(w.1,yz w.2)
def yO {c:Nat} {us:List cv} (v:Ai O V H us) (hn:us.length<=2^20) (J:∀ x,x∈us->x.e.ai.length<=2^40) :
  HC YC 16 #[.slice V H c] O fun w h'=>Ext O h'/\∃ q d,w=.slice q H d/\Ai h' q H (us.map yz):=by
 refine aZ (args:=[.slice V H c]) mixed Tryz.func16 aw (mJ V H c) ?_;unfold iO aT bo bC ay bq ct aK;have hl:=v.len;refine aH (uo (c:=c) v hn J) ?_;rintro _ h1 ⟨⟨p',c',ws,rfl,o,C⟩,K⟩;refine ⟨((p',H,c'),()),rfl,ak ?_⟩;have L:ws.length=us.length:=by rw [<- C,Vr]
 have r:SL h1 O.size 64 10 p' H c' (ws.map fQ):=o.sl;refine aY (cs:=cU) (fun y m h'=>∃ i:Nat,y.1=(i:Int)/\m=H-i/\i<=H/\Ch (aG p') h1 h'/\SL h' O.size 64 10 p' H c' (((ws.take i).map P6++ws.drop i).map fQ)) ((0:Int),()) H rfl
  ⟨0,rfl,rfl,ad,Ch.refl _ _,r⟩ ?_
 rintro ⟨W,⟨⟩⟩ m h2 ⟨i,hi,rfl,M,D,s⟩;simp only at hi;subst hi;refine ak ?_;refine aQ ?_ ?_<;>intro g
 ·have b:i<ws.length:=ad
  have t:((ws.take i).map P6).length=i:=by rw [Vr,VQ]; omega
  have k:((ws.take i).map P6++ws.drop i).length=ws.length:=by rw [Vs,t,V6]; omega
  obtain ⟨a,B,_⟩:=SL.cells s (i:=i) (by rw [Vr,k]; exact b);refine cC B ?_;rw [cX i];refine SL.part (P:=YC) s (i:=i) (by rw [Vr,k]; exact b) (o:=1) (vs:=[.string ⟨#[]⟩]) ah (by simp [cO]) B ?_;intro X G N z3;have A:(((ws.take i).map P6++ws.drop i).map fQ).set i (gW ((((ws.take i).map P6++ws.drop i).map fQ)[i]'(by rw [Vr,k]; exact b)) 1 [.string ⟨#[]⟩])=(((ws.take (i+1)).map P6++ws.drop (i+1)).map fQ):=by
   rw [VD,uT t b (by rw [k]; exact b),show gW (fQ ws[i]) 1 [Value.string ⟨#[]⟩]=fQ (P6 ws[i]) from rfl,<- WR,CT t b,Vt b,VB (f:=P6) (l₁:=ws.take i)] <;> rfl
  rw [A] at G;have hw:=lC i;exact aD (cs:=cU) (((i+1:Nat):Int),()) (H-(i+1)) rfl ad (VO (fun z=>[Value.int .i64 z]) hw) ⟨i+1,rfl,rfl,ad,Ch.trans D N fun j n _=>n,G⟩
 ·have E:i=ws.length:=ad
  rw [E,V1,Wn,Wr] at s;have hob:=fun j n=>(r.cu (i:=j) n)
  refine ⟨Ch.trans K D (fun j n hl=>by have:=hob j n; omega),p',c',rfl,by rw [Vr]; exact hl,by rw [Vr]; have:=v.many; omega,fun j n=>?_⟩;rw [Vr] at n;have u:j<ws.length:=ad
  obtain ⟨a,B,hc⟩:=SL.cells s (i:=j) (by rw [Vr,Vr]; exact u);rw [VD,VD] at hc;obtain ⟨_,_,_,_,_,_,hv⟩:=v.cells j n;have I:ws[j].2=us[j]:=by
   have:=VD (l:=ws) (f:=(·.2)) (i:=j) (h:=by rw [Vr]; exact u)
   rw [<- this]
   congr 1
  have how:=o.own _ (VA u);have F:SL h2 O.size 66 2 ws[j].1.p ws[j].1.l ws[j].1.c (ws[j].2.e.ai.map cg):=Sx.SL.bH how D fun x Q R=>by
   obtain ⟨Z,S⟩:=SL.fO how x Q;obtain ⟨zs,U⟩:=SL.fO r x R;exact absurd (fC S U) bJ
  refine ⟨a,ws[j].1.p,ws[j].1.l,ws[j].1.c,B,by rw [VD,<- I]; exact hc,⟨⟨by rw [VD,<- I]; exact Sx.SL.Su F,?_,?_⟩,?_,?_⟩⟩
  ·rw [VD]; exact hv.di.many
  ·rw [VD]; exact hv.di.names
  ·rw [VD]; show dA.size<=_; show 0<=_; omega
  ·rw [VD]; exact hv.op
def R2 (q:XC) (m d:Nat) (n:Int):Instr.fill (fun j=>some (j*10,10)) ((Array.range (1*10)).map ((Value.agg iz.toArray).cells[· % (Value.agg iz.toArray).cells.size]!)) [(0,.agg #[vI (0:Int),.string ⟨#[]⟩,vI (0:Int),vI (0:Int),vI (0:Int),.int .i32 (0:Int),vI (0:Int),.slice q m d,.int .u32 n,vI (0:Int)])]=some ([vI (0:Int),.string ⟨#[]⟩,vI (0:Int),vI (0:Int),vI (0:Int),.int .i32 (0:Int),vI (0:Int),.slice q m d,.int .u32 n,vI (0:Int)]:List XB).toArray:=aw
def F0 {sa sb sc sd:cm} {u:bS} (va:jI O sa sb sc sd u) (h1t:u.text.length<=2^20) (h1d:u.data.length<=2^20) (h1e:u.aS.length<=2^20) (P:∀ x,x∈bU u->x.ai.length<=2^40) :
  HC YC 12 #[rU sa sb sc sd] O fun w h'=>Ext O h'/\(w=.bool true\/w=.bool false/\∀ x,x∈bU u->∀ t,t∈x.ai->Aj t.1):=by
 refine aZ (args:=[rU sa sb sc sd]) mixed Tryz.func12 aw (mK sa.p sa.l sa.c sb.p sb.l sb.c sc.p sc.l sc.c sd.p sd.l sd.c) ?_;unfold iI aT bo bC ay aR ar Ju bz dI ct aK cj eb;refine br ?_;intro h2 b2 e2 z2;have b2:bm h2 O.size 30 [sa.v,sb.v,sc.v,sd.v]:=b2;refine av b2 ((sa.p,sa.l,sa.c),()) (ak ?_);simp only [ax];refine av b2 ((sb.p,sb.l,sb.c),()) (ak ?_);have va2:=va.af e2;obtain ⟨A,R,S,iwt⟩:=FW va2.text;obtain ⟨B,U,V,iwd⟩:=FW va2.data;have C:A.length=u.text.length:=by rw [<- R,Vr]
 have hld:B.length=u.data.length:=by rw [<- U,Vr]
 have hlvt:=S.len;have hlvd:=V.len;refine Cc (z:=.agg iz.toArray) (sz:=10) (by':=104) xi AT ?_;intro h3 s3 e3;have z3:=e3.size;have z2':=e2.size;have b3:=b2.af e3 ah;refine ⟨⟨b3.cells _ rfl,b3.cells _ rfl,trivial⟩,?_⟩;have F:∀ {O h':Hp} {q:XC} {us:List (cm × cv)},Ext O h'->((q=none/\us.map fQ=[])\/∃ a,q=some a/\aE O a 0 (us.map fQ).flatten)->((q=none/\us.map fQ=[])\/∃ a,q=some a/\aE h' a 0 (us.map fQ).flatten):=by
  rintro O h' q us e (x | ⟨a,ha,hc⟩)
  ·exact .inl x
  ·exact .inr ⟨a,ha,bh e ah _ _ hc⟩
 refine Bj (z:=.agg iz.toArray) (sz:=10) (by':=104) xi AT rfl s3 (F e3 S.src) (by simpa using hlvt) (rA A) (sO A) ad ad ad ?_;intro p4 c4 h4 s4 k4;have e4:Ext h2 h4:=Ch.trans e3 k4 (fun j o hl=>by simp [aG] at o; omega);have b4:=b2.af e4 ah;have z4:=e4.size;rw [WM] at s4;refine ⟨⟨b4.cells _ rfl,trivial⟩,?_⟩;refine Bj (z:=.agg iz.toArray) (sz:=10) (by':=104) xi AT rfl s4 (F e4 V.src) (by simpa using hlvd) (rA B) (sO B) ad ad ad ?_;intro p5 c5 h5 s5 k5;have e5:Ext h2 h5:=Ch.trans e4 k5 (fun j o hl=>by have:=(s4.cu o).1; omega);have b5:=b2.af e5 ah;rw [<- VB] at s5;refine ⟨⟨b5.cells _ rfl,trivial⟩,?_⟩;have hI:∀ w,w∈A++B->iW h2 w.1.p w.1.l w.2.e.ai:=fun w hw=>by
  rcases VG.1 hw with hw | hw
  ·exact (iwt w hw).di.vw
  ·exact (iwd w hw).di.vw
 have hE:(A++B).map (fun w=>w.2.e)=u.text.map (·.e)++u.data.map (·.e):=by
  rw [VB,<- R,<- U,VN,VN] <;> rfl
 have r:bU u=(A++B).map (fun w=>w.2.e)++u.aS.map (·.2):=by rw [hE]; rfl
 have Y:(A++B).length=0+sa.l+sb.l:=by rw [Vs]; omega
 have Z:(A++B).length<=2^21:=ad
 generalize A++B=W at s5 hI r Y Z;clear hE;rw [<- Y] at s5 ⊢;have veq:=va2.aS;have hlq:=veq.len;have z5:=k5.size;refine aY (cs:=wG) (fun y k h'=>∃ (i:Nat) (q:XC) (d:Nat) (E:List (cm × cv)),y.1=(q,W.length+i,d)/\y.2.1=(i:Int)/\k=u.aS.length-i/\i<=u.aS.length/\Ext h2 h'/\SL h' h2.size 64 10 q (W.length+i) d ((W++E).map fQ)/\E.length=i/\E.map (fun w=>w.2.e)=(u.aS.take i).map (·.2)/\∀ w,w∈E->iW h2 w.1.p w.1.l w.2.e.ai) ((p5,W.length,c5),(0:Int),()) u.aS.length rfl
  ⟨0,p5,c5,[],rfl,rfl,rfl,ad,e5,by rw [Wr]; exact s5,rfl,rfl,ah⟩ ?_
 rintro ⟨⟨p17,l18,c19⟩,n20,⟨⟩⟩ k h6 ⟨i,q,d,E,hq,hi,rfl,hil,G,s6,J,D,L⟩;simp only [Prod.mk.injEq] at hq hi;obtain ⟨rfl,rfl,rfl⟩:=hq;subst hi;refine ak ?_;have b6:=b2.af G ah;have z6:=G.size;refine av b6 ((sc.p,sc.l,sc.c),()) (ak ?_);refine aQ ?_ ?_<;>intro g
 ·have hiu:i<u.aS.length:=ad
  refine av b6 ((sc.p,sc.l,sc.c),()) (ak ?_);obtain ⟨aq,q2,m2,d2,haq,hcq,hvq,_⟩:=veq.cells i hiu;have hcq:=bh G ah _ _ hcq;refine cC haq ?_;rw [cX i];refine aC ((q2,m2,d2),(u.aS[i].2.num:Int),()) ⟨by rw [add_add]; exact hcq.2.1,by rw [add_add]; exact hcq.2.2.1,trivial⟩ ?_;refine ak ?_;refine lO (vs:=encI q2 m2 d2 ⟨0,dA,GL,u.aS[i].2,0⟩) xi AT rfl ad ad (R2 q2 m2 d2 u.aS[i].2.num) rfl rfl s6 ad ad ad ?_;intro p7 c7 h7 s7 k7 _;have hb6:=fun j o=>s6.cu (i:=j) o
  have e67:Ext h2 h7:=Ch.trans G k7 (fun j o hl=>by have:=(hb6 j o).1; omega)
  ·have hw:=lC i;have hnew:(W++E).map fQ++[encI q2 m2 d2 ⟨0,dA,GL,u.aS[i].2,0⟩]=(W++(E++[((⟨q2,m2,d2⟩:cm),(⟨0,dA,GL,u.aS[i].2,0⟩:cv))])).map fQ:=by
    rw [<- VW,VB (l₁:=W++E)] <;> rfl
   rw [hnew] at s7;refine aD (cs:=wG) ((p7,W.length+(i+1),c7),((i+1:Nat):Int),()) (u.aS.length-(i+1)) rfl ad (VO (fun z=>[Value.slice p7 (W.length+i+1) c7,Value.int .i64 z]) hw) ⟨i+1,p7,c7,_,rfl,rfl,rfl,ad,e67,s7,by rw [Vs,J]; rfl,?_,fun w hw=>?_⟩
   ·rw [VB,D,Vt hiu,VB] <;> rfl
   ·rcases VG.1 hw with hw | hw
    ·exact L w hw
    ·rw [VH.1 hw];exact hvq.vw
 ·have hie:i=u.aS.length:=ad
  rw [hie,V1] at D;have b:bU u=(W++E).map (fun w=>w.2.e):=by rw [r,VB,D]
  have hV:∀ w,w∈W++E->iW h6 w.1.p w.1.l w.2.e.ai:=fun w hw=>by
   rcases VG.1 hw with hw | hw
   ·exact (hI w hw).af G ah
   ·exact (L w hw).af G ah
  have hLn:(W++E).length=W.length+i:=by rw [Vs,J]
  generalize W++E=Q at s6 b hV hLn;rw [<- hLn] at s6 ⊢;have hQ:Q.length<=2^22:=ad
  clear r hI L D J;refine aY (cs:=fK) (fun y k h'=>∃ j:Nat,y.2.1=(j:Int)/\k=Q.length-j/\j<=Q.length/\h6=h'/\∀ n,(o:n<Q.length)->n<j->∀ t,t∈Q[n].2.e.ai->Aj t.1) (false,(0:Int),()) Q.length rfl
   ⟨0,rfl,rfl,ad,rfl,fun n _ O=>ad⟩ ?_
  rintro ⟨b24,n25,⟨⟩⟩ k h' ⟨j,o,rfl,hjl,rfl,hno⟩;simp only at o;subst o;refine ak ?_;refine aQ ?_ ?_<;>intro g1
  ·have M:j<Q.length:=ad
   obtain ⟨a,ha,hc⟩:=SL.cells s6 (i:=j) (by rw [Vr]; exact M);rw [VD] at hc;have hv:=hV _ (VA M);have hvl:=hv.len;have hx:Q[j].2.e∈bU u:=by rw [b]; exact VM (VA M)
   have hno2:∀ w,Q[j]=w->∀ n,(o:n<Q.length)->n<j+1->(∀ t,t∈w.2.e.ai->Aj t.1)->∀ t,t∈Q[n].2.e.ai->Aj t.1:=by
    rintro w rfl n N C hw
    by_cases e:n=j
    ·subst e; exact hw
    ·exact hno n N ad
   have hno2:=hno2 _ rfl;have hxl:=P _ hx;clear hx;generalize Q[j]=w at hc hv hvl hno2 hxl;have rd:∀ {K:XB->Hp->Prop} {Lq:Lp} {kk:XC->Nat->Nat->T},kk w.1.p w.1.l w.1.c Lq K h6->T.need (((0:Int)<=(j:Int))/\((j:Int)<(Q.length:Int))) (T.bd p17 <| fun (a15:YA)=>T.ae ((a15.add ((Int.toNat (j:Int))*10)).add 7) [.slice 66] kk) Lq K h6:=by
    intro K Lq kk hk;refine cC ha ?_;rw [cX j];exact aC ((w.1.p,w.1.l,w.1.c),()) ⟨by rw [add_add]; exact hc.2.2.2.2.2.2.2.1,trivial⟩ hk
   refine aY (cs:=fK) (fun y k h'=>∃ t:Nat,y.2.1=(t:Int)/\k=w.2.e.ai.length-t/\t<=w.2.e.ai.length/\h6=h'/\∀ s,(H:s<w.2.e.ai.length)->s<t->Aj w.2.e.ai[s].1) (b24,(0:Int),()) w.2.e.ai.length rfl
    ⟨0,rfl,rfl,ad,rfl,fun s _ O=>ad⟩ ?_
   rintro ⟨f,n27,⟨⟩⟩ k h' ⟨t,H,rfl,P,rfl,hnt⟩;simp only at H;subst H;refine ak ?_;refine rd ?_;refine aQ ?_ ?_<;>intro g2
   ·have htw:t<w.2.e.ai.length:=ad
    obtain ⟨a2,ha2,hc2⟩:=hv.cells t htw;have I:Aj w.2.e.ai[t].1->∀ s,(H:s<w.2.e.ai.length)->s<t+1->Aj w.2.e.ai[s].1:=fun O s ht' C=>by
     by_cases e:s=t
     ·subst e; exact O
     ·exact hnt s ht' ad
    refine rd ?_;refine cC ha2 ?_;rw [cX t];refine aC (w.2.e.ai[t].1,()) ⟨hc2.1,trivial⟩ (ak ?_);have hw:=lC t;have goT:Aj w.2.e.ai[t].1->∀ Jx,T.again 2 [.bool f,vI (IntKind.wrap .i64 ((t:Int)+(1:Int)))] Jx (fun w h'=>Ext O h'/\(w=.bool true\/w=.bool false/\∀ x,x∈bU u->∀ t,t∈x.ai->Aj t.1)) h6->True:=fun _ _ _=>trivial
    refine aQ ?_ ?_<;>intro g3
    ·refine jl ⟨ad,ad,ad⟩ ?_;refine an ?_ ?_<;>intro g4
     ·exact ⟨e2.trans G,.inl rfl⟩
     ·exact aD (cs:=fK) (f,((t+1:Nat):Int),()) (w.2.e.ai.length-(t+1)) rfl ad (VO (fun z=>[Value.bool f,Value.int .i64 z]) hw) ⟨t+1,rfl,rfl,ad,rfl,I (B2 fun _=>g4)⟩
    ·exact aD (cs:=fK) (f,((t+1:Nat):Int),()) (w.2.e.ai.length-(t+1)) rfl ad (VO (fun z=>[Value.bool f,Value.int .i64 z]) hw) ⟨t+1,rfl,rfl,ad,rfl,I (B2 fun O=>ad)⟩
   ·have hte:t=w.2.e.ai.length:=ad
    have hw:=lC j;exact aD (cs:=fK) (f,((j+1:Nat):Int),()) (Q.length-(j+1)) rfl ad (VO (fun z=>[Value.bool f,Value.int .i64 z]) hw) ⟨j+1,rfl,rfl,ad,rfl,fun n N C=>hno2 n N C fun t H=>by
     obtain ⟨m,hm,rfl⟩:=VV H;exact hnt m hm ad⟩
  ·have hje:j=Q.length:=ad
   refine ⟨e2.trans G,.inr ⟨rfl,fun x hx t H=>?_⟩⟩;rw [b] at hx;obtain ⟨w,hw,rfl⟩:=Vy.1 hx;obtain ⟨m,hm,rfl⟩:=VV hw;exact hno m hm ad t H
end Go.Sx.Lk
namespace Go.Sx.Ob
open Go.Proofs
def FE (u:bS) (h:Hp) (w:XB) (h':Hp):Prop :=
 (∃ (a b c d:cm) (e wD:List (cm × cv)) (wE:List (cm × jn)),w=rU a b c d/\Nz h' h.size a.p a.l a.c e/\Nz h' h.size b.p b.l b.c wD/\Ug h' h.size c.p c.l c.c wE/\SN h' h.size d.p d.l d.c u.aJ/\e.map (·.2)=u.text/\wD.map (·.2)=u.data/\wE.map (·.2)=u.aS/\HI a b)/\Ext h h'
variable {H I O U:cm} {V:bS} {Y:Nat} {Z:List (cm × cv)}
def Jk {h0 h1:Hp} (v:Ah h0 O.p O.l V.aS) (hl:V.aS.length<=2^20) (htl:∀ e,e∈V.aS->e.2.ai.length<=2^40) (s:CU h0 H I O U h1) {A B D:cm} {wD:List (cm × cv)} (hg:h0.size+2<=Y) (S:bm h1 Y 30 [A.v,B.v,nZ.v,D.v])
  (lT:Nz h1 (h0.size+2) A.p A.l A.c Z) (lD:Nz h1 (h0.size+2) B.p B.l B.c wD) (lS:SN h1 (h0.size+2) D.p D.l D.c V.aJ) (eT:Z.map (·.2)=V.text) (eD:wD.map (·.2)=V.data) (ap:HI A B) :
  Nb ⟨h0.size,0,none⟩ ⟨Y,0,none⟩ ⟨h0.size+1,0,none⟩ [] (FE V h0) h1:=by
 unfold Nb bC ay bq bR bf eH ar aK eb;have hll:=v.len;have hgl:=S.lt;have hsz:=s.sz;simp only [ax];refine aY (cs:=cU) (fun x w h'=>∃ (i:Nat) (C:cm) (ws:List (cm × jn)),x.1=(i:Int)/\i<=V.aS.length/\w=V.aS.length-i/\Ch [Y] h1 h'/\bm h' Y 30 [A.v,B.v,C.v,D.v]/\Ug h' h1.size C.p C.l C.c ws/\ws.map (·.2)=V.aS.take i)
  ((0:Int),()) V.aS.length rfl ⟨0,nZ,[],rfl,ad,ad,Ch.refl _ _,S,Ls.nil _ _,rfl⟩ ?_
 rintro ⟨n25,⟨⟩⟩ w h2 ⟨i,C,ws,L,hile,rfl,t,b2,own,n⟩;simp only at L;subst L;refine ak ?_;have o:Ext h0 h2:=bZ s.ext t;have hz2:=t.size;have ba:=s.b1.af t (by simp; omega);have bb:=s.b2.af t (by simp; omega);refine av ba ((O.p,O.l,O.c),()) (ak ?_);refine aQ ?_ ?_<;>intro g1
 ·have h:i<V.aS.length:=ad
  refine av b2 ((C.p,C.l,C.c),()) (ak ?_);refine av ba ((O.p,O.l,O.c),()) (ak ?_);obtain ⟨W,pp,X,M,ha,z,N,vn0⟩:=v.cells i h;have q:V.aS.take (i+1)=V.aS.take i++[V.aS[i]]:=Vt h;have htl:=htl V.aS[i] (VA h);generalize V.aS[i]=e at z N vn0 q htl;have E:∀ h',Ext h2 h'->aE h' (W.add (i*3)) 0 (ET pp X M e):=fun h' x=>bh (o.trans x) ah _ _ z
  have k:∀ h',Ext h2 h'->aE h' (W.add (i*3)) 0 [.string e.1]:=fun h' x=>⟨(E h' x).1,trivial⟩
  have y:∀ h',Ext h2 h'->aE h' ((W.add (i*3)).add 1) 0 [.slice pp X M,.int .u32 (e.2.num:Int)]:=fun h' x=>⟨by rw [add_add]; exact (E h' x).2.1,by rw [add_add]; exact (E h' x).2.2.1,trivial⟩
  refine cC ha ?_;rw [cX i];refine aC (e.1,()) (k h2 (Ch.refl _ _)) (ak ?_);refine av ba ((O.p,O.l,O.c),()) (ak ?_);refine cC ha ?_;refine aC ((pp,X,M),(e.2.num:Int),()) (y h2 (Ch.refl _ _)) (ak ?_);refine aH (yJ (x:=e.2) (c:=M) (N.af o).vw htl) ?_;rintro _ J ⟨⟨pc,lc,r,rfl,sc⟩,f⟩;refine ⟨((pc,lc,r),(e.2.num:Int),()),rfl,ak ?_⟩;have own3:=own.af f ah;have st:∀ h',Ext h2 h'->aE h' ⟨h0.size,0+2,none⟩ 0 [.slice O.p O.l O.c]:=fun h' x=>(ba.af x ah).cells _ rfl
  have P:∀ h',Ext h2 h'->aE h' ⟨Y,0+2,none⟩ 0 [.slice C.p C.l C.c]:=fun h' x=>(b2.af x ah).cells _ rfl
  refine ⟨⟨st J f,k J f,st J f,P J f,trivial⟩,?_⟩;have hwl:ws.length=i:=by have:=VO List.length n; simp at this; omega
  have hol:=own.len;have hz3:=f.size;refine re (vs:=ET pc lc r e) Qa Jc rfl ad ad aw rfl rfl own3.sl ad ad ad (fun h' x=>⟨y h' (f.trans x),st h' (f.trans x),k h' (f.trans x),st h' (f.trans x),P h' (f.trans x),trivial⟩) ?_;intro p5 c5 h5 s5 K hp5;have hbb:=Ob.SL.cu own3.sl;have e25:Ext h0 h5:=Ch.trans (o.trans f) K (fun j m hl=>by have:=(hbb _ m).1; omega);have F:aE h5 (W.add (i*3)) 0 (ET pp X M e):=bh e25 ah _ _ z;have ba5:=(ba.af f ah).af K (fun m=>by have:=(hbb _ m).1; omega);refine ⟨⟨⟨by rw [add_add]; exact F.2.1,by rw [add_add]; exact F.2.2.1,trivial⟩,ba5.cells _ rfl,⟨F.1,trivial⟩,ba5.cells _ rfl,trivial⟩,?_⟩;have b5:=(b2.af f ah).af K (fun m=>by have:=(hbb _ m).1; omega);refine bT b5 ?_;intro h6 b6 k6 z6;have b6:bm h6 Y 30 [A.v,B.v,(⟨p5,C.l+1,c5⟩:cm).v,D.v]:=b6;rw [wrap_i64 ad ad];refine aD (cs:=cU) (((i+1:Nat):Int),()) (V.aS.length-(i+1)) rfl ad rfl ⟨i+1,⟨p5,C.l+1,c5⟩,ws++[((⟨pc,lc,r⟩:cm),e)],rfl,ad,rfl,?_,b6,?_,by rw [VB,n,q]; rfl⟩
  ·exact Ch.trans (Ch.trans (Ch.trans t f ah) K (fun j m hl=>by have:=(hbb _ m).1; omega)) k6 (fun j m _=>m)
  ·have l5:Ug h5 h1.size p5 (C.l+1) c5 (ws++[((⟨pc,lc,r⟩:cm),e)]):=by
    refine ⟨by rw [VB]; exact s5,fun x Q=>?_,fun _ _=>trivial⟩;rcases VG.1 Q with Q | Q
    ·exact SL.eU (own3.own x Q) K (Ob.SL.fO own3.sl) bJ
    ·rw [VH.1 Q];exact SL.eU (Sx.SL.mono sc ad) K (Ob.SL.fO own3.sl) bJ
   exact l5.af k6 (fun j m _=>by simp at m; omega)
 ·have q:V.aS.take i=V.aS:=V0 ad;rw [q] at n;refine av b2 ((A.p,A.l,A.c),(B.p,B.l,B.c),(C.p,C.l,C.c),(D.p,D.l,D.c),()) (ak ?_);refine cr bb rfl (by simp [zU]) ?_;intro J b3 R z3;have b3:bm J (h0.size+1) 30 [A.v,B.v,C.v,D.v]:=b3;refine av b3 ((A.p,A.l,A.c),(B.p,B.l,B.c),(C.p,C.l,C.c),(D.p,D.l,D.c),()) ?_;have hw:∀ (e:TypeId),e≠30->∀ i,i∈[Y]->i<h1.size->i<h0.size+2\/∃ e' ys,bm h1 i e' ys/\e'≠e/\e'≠66:=fun e he i hi _=>by
   rw [VH.1 hi];exact .inr ⟨30,_,S,fun e=>he e.symm,bJ⟩
  have G:∀ i,i∈[(⟨h0.size+1,0,none⟩:YA).block]->i<h2.size->i<h0.size+2:=fun i hi _=>by simp at hi; omega
  have lS2:SN h2 (h0.size+2) D.p D.l D.c V.aJ:=SL.eU lS t (e':=30) (fun i hi=>by rw [VH.1 hi]; exact ⟨_,S⟩) bJ;exact ⟨⟨A,B,C,D,Z,wD,ws,rfl,((Ls.ig lT t (hw _ bJ)).af R G).mono ad,((Ls.ig lD t (hw _ bJ)).af R G).mono ad,(own.af R (fun i hi _=>by simp at hi; omega)).mono ad,Sx.SL.mono (SL.vJ lS2 R G) ad,eT,eD,n,ap⟩,bZ o R⟩
section
variable {L:Lp} {K:XB->Hp->Prop} {h0 h:Hp}
def db (b:h0.size+2<=h.size) {p:XC} {l c:Nat} {us:List cv} (v:Ai h p l us) (hn:us.length<=2^20) (d:∀ x,x∈us->x.e.ai.length<=2^40) {k:XC->Nat->Nat->T}
  (hk:∀ p' c' h' ws,Nz h' (h0.size+2) p' l c' ws->ws.map (·.2)=us->Ext h h'->(∀ i,i∈aG p'->h.size<=i)->k p' l c' L K h'):T.call YC 52 [.slice p l c] false [(false,[.slice 64])] k L K h:=by
 refine aH (uo v hn d) ?_;rintro _ h' ⟨⟨p',c',ws,rfl,a,f⟩,e⟩;exact ⟨((p',l,c'),()),rfl,hk p' c' h' ws (a.mono b) f e (fun i hi=>(Ob.SL.cu a.sl i hi).1)⟩
end
def gC {h0 h1:Hp} (v:jI h0 H I O U V) (m:V.aS.length<=2^20) (n:∀ e,e∈V.aS->e.2.ai.length<=2^40) (s:CU h0 H I O U h1) (h:bm h1 Y 30 zU) (o:h0.size+2<=Y) {A B D:cm} {wD:List (cm × cv)}
  (q:Nz h1 (h0.size+2) A.p A.l A.c Z) (lD:Nz h1 (h0.size+2) B.p B.l B.c wD) (r:SN h1 (h0.size+2) D.p D.l D.c V.aJ) (t:Z.map (·.2)=V.text) (w:wD.map (·.2)=V.data) (ap:HI A B) :
  T.ao ⟨Y,0,none⟩ [.slice A.p A.l A.c,.slice B.p B.l B.c,.slice none 0 0,.slice D.p D.l D.c] (Nb ⟨h0.size,0,none⟩ ⟨Y,0,none⟩ ⟨h0.size+1,0,none⟩) [] (FE V h0) h1:=by
 refine cr h rfl (by simp [zU]) ?_;intro h9 j f C;have j:bm h9 Y 30 [A.v,B.v,nZ.v,D.v]:=j;have k:∀ (e:TypeId),e≠30->∀ i,i∈[(⟨Y,0,none⟩:YA).block]->i<h1.size->i<h0.size+2\/∃ e' x,bm h1 i e' x/\e'≠e/\e'≠66:=fun e y i hi _=>by
  rw [VH.1 hi];exact .inr ⟨30,_,h,fun e=>y e.symm,bJ⟩
 have z:CU h0 H I O U h9:=⟨s.b1.af f (by simp; omega),s.b2.af f (by simp; omega),bZ s.ext f⟩
 exact Jk v.aS m n z o j (Ls.ig q f (k _ bJ)) (Ls.ig lD f (k _ bJ)) (SL.eU r f (e':=30) (fun i hi=>by rw [VH.1 hi]; exact ⟨_,h⟩) bJ) t w ap
def CL {h:Hp} (v:jI h H I O U V) (hT:V.text.length<=2^20) (F:V.data.length<=2^20) (z:V.aS.length<=2^20) (C:V.aJ.length<=2^40)
  (tT:∀ x,x∈V.text->x.e.ai.length<=2^40) (G:∀ x,x∈V.data->x.e.ai.length<=2^40) (E:∀ e,e∈V.aS->e.2.ai.length<=2^40) :
  HC YC 23 #[rU H I O U] h (FE V h):=by
 refine aZ (args:=[rU H I O U]) mixed Tryz.func23 aw (kW H.p H.l H.c I.p I.l I.c O.p O.l O.c U.p U.l U.c) ?_;unfold gJ aT bo bC ay bq aR ar aM aK;refine br ?_;intro h1 b1 e1 z1;refine br ?_;intro h2 b2 e2 z2;rw [z1] at b2;rw [show (⟨h1.size,0,none⟩:YA)=⟨h.size+1,0,none⟩ by rw [z1]];have s:CU h H I O U h2:=⟨b1.af e2 ah,b2,e1.trans e2⟩
 refine aC ((H.p,H.l,H.c),()) s.c0 (ak ?_);refine aC ((I.p,I.l,I.c),()) s.c1 (ak ?_);refine aC ((U.p,U.l,U.c),()) s.c3 (ak ?_);refine ⟨?_,?_,?_,trivial⟩
 ·refine db s.sz (v.text.af s.ext) hT tT ?_;intro k m h1 wT lT y e1 fT;have s:=s.af e1;refine ⟨⟨s.c3,s.c1,trivial⟩,?_⟩;refine ⟨?_,?_,?_,trivial⟩
  ·refine db s.sz (v.data.af s.ext) F G ?_;intro f j h2 wD lD r e2 t;have ap:HI ⟨k,H.l,m⟩ ⟨f,I.l,j⟩:=fun i hi w=>by
    have h1:=(Ob.SL.cu lT.sl i hi).2;have h2:=t i w;omega
   have s:=s.af e2;have lT:=lT.af e2 ah;refine ⟨⟨s.c3,s.c0,trivial⟩,?_⟩;refine ⟨?_,?_,trivial⟩
   ·refine j8 s.sz ?_;intro pz h3 sl e3;have s:=s.af e3;have lT:=lT.af e3 ah;have lD:=lD.af e3 ah;refine ⟨⟨s.c3,s.c1,s.c0,trivial⟩,?_⟩;refine ⟨?_,?_,trivial⟩
    ·refine eX s.sz sl (v.aJ.af s.ext) C ?_;intro n o h4 lS k4;have s:=s.kF k4;have lT:=cJ lT k4;have lD:=cJ lD k4;refine ⟨⟨s.c1,s.c0,trivial⟩,?_⟩;refine yg s ?_;intro h5 g bx q e5;have s:=s.af e5;have lT:=lT.af e5 ah;have lD:=lD.af e5 ah;have lS:=lS.af e5 ah;refine ⟨⟨s.c3,s.c1,s.c0,trivial⟩,?_⟩;exact gC (A:=⟨k,H.l,m⟩) (B:=⟨f,I.l,j⟩) (D:=⟨n,U.l,o⟩) v z E s bx q lT lD lS y r ap
    ·refine yg s ?_;intro h7 g bx q e7;have s:=s.af e7;have sl:=sl.af e7 ah;have lT:=lT.af e7 ah;have lD:=lD.af e7 ah;refine ⟨⟨s.c3,s.c1,s.c0,trivial⟩,?_⟩;refine eX s.sz sl (v.aJ.af s.ext) C ?_;intro n o h8 lS k8;have s:=s.kF k8;have bx:=fl bx k8;have lT:=cJ lT k8;have lD:=cJ lD k8;refine ⟨⟨s.c1,s.c0,trivial⟩,?_⟩;exact gC (A:=⟨k,H.l,m⟩) (B:=⟨f,I.l,j⟩) (D:=⟨n,U.l,o⟩) v z E s bx q lT lD lS y r ap
   ·refine yg s ?_;intro h10 g bx q e10;have s:=s.af e10;have lT:=lT.af e10 ah;have lD:=lD.af e10 ah;refine ⟨⟨s.c3,s.c1,s.c0,trivial⟩,?_⟩;refine j8 s.sz ?_;intro pz h11 sl J;have s:=s.af J;have bx:=bx.af J ah;have lT:=lT.af J ah;have lD:=lD.af J ah;refine ⟨⟨s.c3,s.c1,s.c0,trivial⟩,?_⟩;refine eX s.sz sl (v.aJ.af s.ext) C ?_;intro n o h12 lS K;have s:=s.kF K;have bx:=fl bx K;have lT:=cJ lT K;have lD:=cJ lD K;refine ⟨⟨s.c1,s.c0,trivial⟩,?_⟩;exact gC (A:=⟨k,H.l,m⟩) (B:=⟨f,I.l,j⟩) (D:=⟨n,U.l,o⟩) v z E s bx q lT lD lS y r ap
  ·refine j8 s.sz ?_;intro pz h14 sl e14;have s:=s.af e14;have lT:=lT.af e14 ah;refine ⟨⟨s.c3,s.c1,s.c0,trivial⟩,?_⟩;refine ⟨?_,?_,trivial⟩
   ·refine db s.sz (v.data.af s.ext) F G ?_;intro f j h15 wD lD r e15 t;have ap:HI ⟨k,H.l,m⟩ ⟨f,I.l,j⟩:=fun i hi w=>by
     have h1:=(Ob.SL.cu lT.sl i hi).2;have h2:=t i w;omega
    have s:=s.af e15;have sl:=sl.af e15 ah;have lT:=lT.af e15 ah;refine ⟨⟨s.c3,s.c0,trivial⟩,?_⟩;refine ⟨?_,?_,trivial⟩
    ·refine eX s.sz sl (v.aJ.af s.ext) C ?_;intro n o h16 lS k16;have s:=s.kF k16;have lT:=cJ lT k16;have lD:=cJ lD k16;refine ⟨⟨s.c1,s.c0,trivial⟩,?_⟩;refine yg s ?_;intro h17 g bx q L;have s:=s.af L;have lT:=lT.af L ah;have lD:=lD.af L ah;have lS:=lS.af L ah;refine ⟨⟨s.c3,s.c1,s.c0,trivial⟩,?_⟩;exact gC (A:=⟨k,H.l,m⟩) (B:=⟨f,I.l,j⟩) (D:=⟨n,U.l,o⟩) v z E s bx q lT lD lS y r ap
    ·refine yg s ?_;intro h19 g bx q M;have s:=s.af M;have sl:=sl.af M ah;have lT:=lT.af M ah;have lD:=lD.af M ah;refine ⟨⟨s.c3,s.c1,s.c0,trivial⟩,?_⟩;refine eX s.sz sl (v.aJ.af s.ext) C ?_;intro n o h20 lS N;have s:=s.kF N;have bx:=fl bx N;have lT:=cJ lT N;have lD:=cJ lD N;refine ⟨⟨s.c1,s.c0,trivial⟩,?_⟩;exact gC (A:=⟨k,H.l,m⟩) (B:=⟨f,I.l,j⟩) (D:=⟨n,U.l,o⟩) v z E s bx q lT lD lS y r ap
   ·refine yg s ?_;intro h22 g bx q e22;have s:=s.af e22;have sl:=sl.af e22 ah;have lT:=lT.af e22 ah;refine ⟨⟨s.c3,s.c1,s.c0,trivial⟩,?_⟩;refine db s.sz (v.data.af s.ext) F G ?_;intro f j h23 wD lD r P t;have ap:HI ⟨k,H.l,m⟩ ⟨f,I.l,j⟩:=fun i hi w=>by
     have h1:=(Ob.SL.cu lT.sl i hi).2;have h2:=t i w;omega
    have s:=s.af P;have bx:=bx.af P ah;have sl:=sl.af P ah;have lT:=lT.af P ah;refine ⟨⟨s.c3,s.c0,trivial⟩,?_⟩;refine eX s.sz sl (v.aJ.af s.ext) C ?_;intro n o h24 lS Q;have s:=s.kF Q;have bx:=fl bx Q;have lT:=cJ lT Q;have lD:=cJ lD Q;refine ⟨⟨s.c1,s.c0,trivial⟩,?_⟩;exact gC (A:=⟨k,H.l,m⟩) (B:=⟨f,I.l,j⟩) (D:=⟨n,U.l,o⟩) v z E s bx q lT lD lS y r ap
  ·refine yg s ?_;intro h26 g bx q e26;have s:=s.af e26;have lT:=lT.af e26 ah;refine ⟨⟨s.c3,s.c1,s.c0,trivial⟩,?_⟩;refine ⟨?_,?_,trivial⟩
   ·refine db s.sz (v.data.af s.ext) F G ?_;intro f j h27 wD lD r e27 t;have ap:HI ⟨k,H.l,m⟩ ⟨f,I.l,j⟩:=fun i hi w=>by
     have h1:=(Ob.SL.cu lT.sl i hi).2;have h2:=t i w;omega
    have s:=s.af e27;have bx:=bx.af e27 ah;have lT:=lT.af e27 ah;refine ⟨⟨s.c3,s.c0,trivial⟩,?_⟩;refine j8 s.sz ?_;intro pz h28 sl R;have s:=s.af R;have bx:=bx.af R ah;have lT:=lT.af R ah;have lD:=lD.af R ah;refine ⟨⟨s.c3,s.c1,s.c0,trivial⟩,?_⟩;refine eX s.sz sl (v.aJ.af s.ext) C ?_;intro n o h29 lS S;have s:=s.kF S;have bx:=fl bx S;have lT:=cJ lT S;have lD:=cJ lD S;refine ⟨⟨s.c1,s.c0,trivial⟩,?_⟩;exact gC (A:=⟨k,H.l,m⟩) (B:=⟨f,I.l,j⟩) (D:=⟨n,U.l,o⟩) v z E s bx q lT lD lS y r ap
   ·refine j8 s.sz ?_;intro pz h31 sl e31;have s:=s.af e31;have bx:=bx.af e31 ah;have lT:=lT.af e31 ah;refine ⟨⟨s.c3,s.c1,s.c0,trivial⟩,?_⟩;refine db s.sz (v.data.af s.ext) F G ?_;intro f j h32 wD lD r W t;have ap:HI ⟨k,H.l,m⟩ ⟨f,I.l,j⟩:=fun i hi w=>by
     have h1:=(Ob.SL.cu lT.sl i hi).2;have h2:=t i w;omega
    have s:=s.af W;have bx:=bx.af W ah;have sl:=sl.af W ah;have lT:=lT.af W ah;refine ⟨⟨s.c3,s.c0,trivial⟩,?_⟩;refine eX s.sz sl (v.aJ.af s.ext) C ?_;intro n o h33 lS X;have s:=s.kF X;have bx:=fl bx X;have lT:=cJ lT X;have lD:=cJ lD X;refine ⟨⟨s.c1,s.c0,trivial⟩,?_⟩;exact gC (A:=⟨k,H.l,m⟩) (B:=⟨f,I.l,j⟩) (D:=⟨n,U.l,o⟩) v z E s bx q lT lD lS y r ap
 ·refine j8 s.sz ?_;intro pz h35 sl e35;have s:=s.af e35;refine ⟨⟨s.c3,s.c1,s.c0,trivial⟩,?_⟩;refine ⟨?_,?_,trivial⟩
  ·refine db s.sz (v.text.af s.ext) hT tT ?_;intro k m h36 wT lT y e36 fT;have s:=s.af e36;have sl:=sl.af e36 ah;refine ⟨⟨s.c3,s.c1,trivial⟩,?_⟩;refine ⟨?_,?_,trivial⟩
   ·refine db s.sz (v.data.af s.ext) F G ?_;intro f j h37 wD lD r e37 t;have ap:HI ⟨k,H.l,m⟩ ⟨f,I.l,j⟩:=fun i hi w=>by
     have h1:=(Ob.SL.cu lT.sl i hi).2;have h2:=t i w;omega
    have s:=s.af e37;have sl:=sl.af e37 ah;have lT:=lT.af e37 ah;refine ⟨⟨s.c3,s.c0,trivial⟩,?_⟩;refine ⟨?_,?_,trivial⟩
    ·refine eX s.sz sl (v.aJ.af s.ext) C ?_;intro n o h38 lS k38;have s:=s.kF k38;have lT:=cJ lT k38;have lD:=cJ lD k38;refine ⟨⟨s.c1,s.c0,trivial⟩,?_⟩;refine yg s ?_;intro h39 g bx q Y;have s:=s.af Y;have lT:=lT.af Y ah;have lD:=lD.af Y ah;have lS:=lS.af Y ah;refine ⟨⟨s.c3,s.c1,s.c0,trivial⟩,?_⟩;exact gC (A:=⟨k,H.l,m⟩) (B:=⟨f,I.l,j⟩) (D:=⟨n,U.l,o⟩) v z E s bx q lT lD lS y r ap
    ·refine yg s ?_;intro h41 g bx q Z;have s:=s.af Z;have sl:=sl.af Z ah;have lT:=lT.af Z ah;have lD:=lD.af Z ah;refine ⟨⟨s.c3,s.c1,s.c0,trivial⟩,?_⟩;refine eX s.sz sl (v.aJ.af s.ext) C ?_;intro n o h42 lS k42;have s:=s.kF k42;have bx:=fl bx k42;have lT:=cJ lT k42;have lD:=cJ lD k42;refine ⟨⟨s.c1,s.c0,trivial⟩,?_⟩;exact gC (A:=⟨k,H.l,m⟩) (B:=⟨f,I.l,j⟩) (D:=⟨n,U.l,o⟩) v z E s bx q lT lD lS y r ap
   ·refine yg s ?_;intro h44 g bx q e44;have s:=s.af e44;have sl:=sl.af e44 ah;have lT:=lT.af e44 ah;refine ⟨⟨s.c3,s.c1,s.c0,trivial⟩,?_⟩;refine db s.sz (v.data.af s.ext) F G ?_;intro f j h45 wD lD r e45 t;have ap:HI ⟨k,H.l,m⟩ ⟨f,I.l,j⟩:=fun i hi w=>by
     have h1:=(Ob.SL.cu lT.sl i hi).2;have h2:=t i w;omega
    have s:=s.af e45;have bx:=bx.af e45 ah;have sl:=sl.af e45 ah;have lT:=lT.af e45 ah;refine ⟨⟨s.c3,s.c0,trivial⟩,?_⟩;refine eX s.sz sl (v.aJ.af s.ext) C ?_;intro n o h46 lS k46;have s:=s.kF k46;have bx:=fl bx k46;have lT:=cJ lT k46;have lD:=cJ lD k46;refine ⟨⟨s.c1,s.c0,trivial⟩,?_⟩;exact gC (A:=⟨k,H.l,m⟩) (B:=⟨f,I.l,j⟩) (D:=⟨n,U.l,o⟩) v z E s bx q lT lD lS y r ap
  ·refine yg s ?_;intro h48 g bx q e48;have s:=s.af e48;have sl:=sl.af e48 ah;refine ⟨⟨s.c3,s.c1,s.c0,trivial⟩,?_⟩;refine db s.sz (v.text.af s.ext) hT tT ?_;intro k m h49 wT lT y e49 fT;have s:=s.af e49;have bx:=bx.af e49 ah;have sl:=sl.af e49 ah;refine ⟨⟨s.c3,s.c1,trivial⟩,?_⟩;refine db s.sz (v.data.af s.ext) F G ?_;intro f j h50 wD lD r e50 t;have ap:HI ⟨k,H.l,m⟩ ⟨f,I.l,j⟩:=fun i hi w=>by
    have h1:=(Ob.SL.cu lT.sl i hi).2;have h2:=t i w;omega
   have s:=s.af e50;have bx:=bx.af e50 ah;have sl:=sl.af e50 ah;have lT:=lT.af e50 ah;refine ⟨⟨s.c3,s.c0,trivial⟩,?_⟩;refine eX s.sz sl (v.aJ.af s.ext) C ?_;intro n o h51 lS k51;have s:=s.kF k51;have bx:=fl bx k51;have lT:=cJ lT k51;have lD:=cJ lD k51;refine ⟨⟨s.c1,s.c0,trivial⟩,?_⟩;exact gC (A:=⟨k,H.l,m⟩) (B:=⟨f,I.l,j⟩) (D:=⟨n,U.l,o⟩) v z E s bx q lT lD lS y r ap
 ·refine yg s ?_;intro h53 g bx q e53;have s:=s.af e53;refine ⟨⟨s.c3,s.c1,s.c0,trivial⟩,?_⟩;refine ⟨?_,?_,trivial⟩
  ·refine db s.sz (v.text.af s.ext) hT tT ?_;intro k m h54 wT lT y e54 fT;have s:=s.af e54;have bx:=bx.af e54 ah;refine ⟨⟨s.c3,s.c1,trivial⟩,?_⟩;refine ⟨?_,?_,trivial⟩
   ·refine db s.sz (v.data.af s.ext) F G ?_;intro f j h55 wD lD r e55 t;have ap:HI ⟨k,H.l,m⟩ ⟨f,I.l,j⟩:=fun i hi w=>by
     have h1:=(Ob.SL.cu lT.sl i hi).2;have h2:=t i w;omega
    have s:=s.af e55;have bx:=bx.af e55 ah;have lT:=lT.af e55 ah;refine ⟨⟨s.c3,s.c0,trivial⟩,?_⟩;refine j8 s.sz ?_;intro pz h56 sl e56;have s:=s.af e56;have bx:=bx.af e56 ah;have lT:=lT.af e56 ah;have lD:=lD.af e56 ah;refine ⟨⟨s.c3,s.c1,s.c0,trivial⟩,?_⟩;refine eX s.sz sl (v.aJ.af s.ext) C ?_;intro n o h57 lS k57;have s:=s.kF k57;have bx:=fl bx k57;have lT:=cJ lT k57;have lD:=cJ lD k57;refine ⟨⟨s.c1,s.c0,trivial⟩,?_⟩;exact gC (A:=⟨k,H.l,m⟩) (B:=⟨f,I.l,j⟩) (D:=⟨n,U.l,o⟩) v z E s bx q lT lD lS y r ap
   ·refine j8 s.sz ?_;intro pz h59 sl e59;have s:=s.af e59;have bx:=bx.af e59 ah;have lT:=lT.af e59 ah;refine ⟨⟨s.c3,s.c1,s.c0,trivial⟩,?_⟩;refine db s.sz (v.data.af s.ext) F G ?_;intro f j h60 wD lD r e60 t;have ap:HI ⟨k,H.l,m⟩ ⟨f,I.l,j⟩:=fun i hi w=>by
     have h1:=(Ob.SL.cu lT.sl i hi).2;have h2:=t i w;omega
    have s:=s.af e60;have bx:=bx.af e60 ah;have sl:=sl.af e60 ah;have lT:=lT.af e60 ah;refine ⟨⟨s.c3,s.c0,trivial⟩,?_⟩;refine eX s.sz sl (v.aJ.af s.ext) C ?_;intro n o h61 lS k61;have s:=s.kF k61;have bx:=fl bx k61;have lT:=cJ lT k61;have lD:=cJ lD k61;refine ⟨⟨s.c1,s.c0,trivial⟩,?_⟩;exact gC (A:=⟨k,H.l,m⟩) (B:=⟨f,I.l,j⟩) (D:=⟨n,U.l,o⟩) v z E s bx q lT lD lS y r ap
  ·refine j8 s.sz ?_;intro pz h63 sl e63;have s:=s.af e63;have bx:=bx.af e63 ah;refine ⟨⟨s.c3,s.c1,s.c0,trivial⟩,?_⟩;refine db s.sz (v.text.af s.ext) hT tT ?_;intro k m h64 wT lT y e64 fT;have s:=s.af e64;have bx:=bx.af e64 ah;have sl:=sl.af e64 ah;refine ⟨⟨s.c3,s.c1,trivial⟩,?_⟩;refine db s.sz (v.data.af s.ext) F G ?_;intro f j h65 wD lD r e65 t;have ap:HI ⟨k,H.l,m⟩ ⟨f,I.l,j⟩:=fun i hi w=>by
    have h1:=(Ob.SL.cu lT.sl i hi).2;have h2:=t i w;omega
   have s:=s.af e65;have bx:=bx.af e65 ah;have sl:=sl.af e65 ah;have lT:=lT.af e65 ah;refine ⟨⟨s.c3,s.c0,trivial⟩,?_⟩;refine eX s.sz sl (v.aJ.af s.ext) C ?_;intro n o h66 lS k66;have s:=s.kF k66;have bx:=fl bx k66;have lT:=cJ lT k66;have lD:=cJ lD k66;refine ⟨⟨s.c1,s.c0,trivial⟩,?_⟩;exact gC (A:=⟨k,H.l,m⟩) (B:=⟨f,I.l,j⟩) (D:=⟨n,U.l,o⟩) v z E s bx q lT lD lS y r ap
end Go.Sx.Ob
namespace Go.Sx.Lk
open Go.Proofs Go.Sx.Ob
variable {lA:Nat} {pA:XC}
def HR (w:cm × jn):List XB:=ET w.1.p w.1.l w.1.c w.2
def UM (c:XC) (b:Nat) (C:YA) (d:XC) (e f:Nat) (k:T):T :=
 T.loop [aK] [vI (0:Int)] <| fun (a:Int) =>
 bC a b
  (T.need (eH a b) <|
  T.bd c <| fun (g:YA) =>
  T.ae ((g.add (ay a 10)).add 1) [.string] <| fun (h:XA) =>
  T.ae (C.add 3) [.slice 9] <| fun (i:XC) (j l:Nat) =>
  bq 40 [.string h,.slice d e f,.slice i j l] false [(false,[.string])] <| fun (m:XA) =>
  T.need (eH a b) <|
  T.bd c <| fun (n:YA) =>
  T.ao ((n.add (ay a 10)).add 1) [.string m] <|
  T.need (eH a b) <|
  T.bd c <| fun (o:YA) =>
  T.ae ((o.add (ay a 10)).add 7) [.slice 66,.int .u32] <| fun (p:XC) (q r:Nat) (s:Int) =>
  T.ae (C.add 3) [.slice 9] <| fun (t:XC) (u w:Nat) =>
  bq 41 [.agg #[.slice p q r,ar s],.slice d e f,.slice t u w] false [(true,[.slice 66,.int .u32])] <| fun (x:XC) (y z:Nat) (A:Int) =>
  T.need (eH a b) <|
  T.bd c <| fun (B:YA) =>
  T.ao ((B.add (ay a 10)).add 7) [.slice x y z,ar A] <|
  T.again 1 [vI (bf (a+(1:Int)))])
  k
def U0 (x:cL):Prop:=x.ai.length<=2^40/\∀ t,t∈x.ai->t.1.size<=2^40
variable {O:XB->Hp->Prop} {I U Z a:cm}
def J8 {J0:List XB->Hp->Prop} {h0 h:Hp} {b Q:Nat} {sa sb sc sd:cm} {ws:List (cm × cv)} {u:bS} {cA:Nat} {k:T} (e0:Ext h0 h) (hb0:h0.size<=b) (hb:b<=h.size)
  (sl:SL h b 64 10 I.p I.l I.c (ws.map fQ)) (own:∀ w,w∈ws->SL h b 66 2 w.1.p w.1.l w.1.c (w.2.e.ai.map cg)) (hn:ws.length<=2^20) (hs:∀ w,w∈ws->U0 w.2.e/\w.2.name.size<=2^40)
  (b2:bm h Q 30 [sa.v,sb.v,sc.v,sd.v]) (vA:A5 h0 pA lA (cd u)) (vG:A5 h0 sd.p sd.l u.aJ)
  (hk:∀ J h' (vs:List (cm × cv)),SL h' b 64 10 I.p I.l I.c (vs.map fQ)->(∀ w,w∈vs->SL h' b 66 2 w.1.p w.1.l w.1.c (w.2.e.ai.map cg))->vs.map (·.2)=ws.map (fun w=>dx u w.2)->Ch (aG I.p) h h'->k [J0,J] O h') :
  UM I.p I.l ⟨Q,0,none⟩ pA lA cA k [J0] O h:=by
 unfold UM bC ay bq bf eH ar aK;have hsl:I.l=ws.length:=by have:=sl.1; rwa [Vr] at this
 have hob:=fun j A=>sl.cu (i:=j) A
 have R:Q∉aG I.p:=fun E=>by
  obtain ⟨ys,F⟩:=SL.fO sl _ E;exact absurd (fC b2 F) bJ
 refine aY (cs:=cU) (fun y m h'=>∃ (i:Nat) (t:List (cm × cv)),y.1=(i:Int)/\m=ws.length-i/\i<=ws.length/\Ch (aG I.p) h h'/\SL h' b 64 10 I.p I.l I.c ((t++ws.drop i).map fQ)/\t.length=i/\(∀ w,w∈t->SL h' b 66 2 w.1.p w.1.l w.1.c (w.2.e.ai.map cg))/\t.map (·.2)=(ws.take i).map (fun w=>dx u w.2)) ((0:Int),()) ws.length rfl
  ⟨0,[],rfl,rfl,ad,Ch.refl _ _,sl,rfl,ah,rfl⟩ ?_
 rintro ⟨n43,⟨⟩⟩ m h1 ⟨i,t,hi,rfl,hil,k1,S,n,U,G⟩;simp only at hi;subst hi;refine ak ?_;have e1:Ext h0 h1:=Ch.trans e0 k1 (fun j A hl=>by have:=(hob j A).1; omega);refine aQ ?_ ?_<;>intro g
 ·have f:i<ws.length:=ad
  have B:(t++ws.drop i).length=ws.length:=by rw [Vs,n,V6]; omega
  obtain ⟨a,H,hc⟩:=SL.cells S (i:=i) (by rw [Vr,B]; exact f);rw [VD,uT n f (by rw [B]; exact f)] at hc;obtain ⟨⟨V,W⟩,X⟩:=hs _ (VA f);have how:=own _ (VA f);have D:(((t++ws.drop i).map fQ)[i]'(by rw [Vr,B]; exact f))=fQ ws[i]:=by rw [VD,uT n f (by rw [B]; exact f)]
  have Y:(ws.take (i+1)).map (fun w=>dx u w.2)=(ws.take i).map (fun w=>dx u w.2)++[dx u ws[i].2]:=by rw [Vt f,VB]; rfl
  have iC:∀ y,(t++ws.drop i).set i y=(t++[y])++ws.drop (i+1):=fun y=>CT n f y
  generalize ws[i]=w at hc V W X how D Y;have b21:=b2.af k1 R;have Z:∀ {h3:Hp} {O:XB->Hp->Prop} {Lq:Lp} {kk:XC->Nat->Nat->T},bm h3 Q 30 [sa.v,sb.v,sc.v,sd.v]->kk sd.p sd.l sd.c Lq O h3->T.ae ((⟨Q,0,none⟩:YA).add 3) [.slice 9] kk Lq O h3:=by
   intro h3 O Lq kk bx hk;rw [ax];exact bj bx ((sd.p,sd.l,sd.c),()) rfl hk
  refine cC H ?_;rw [cX i];refine aC (w.2.name,()) ⟨by rw [add_add]; exact hc.2.1,trivial⟩ ?_;refine ak ?_;refine Z b21 ?_;refine vc (yr (c:=cA) (d:=sd.c) (vA.af e1) (vG.af e1) X) ?_;refine cC H ?_;refine SL.part (P:=YC) S (i:=i) (by rw [Vr,B]; exact f) (o:=1) (vs:=[.string (A1 (cd u) u.aJ w.2.name)]) ah (by simp [cO]) H ?_;intro h2 s2 k2 z2;rw [D,show gW (fQ w) 1 [Value.string (A1 (cd u) u.aJ w.2.name)]=fQ (w.1,{ w.2 with name:=eM u w.2.name }) from rfl,<- WR,iC] at s2;have C:Ch (aG I.p) h h2:=Ch.trans k1 k2 fun j A _=>A
  have e2:Ext h0 h2:=Ch.trans e0 C (fun j A hl=>by have:=(hob j A).1; omega);have b22:=b2.af C R;have how2:SL h2 b 66 2 w.1.p w.1.l w.1.c (w.2.e.ai.map cg):=Sx.SL.bH how C fun x hx E=>by
   obtain ⟨ys,F⟩:=SL.fO how x hx;obtain ⟨zs,hz⟩:=SL.fO sl x E;exact absurd (fC F hz) bJ
  have q:((t++[((w.1,{ w.2 with name:=eM u w.2.name }):cm × cv)])++ws.drop (i+1)).length=ws.length:=by rw [Vs,Vs,n,V6,List.length_singleton]; omega
  have hg2:∀ (y:cm × cv) (hlt:i<((t++[y])++ws.drop (i+1)).length),((t++[y])++ws.drop (i+1))[i]=y:=fun y hlt=>by
   rw [WZ (by rw [Vs,n]; simp),WS ad];simp [n]
  obtain ⟨a2,ha2,L⟩:=SL.cells s2 (i:=i) (by rw [Vr,q]; exact f);rw [VD,hg2 _ (by rw [q]; exact f)] at L;rw [H] at ha2;cases ha2;refine cC H ?_;refine aC ((w.1.p,w.1.l,w.1.c),(w.2.e.num:Int),()) ⟨by rw [add_add]; exact L.2.2.2.2.2.2.2.1,by rw [add_add]; exact L.2.2.2.2.2.2.2.2.1,trivial⟩ ?_;refine ak ?_;refine Z b22 ?_;refine aH (BI (x:=w.2.e) (c:=w.1.c) (cA:=cA) (cG:=sd.c) (Sx.SL.Su how2) V W (vA.af e2) (vG.af e2)) ?_;rintro _ h3 ⟨e3,p',l',c',rfl,s3⟩;refine ⟨((p',l',c'),(w.2.e.num:Int),()),rfl,ak ?_⟩;have z3:=e3.size;have z12:=C.size;refine cC H ?_;have s23:=Sx.SL.bH s2 e3 ah;refine SL.part (P:=YC) s23 (i:=i) (by rw [Vr,q]; exact f) (o:=7) (vs:=[.slice p' l' c',.int .u32 (w.2.e.num:Int)]) ah (by simp [cO]) H ?_;intro h4 s4 k4 z4;have M:((((t++[((w.1,{ w.2 with name:=eM u w.2.name }):cm × cv)])++ws.drop (i+1)).map fQ)[i]'(by rw [Vr,q]; exact f))=fQ (w.1,{ w.2 with name:=eM u w.2.name }):=by rw [VD,hg2 _ (by rw [q]; exact f)]
  have N:((t++[((w.1,{ w.2 with name:=eM u w.2.name }):cm × cv)])++ws.drop (i+1)).set i (⟨p',l',c'⟩,dx u w.2)=(t++[((⟨p',l',c'⟩:cm),dx u w.2)])++ws.drop (i+1):=by
   rw [List.set_append_left _ _ (by rw [Vs,n]; simp),WU _ _ ad,n,W1] <;> rfl
  rw [M,show gW (fQ (w.1,{ w.2 with name:=eM u w.2.name })) 7 [Value.slice p' l' c',Value.int .u32 (w.2.e.num:Int)]=fQ (⟨p',l',c'⟩,dx u w.2) from rfl,<- WR,N] at s4;have k14:Ch (aG I.p) h h4:=Ch.trans (Ch.trans C e3 ah) k4 fun j A _=>A
  have kk:∀ {w':cm × cv},SL h1 b 66 2 w'.1.p w'.1.l w'.1.c (w'.2.e.ai.map cg)->SL h4 b 66 2 w'.1.p w'.1.l w'.1.c (w'.2.e.ai.map cg):=fun r=>by
   have k24:Ch (aG I.p) h1 h4:=Ch.trans (Ch.trans k2 e3 ah) k4 fun j A _=>A
   refine Sx.SL.bH r k24 fun x hx E=>?_
   obtain ⟨ys,F⟩:=SL.fO r x hx;obtain ⟨zs,hz⟩:=SL.fO S x E;exact absurd (fC F hz) bJ
  have hnew:SL h4 b 66 2 p' l' c' ((dx u w.2).e.ai.map cg):=by
   have h5:=s3.mono (b':=b) ad;refine Sx.SL.bH h5 k4 fun x hx E=>?_
   obtain ⟨ys,F⟩:=SL.fO h5 x hx;obtain ⟨zs,hz⟩:=SL.fO s23 x E;exact absurd (fC F hz) bJ
  have hw:=lC i;refine aD (cs:=cU) (((i+1:Nat):Int),()) (ws.length-(i+1)) rfl ad (VO (fun z=>[Value.int .i64 z]) hw) ⟨i+1,_,rfl,rfl,ad,k14,s4,by rw [Vs,n]; rfl,fun w' r=>?_,by rw [VB,G,Y]; rfl⟩;rcases VG.1 r with r | r
  ·exact kk (U w' r)
  ·rw [VH.1 r];exact hnew
 ·have hie:i=ws.length:=ad
  rw [hie,Wn,Wr] at S;rw [hie,V1] at G;exact hk _ h1 t S U G k1
def UK (b O:YA) (c:XC) (d e:Nat) (k:T):T :=
 T.loop [aK] [vI (0:Int)] <| fun (a:Int) =>
 T.ae (b.add 2) [.slice 88] <| fun (P:XC) (o Q:Nat) =>
 bC a o
  (T.ae (b.add 2) [.slice 88] <| fun (f:XC) (g p:Nat) =>
  T.ae (b.add 2) [.slice 88] <| fun (h:XC) (i q:Nat) =>
  T.need (eH a i) <|
  T.bd h <| fun (r:YA) =>
  T.ae (r.add (ay a 3)) [.string] <| fun (s:XA) =>
  T.ae (O.add 3) [.slice 9] <| fun (t:XC) (u w:Nat) =>
  bq 40 [.string s,.slice c d e,.slice t u w] false [(false,[.string])] <| fun (x:XA) =>
  T.az [((b.add 2),[.slice h i q]),((b.add 2),[.slice f g p])] <|
  T.need (eH a g) <|
  T.bd f <| fun (y:YA) =>
  T.ao (y.add (ay a 3)) [.string x] <|
  T.ae (b.add 2) [.slice 88] <| fun (j:XC) (l z:Nat) =>
  T.ae (b.add 2) [.slice 88] <| fun (m:XC) (n A:Nat) =>
  T.need (eH a n) <|
  T.bd m <| fun (B:YA) =>
  T.ae ((B.add (ay a 3)).add 1) [.slice 66,.int .u32] <| fun (C:XC) (D E:Nat) (F:Int) =>
  T.ae (O.add 3) [.slice 9] <| fun (G:XC) (H I:Nat) =>
  bq 41 [.agg #[.slice C D E,ar F],.slice c d e,.slice G H I] false [(true,[.slice 66,.int .u32])] <| fun (J:XC) (K L:Nat) (M:Int) =>
  T.az [((b.add 2),[.slice m n A]),((b.add 2),[.slice j l z])] <|
  T.need (eH a l) <|
  T.bd j <| fun (N:YA) =>
  T.ao ((N.add (ay a 3)).add 1) [.slice J K L,ar M] <|
  T.again 1 [vI (bf (a+(1:Int)))])
  k
def RS {J0:List XB->Hp->Prop} {h0 h:Hp} {b g2 N:Nat} {sa sb sc sd:cm} {ws:List (cm × jn)} {u:bS} {cA:Nat} {k:T} (e0:Ext h0 h) (hb0:h0.size<=b) (hb:b<=h.size)
  (sl:SL h b 88 3 I.p I.l I.c (ws.map HR)) (own:∀ w,w∈ws->SL h b 66 2 w.1.p w.1.l w.1.c (w.2.2.ai.map cg)) (hn:ws.length<=2^20) (hs:∀ w,w∈ws->U0 w.2.2/\w.2.1.size<=2^40)
  (b2:bm h g2 30 [sa.v,sb.v,sc.v,sd.v]) (D3:bm h N 30 [U.v,Z.v,I.v,a.v]) (vA:A5 h0 pA lA (cd u)) (vG:A5 h0 sd.p sd.l u.aJ)
  (hk:∀ J h' (vs:List (cm × jn)),SL h' b 88 3 I.p I.l I.c (vs.map HR)->(∀ w,w∈vs->SL h' b 66 2 w.1.p w.1.l w.1.c (w.2.2.ai.map cg))->vs.map (·.2)=ws.map (fun w=>iJ u w.2)->Ch (aG I.p) h h'->k [J0,J] O h') :
  UK ⟨N,0,none⟩ ⟨g2,0,none⟩ pA lA cA k [J0] O h:=by
 unfold UK bC ay bq bf eH ar aK;simp only [ax];have hsl:I.l=ws.length:=by have:=sl.1; rwa [Vr] at this
 have hob:=fun j E=>sl.cu (i:=j) E
 have X:g2∉aG I.p:=fun G=>by
  obtain ⟨ys,H⟩:=SL.fO sl _ G;exact absurd (fC b2 H) bJ
 have L:N∉aG I.p:=fun G=>by
  obtain ⟨ys,H⟩:=SL.fO sl _ G;exact absurd (fC D3 H) bJ
 refine aY (cs:=cU) (fun y m h'=>∃ (i:Nat) (t:List (cm × jn)),y.1=(i:Int)/\m=ws.length-i/\i<=ws.length/\Ch (aG I.p) h h'/\SL h' b 88 3 I.p I.l I.c ((t++ws.drop i).map HR)/\t.length=i/\(∀ w,w∈t->SL h' b 66 2 w.1.p w.1.l w.1.c (w.2.2.ai.map cg))/\t.map (·.2)=(ws.take i).map (fun w=>iJ u w.2)) ((0:Int),()) ws.length rfl
  ⟨0,[],rfl,rfl,ad,Ch.refl _ _,sl,rfl,ah,rfl⟩ ?_
 rintro ⟨n39,⟨⟩⟩ m h1 ⟨i,t,hi,rfl,hil,Y,s1,n,hdo,Q⟩;simp only at hi;subst hi;refine ak ?_;have e1:Ext h0 h1:=Ch.trans e0 Y (fun j E hl=>by have:=(hob j E).1; omega);have b281:=D3.af Y L;refine av b281 ((I.p,I.l,I.c),()) (ak ?_);refine aQ ?_ ?_<;>intro g
 ·have f:i<ws.length:=ad
  have F:(t++ws.drop i).length=ws.length:=by rw [Vs,n,V6]; omega
  obtain ⟨e,R,hc⟩:=SL.cells s1 (i:=i) (by rw [Vr,F]; exact f);rw [VD,uT n f (by rw [F]; exact f)] at hc;obtain ⟨⟨hs1,hs2⟩,hs3⟩:=hs _ (VA f);have how:=own _ (VA f);have M:(((t++ws.drop i).map HR)[i]'(by rw [Vr,F]; exact f))=HR ws[i]:=by rw [VD,uT n f (by rw [F]; exact f)]
  have htk:(ws.take (i+1)).map (fun w=>iJ u w.2)=(ws.take i).map (fun w=>iJ u w.2)++[iJ u ws[i].2]:=by rw [Vt f,VB]; rfl
  have iC:∀ y,(t++ws.drop i).set i y=(t++[y])++ws.drop (i+1):=fun y=>CT n f y
  generalize ws[i]=w at hc hs1 hs2 hs3 how M htk;have b21:=b2.af Y X;refine av b281 ((I.p,I.l,I.c),()) (ak ?_);refine av b281 ((I.p,I.l,I.c),()) (ak ?_);refine cC R ?_;rw [cX i];refine aC (w.2.1,()) ⟨hc.1,trivial⟩ (ak ?_);refine av b21 ((sd.p,sd.l,sd.c),()) (ak ?_);refine vc (yr (c:=cA) (d:=sd.c) (vA.af e1) (vG.af e1) hs3) ?_;refine ⟨⟨b281.cells _ rfl,b281.cells _ rfl,trivial⟩,?_⟩;refine cC R ?_;show T.ao ((e.add (i*3)).add 0) _ _ _ _ _;refine SL.part (P:=YC) s1 (i:=i) (by rw [Vr,F]; exact f) (o:=0) (vs:=[.string (A1 (cd u) u.aJ w.2.1)]) ah (by simp [cO]) R ?_;intro h2 s2 k2 z2;rw [M,show gW (HR w) 0 [Value.string (A1 (cd u) u.aJ w.2.1)]=HR (w.1,(eM u w.2.1,w.2.2)) from rfl,<- WR,iC] at s2;have C:Ch (aG I.p) h h2:=Ch.trans Y k2 fun j E _=>E
  have e2:Ext h0 h2:=Ch.trans e0 C (fun j E hl=>by have:=(hob j E).1; omega);have b22:=b2.af C X;have b282:=D3.af C L;have how2:SL h2 b 66 2 w.1.p w.1.l w.1.c (w.2.2.ai.map cg):=Sx.SL.bH how C fun x hx G=>by
   obtain ⟨ys,H⟩:=SL.fO how x hx;obtain ⟨zs,hz⟩:=SL.fO sl x G;exact absurd (fC H hz) bJ
  have q:((t++[((w.1,(eM u w.2.1,w.2.2)):cm × jn)])++ws.drop (i+1)).length=ws.length:=by rw [Vs,Vs,n,V6,List.length_singleton]; omega
  have hg2:∀ (y:cm × jn) (hlt:i<((t++[y])++ws.drop (i+1)).length),((t++[y])++ws.drop (i+1))[i]=y:=fun y hlt=>by
   rw [WZ (by rw [Vs,n]; simp),WS ad];simp [n]
  obtain ⟨a2,ha2,S⟩:=SL.cells s2 (i:=i) (by rw [Vr,q]; exact f);rw [VD,hg2 _ (by rw [q]; exact f)] at S;rw [R] at ha2;cases ha2;refine av b282 ((I.p,I.l,I.c),()) (ak ?_);refine av b282 ((I.p,I.l,I.c),()) (ak ?_);refine cC R ?_;refine aC ((w.1.p,w.1.l,w.1.c),(w.2.2.num:Int),()) ⟨by rw [add_add]; exact S.2.1,by rw [add_add]; exact S.2.2.1,trivial⟩ ?_;refine ak ?_;refine av b22 ((sd.p,sd.l,sd.c),()) (ak ?_);refine aH (BI (x:=w.2.2) (c:=w.1.c) (cA:=cA) (cG:=sd.c) (Sx.SL.Su how2) hs1 hs2 (vA.af e2) (vG.af e2)) ?_;rintro _ h3 ⟨e3,p',l',c',rfl,s3⟩;refine ⟨((p',l',c'),(w.2.2.num:Int),()),rfl,ak ?_⟩;have z3:=e3.size;have z12:=C.size;have b283:=b282.af e3 ah;refine ⟨⟨b283.cells _ rfl,b283.cells _ rfl,trivial⟩,?_⟩;refine cC R ?_;have s23:=Sx.SL.bH s2 e3 ah;refine SL.part (P:=YC) s23 (i:=i) (by rw [Vr,q]; exact f) (o:=1) (vs:=[.slice p' l' c',.int .u32 (w.2.2.num:Int)]) ah (by simp [cO]) R ?_;intro h4 s4 k4 z4;have V:((((t++[((w.1,(eM u w.2.1,w.2.2)):cm × jn)])++ws.drop (i+1)).map HR)[i]'(by rw [Vr,q]; exact f))=HR (w.1,(eM u w.2.1,w.2.2)):=by rw [VD,hg2 _ (by rw [q]; exact f)]
  have W:((t++[((w.1,(eM u w.2.1,w.2.2)):cm × jn)])++ws.drop (i+1)).set i (⟨p',l',c'⟩,iJ u w.2)=(t++[((⟨p',l',c'⟩:cm),iJ u w.2)])++ws.drop (i+1):=by
   rw [List.set_append_left _ _ (by rw [Vs,n]; simp),WU _ _ ad,n,W1] <;> rfl
  rw [V,show gW (HR (w.1,(eM u w.2.1,w.2.2))) 1 [Value.slice p' l' c',Value.int .u32 (w.2.2.num:Int)]=HR (⟨p',l',c'⟩,iJ u w.2) from rfl,<- WR,W] at s4;have k14:Ch (aG I.p) h h4:=Ch.trans (Ch.trans C e3 ah) k4 fun j E _=>E
  have kk:∀ {w':cm × jn},SL h1 b 66 2 w'.1.p w'.1.l w'.1.c (w'.2.2.ai.map cg)->SL h4 b 66 2 w'.1.p w'.1.l w'.1.c (w'.2.2.ai.map cg):=fun r=>by
   have k24:Ch (aG I.p) h1 h4:=Ch.trans (Ch.trans k2 e3 ah) k4 fun j E _=>E
   refine Sx.SL.bH r k24 fun x hx G=>?_
   obtain ⟨ys,H⟩:=SL.fO r x hx;obtain ⟨zs,hz⟩:=SL.fO s1 x G;exact absurd (fC H hz) bJ
  have hnew:SL h4 b 66 2 p' l' c' ((iJ u w.2).2.ai.map cg):=by
   have h5:=s3.mono (b':=b) ad;refine Sx.SL.bH h5 k4 fun x hx G=>?_
   obtain ⟨ys,H⟩:=SL.fO h5 x hx;obtain ⟨zs,hz⟩:=SL.fO s23 x G;exact absurd (fC H hz) bJ
  have hw:=lC i;refine aD (cs:=cU) (((i+1:Nat):Int),()) (ws.length-(i+1)) rfl ad (VO (fun z=>[Value.int .i64 z]) hw) ⟨i+1,_,rfl,rfl,ad,k14,s4,by rw [Vs,n]; rfl,fun w' r=>?_,by rw [VB,Q,htk]; rfl⟩;rcases VG.1 r with r | r
  ·exact kk (hdo w' r)
  ·rw [VH.1 r];exact hnew
 ·have hie:i=ws.length:=ad
  rw [hie,Wn,Wr] at s1;rw [hie,V1] at Q;exact hk _ h1 t s1 hdo Q Y
variable {H:Hp}
def Kn {b:Nat} {p:XC} {l c:Nat} {ws:List (cm × cv)} (s:SL H b 64 10 p l c (ws.map fQ)) (own:∀ w,w∈ws->SL H b 66 2 w.1.p w.1.l w.1.c (w.2.e.ai.map cg)) (d:ws.length<=2^60)
  (ok:∀ x,x∈ws.map (·.2)->x.e.ai.length<=2^60/\(∀ t,t∈x.e.ai->t.1.size<=maxLen)/\x.name.size<=maxLen/\Sm x.inst.op):Ai H p l (ws.map (·.2)) :=
 ⟨by have:=s.1; rw [Vr] at this; rw [Vr]; exact this,by rw [Vr]; exact d,fun i hi=>by
  rw [Vr] at hi;obtain ⟨a,g,hc⟩:=SL.cells s (i:=i) (by rw [Vr]; exact hi);rw [VD] at hc;obtain ⟨j,k,m,n⟩:=ok _ (VM (f:=(·.2)) (VA hi));rw [VD];exact ⟨a,_,_,_,g,hc,⟨⟨Sx.SL.Su (own _ (VA hi)),j,k⟩,m,n⟩⟩⟩
def RO {b:Nat} {p:XC} {l c:Nat} {ws:List (cm × jn)} (s:SL H b 88 3 p l c (ws.map HR)) (own:∀ w,w∈ws->SL H b 66 2 w.1.p w.1.l w.1.c (w.2.2.ai.map cg)) (d:ws.length<=2^60)
  (ok:∀ x,x∈ws.map (·.2)->x.2.ai.length<=2^60/\(∀ t,t∈x.2.ai->t.1.size<=maxLen)/\x.1.size<=maxLen):Ob.Ah H p l (ws.map (·.2)) :=
 ⟨by have:=s.1; rw [Vr] at this; rw [Vr]; exact this,by rw [Vr]; exact d,fun i hi=>by
  rw [Vr] at hi;obtain ⟨a,e,hc⟩:=SL.cells s (i:=i) (by rw [Vr]; exact hi);rw [VD] at hc;obtain ⟨g,j,k⟩:=ok _ (VM (f:=(·.2)) (VA hi));rw [VD];exact ⟨a,_,_,_,e,hc,⟨Sx.SL.Su (own _ (VA hi)),g,j⟩,k⟩⟩
def Dw (u:bS) (x:cL):(lR u x).ai.length=x.ai.length:=by
 show (fV (eM u) x.ai).length=_;rw [(nS _ _).length_eq,Vr]
structure DE (h:Hp) (A B C D:cm) (w:bS):Prop where
 t:∃ vT:List (cm × cv),SL h 0 64 10 A.p A.l A.c (vT.map fQ)/\(∀ x,x∈vT->SL h 0 66 2 x.1.p x.1.l x.1.c (x.2.e.ai.map cg))/\vT.map (·.2)=w.text
 d:∃ vD:List (cm × cv),SL h 0 64 10 B.p B.l B.c (vD.map fQ)/\(∀ x,x∈vD->SL h 0 66 2 x.1.p x.1.l x.1.c (x.2.e.ai.map cg))/\vD.map (·.2)=w.data
 e:∃ vE:List (cm × jn),SL h 0 88 3 C.p C.l C.c (vE.map HR)/\(∀ x,x∈vE->SL h 0 66 2 x.1.p x.1.l x.1.c (x.2.2.ai.map cg))/\vE.map (·.2)=w.aS
 g:SL h 0 9 1 D.p D.l D.c (w.aJ.map KB)
def DE.af {h':Hp} {w:bS} (o:DE H I U Z a w) {W:List Nat} (k:Ch W H h') (b:∀ i,i∈W->∃ d,bm H i 30 d):DE h' I U Z a w:=by
 obtain ⟨⟨vT,e,f,j⟩,⟨vD,l,m,n⟩,⟨vE,p,q,r⟩,g⟩:=o;exact ⟨⟨vT,SL.eU e k b bJ,fun x c=>SL.eU (f x c) k b bJ,j⟩,⟨vD,SL.eU l k b bJ,fun x c=>SL.eU (m x c) k b bJ,n⟩,⟨vE,SL.eU p k b bJ,fun x c=>SL.eU (q x c) k b bJ,r⟩,SL.eU g k b bJ⟩
structure P2 (u:bS):Prop where
 t:u.text.length<=2^20
 d:u.data.length<=2^20
 e:u.aS.length<=2^20
 g:u.aJ.length<=2^40
 l:∀ x,x∈bU u->x.ai.length<=2^40/\∀ t,t∈x.ai->t.1.size<=32
 it:∀ x,x∈u.text\/x∈u.data->x.name.size<=32/\Sm x.inst.op
 en:∀ x,x∈u.aS->x.1.size<=32
 gn:∀ s,s∈u.aJ->s.size<=32
variable {b:cv}
def GQ {u:bS} (h:b∈u.text):b.e∈bU u:=by unfold bU; simp only [List.mem_append,List.mem_map]; exact .inl (.inl ⟨b,h,rfl⟩)
def Gm {u:bS} (h:b∈u.data):b.e∈bU u:=by unfold bU; simp only [List.mem_append,List.mem_map]; exact .inl (.inr ⟨b,h,rfl⟩)
def KE {u:bS} {x:jn} (h:x∈u.aS):x.2∈bU u:=by unfold bU; simp only [List.mem_append,List.mem_map]; exact .inr ⟨x,h,rfl⟩
def DE.at {h:Hp} {A B C D:cm} {w:bS} (o:DE h A B C D w) (c:P2 w):jI h A B C D w:=by
 obtain ⟨⟨vT,q,r,k⟩,⟨vD,s,u,m⟩,⟨vE,y,z,p⟩,g⟩:=o;have b:∀ {n:Nat},n<=32->n<=maxLen:=fun h=>Wi h bJ
 have lT:=VO List.length k;have lD:=VO List.length m;have lE:=VO List.length p;rw [Vr] at lT lD lE;have h1:=c.t;have h2:=c.d;have h3:=c.e;have h4:=c.g;refine ⟨?_,?_,?_,?_⟩
 ·rw [<- k];exact Kn q r ad fun x f=>by
   rw [k] at f;have h5:=c.l _ (GQ f);exact ⟨ad,fun t j=>b (h5.2 t j),b (c.it x (.inl f)).1,(c.it x (.inl f)).2⟩
 ·rw [<- m];exact Kn s u ad fun x f=>by
   rw [m] at f;have h5:=c.l _ (Gm f);exact ⟨ad,fun t j=>b (h5.2 t j),b (c.it x (.inr f)).1,(c.it x (.inr f)).2⟩
 ·rw [<- p];exact RO y z ad fun x f=>by
   rw [p] at f;have h5:=c.l _ (KE f);exact ⟨ad,fun t j=>b (h5.2 t j),b (c.en x f)⟩
 ·refine ⟨by have:=g.1; rwa [Vr] at this,ad,fun i hi=>?_⟩;obtain ⟨a,E,hc⟩:=SL.cells g (i:=i) (by rw [Vr]; exact hi);rw [VD] at hc;exact ⟨a,E,hc,b (c.gn _ (VA hi))⟩
variable {V:bS}
def G2 (r:lH V) {s:XA} (a:s.size<=32):(eM V s).size<=32:=by
 rcases nX V s with h | ⟨h,h2,_⟩
 ·rw [h]; exact a
 ·rw [h];have h3:=(r.nm s h2).1;have b:(qN s).data.toList.length=s.data.toList.length+2:=by rw [uj]; rfl
  have c:(qN s).size=(qN s).data.toList.length:=ah
  rw [c,b];omega
def P2.JY (r:lH V) (b:P2 V):P2 (cq V):=by
 refine ⟨by have:=b.t; unfold cq; simpa using this,by have:=b.d; unfold cq; simpa using this,by have:=b.e; unfold cq; simpa using this,b.g,fun y a=>?_,fun y a=>?_,fun y a=>?_,b.gn⟩
 ·rw [rB] at a;obtain ⟨x,c,rfl⟩:=Vy.1 a
  have:=b.l x c
  refine ⟨by rw [Dw]; exact this.1,fun t f=>?_⟩;obtain ⟨z,h,rfl⟩:=qS.1 (show t∈fV (eM V) x.ai from f);exact G2 r (this.2 z h)
 ·rcases a with a | a
  ·obtain ⟨x,c,rfl⟩:=Vy.1 (show y∈V.text.map (dx V) from a);exact ⟨G2 r (b.it x (.inl c)).1,(b.it x (.inl c)).2⟩
  ·obtain ⟨x,c,rfl⟩:=Vy.1 (show y∈V.data.map (dx V) from a);exact ⟨G2 r (b.it x (.inr c)).1,(b.it x (.inr c)).2⟩
 ·obtain ⟨x,c,rfl⟩:=Vy.1 (show y∈V.aS.map (iJ V) from a);exact G2 r (b.en x c)
structure UQ (h h':Hp) (b ga gb gc:Nat) (sa sb sc sd A B C D:cm) (j:Nat) (u:bS) (wE:List (cm × jn)):Prop where
 e:Ext h h'
 sz:gc<h'.size
 b2:bm h' h.size 30 [sa.v,sb.v,sc.v,sd.v]
 b3:bm h' ga 30 [nZ.v,nZ.v,nZ.v,nZ.v]
 D3:bm h' gb 30 [A.v,B.v,C.v,D.v]
 SR:bm h' gc 26 [A.v,B.v]
 t:∃ vT:List (cm × cv),SL h' b 64 10 A.p A.l A.c (vT.map fQ)/\(∀ x,x∈vT->SL h' b 66 2 x.1.p x.1.l x.1.c (x.2.e.ai.map cg))/\vT.map (·.2)=if 1<=j then u.text.map (dx u) else u.text
 d:∃ vD:List (cm × cv),SL h' b 64 10 B.p B.l B.c (vD.map fQ)/\(∀ x,x∈vD->SL h' b 66 2 x.1.p x.1.l x.1.c (x.2.e.ai.map cg))/\vD.map (·.2)=if 2<=j then u.data.map (dx u) else u.data
 q:SL h' b 88 3 C.p C.l C.c (wE.map HR)
 qo:∀ x,x∈wE->SL h' b 66 2 x.1.p x.1.l x.1.c (x.2.2.ai.map cg)
 g:SL h' b 9 1 D.p D.l D.c (u.aJ.map KB)
variable {Y:TypeId}
def mD {W:List Nat} {h':Hp} {g:Nat} {e0:TypeId} {ys:List XB} (b:bm H g Y ys) (k:Ch W H h') (c:∀ i,i∈W->∃ ys,bm H i e0 ys) (a:Y≠e0):bm h' g Y ys:=b.af k fun d=>by
 obtain ⟨zs,f⟩:=c g d;exact a (fC b f)
def Co {sa sb sc sd:cm} (v:jI H sa sb sc sd V) (r:lH V) (q:P2 V) {cA:Nat} (vA:A5 H pA lA (cd V)) :
  HC YC 13 #[rU sa sb sc sd,.slice pA lA cA] H fun w h'=>Ext H h'/\∃ A B C D,w=rU A B C D/\DE h' A B C D (cq V):=by
 refine aZ (args:=[rU sa sb sc sd,.slice pA lA cA]) mixed Tryz.func13 aw (kL sa.p sa.l sa.c sb.p sb.l sb.c sc.p sc.l sc.c sd.p sd.l sd.c pA lA cA) ?_;unfold gM aT bo bC ay nU bq aR ar aM aK;refine br ?_;intro h1 b2 e1 z1;have b2:bm h1 H.size 30 [sa.v,sb.v,sc.v,sd.v]:=b2;refine br ?_;intro h2 b3 e2 z2;have b3:bm h2 h1.size 30 [nZ.v,nZ.v,nZ.v,nZ.v]:=b3;have e02:=e1.trans e2;have b2:=b2.af e2 ah;refine av b2 ((sa.p,sa.l,sa.c),(sb.p,sb.l,sb.c),(sc.p,sc.l,sc.c),(sd.p,sd.l,sd.c),()) (ak ?_);have v2:=v.af e02;have hlt:=fun x (b:x∈V.text)=>(q.l _ (GQ b))
 have hld:=fun x (b:x∈V.data)=>(q.l _ (Gm b))
 have hle:=fun x (b:x∈V.aS)=>(q.l _ (KE b))
 refine aH (CL v2 q.t q.d q.e q.g (fun x b=>(hlt x b).1) (fun x b=>(hld x b).1) (fun x b=>(hle x b).1)) ?_;rintro _ h3 ⟨⟨A,B,C,D,wT,wD,wE,rfl,lT,lD,lE,lS,eT,eD,eE,ap⟩,e3⟩;refine ⟨((A.p,A.l,A.c),(B.p,B.l,B.c),(C.p,C.l,C.c),(D.p,D.l,D.c),()),rfl,ak ?_⟩;refine br ?_;intro h4 D3 e4 z4;refine bT D3 ?_;intro h5 D3 k5 z5;have D3:bm h5 h3.size 30 [A.v,B.v,C.v,D.v]:=D3;have Y:Ext h3 h5:=bZ e4 k5;refine av D3 ((A.p,A.l,A.c),()) (ak ?_);refine aC ((B.p,B.l,B.c),()) (by rw [ax]; exact D3.cells _ rfl) ?_;refine ak ?_;refine sW Ih TX ad ad (H6 A.p A.l A.c B.p B.l B.c) ?_;intro h6 SR e6 z6;have SR:bm h6 h5.size 26 [A.v,B.v]:=SR;have e36:=Y.trans e6;have e26:=e3.trans e36;have e06:=e02.trans e26;have q2:=e02.size;have q3:=e3.size;have q5:=Y.size;have i0:UQ H h6 h2.size h1.size h3.size h5.size sa sb sc sd A B C D 0 V wE :=
  ⟨e06,ad,b2.af e26 ah,b3.af e26 ah,D3.af e6 ah,SR,⟨wT,Sx.SL.bH lT.sl e36 ah,fun x b=>Sx.SL.bH (lT.own x b) e36 ah,by rw [Vu ad]; exact eT⟩,⟨wD,Sx.SL.bH lD.sl e36 ah,fun x b=>Sx.SL.bH (lD.own x b) e36 ah,by rw [Vu ad]; exact eD⟩,Sx.SL.bH lE.sl e36 ah,fun x b=>Sx.SL.bH (lE.own x b) e36 ah,Sx.SL.bH lS e36 ah⟩
 have N:H.size<=h2.size:=e02.size;have z:∀ {n:Nat},n<=32->n<=2^40:=fun H=>ad
 have vG:A5 H sd.p sd.l V.aJ:=A5.U5 v.aJ;generalize hga:h1.size=ga at *;generalize hgb:h3.size=gb at *;generalize hgc:h5.size=gc at *;refine aY (cs:=cU) (fun y m h'=>∃ j:Nat,y.1=(j:Int)/\m=2-j/\j<=2/\UQ H h' h2.size ga gb gc sa sb sc sd A B C D j V wE) ((0:Int),()) 2 rfl ⟨0,rfl,rfl,ad,i0⟩ ?_;rintro ⟨n38,⟨⟩⟩ m h7 ⟨j,hj,rfl,hj2,st⟩;simp only at hj;subst hj;refine ak ?_;have O:h2.size<=h7.size:=by have:=st.sz; omega
 refine aQ ?_ ?_<;>intro g
 ·have hjlt:j<2:=ad
  obtain ⟨s,hs⟩:∃ s:cm,([A.v,B.v]:List XB).drop j=s.v::([A.v,B.v]:List XB).drop (j+1)/\(j=0/\A=s\/j=1/\B=s):=by
   have:j=0\/j=1:=ad
   rcases this with rfl | rfl
   ·exact ⟨A,rfl,.inl ⟨rfl,rfl⟩⟩
   ·exact ⟨B,rfl,.inr ⟨rfl,rfl⟩⟩
  obtain ⟨P,Q⟩:=hs;refine cC rfl ?_;rw [cX j,ax];refine bj st.SR ((s.p,s.l,s.c),()) (by rw [show 0+j*1=j from ad,P]; rfl) ?_;refine ak ?_;have hw:=lC j;have hst:=st;obtain ⟨R,ssz,E,I,o,G,⟨vT,U,t2,K⟩,⟨vD,W,d2,L⟩,X,M,sg⟩:=st;rcases Q with ⟨rfl,rfl⟩ | ⟨rfl,rfl⟩
  ·rw [Vu ad] at K;have Z:vT.length=V.text.length:=by have:=VO List.length K; rwa [Vr] at this
   refine J8 (k:=T.again 0 [vI (IntKind.wrap .i64 (((0:Nat):Int)+(1:Int)))]) (u:=V) R N O U t2 (by have:=q.t; omega) (fun w hw=>?_) E vA vG ?_
   ·have F:w.2∈V.text:=by rw [<- K]; exact VM hw
    have h1:=hlt _ F;exact ⟨⟨h1.1,fun t ht=>z (h1.2 t ht)⟩,z (q.it _ (.inl F)).1⟩
   ·intro J h8 vs s8 o8 e8 a;have f:∀ i,i∈aG A.p->∃ ys,bm h7 i 64 ys:=SL.fO U
    have hgeA:=fun i hi=>U.cu (i:=i) hi
    have dK:SL h8 h2.size 64 10 B.p B.l B.c (vD.map fQ):=Sx.SL.bH W a fun i hi F=>ap i F hi
    rw [hw];refine aD (cs:=cU) (((0+1:Nat):Int),()) (2-(0+1)) rfl ad rfl ⟨0+1,rfl,rfl,ad,⟨Ch.trans R a (fun i hi hl=>by have:=(hgeA i hi).1; omega),by have:=a.size; omega,mD E a f bJ,mD I a f bJ,mD o a f bJ,mD G a f bJ,⟨vs,s8,o8,?_⟩,⟨vD,dK,fun x b=>SL.eU (d2 x b) a f bJ,by rw [Vu ad] at L ⊢; exact L⟩,SL.eU X a f bJ,fun x b=>SL.eU (M x b) a f bJ,SL.eU sg a f bJ⟩⟩;rw [VE ad,e8,<- K,VN] <;> rfl
  ·rw [Vu ad] at L;have Z:vD.length=V.data.length:=by have:=VO List.length L; rwa [Vr] at this
   refine J8 (k:=T.again 0 [vI (IntKind.wrap .i64 (((1:Nat):Int)+(1:Int)))]) (u:=V) R N O W d2 (by have:=q.d; omega) (fun w hw=>?_) E vA vG ?_
   ·have F:w.2∈V.data:=by rw [<- L]; exact VM hw
    have h1:=hld _ F;exact ⟨⟨h1.1,fun t ht=>z (h1.2 t ht)⟩,z (q.it _ (.inr F)).1⟩
   ·intro J h8 vs s8 o8 e8 a;have f:∀ i,i∈aG B.p->∃ ys,bm h7 i 64 ys:=SL.fO W
    have hgeA:=fun i hi=>W.cu (i:=i) hi
    have tK:SL h8 h2.size 64 10 A.p A.l A.c (vT.map fQ):=Sx.SL.bH U a fun i hi F=>ap i hi F
    rw [hw];refine aD (cs:=cU) (((1+1:Nat):Int),()) (2-(1+1)) rfl ad rfl ⟨1+1,rfl,rfl,ad,⟨Ch.trans R a (fun i hi hl=>by have:=(hgeA i hi).1; omega),by have:=a.size; omega,mD E a f bJ,mD I a f bJ,mD o a f bJ,mD G a f bJ,⟨vT,tK,fun x b=>SL.eU (t2 x b) a f bJ,by rw [VE ad] at K ⊢; exact K⟩,⟨vs,s8,o8,?_⟩,SL.eU X a f bJ,fun x b=>SL.eU (M x b) a f bJ,SL.eU sg a f bJ⟩⟩;rw [VE ad,e8,<- L,VN] <;> rfl
 ·have hje:j=2:=ad
  subst hje;obtain ⟨R,ssz,E,I,o,G,⟨vT,U,t2,K⟩,⟨vD,W,d2,L⟩,X,M,sg⟩:=st;rw [VE ad] at K L;have Z:wE.length=V.aS.length:=by have:=VO List.length eE; rwa [Vr] at this
  refine RS (u:=V) R N O X M (by have:=q.e; omega) (fun w hw=>?_) E o vA vG ?_
  ·have F:w.2∈V.aS:=by rw [<- eE]; exact VM hw
   have h1:=hle _ F;exact ⟨⟨h1.1,fun t ht=>z (h1.2 t ht)⟩,z (q.en _ F)⟩
  ·intro J h8 vs s8 o8 e8 a;have f:∀ i,i∈aG C.p->∃ ys,bm h7 i 88 ys:=SL.fO X
   have hgeA:=fun i hi=>X.cu (i:=i) hi
   have e08:Ext H h8:=Ch.trans R a (fun i hi hl=>by have:=(hgeA i hi).1; omega);have b288:=mD o a f bJ;have b38:=mD I a f bJ;refine av b288 ((A.p,A.l,A.c),(B.p,B.l,B.c),(C.p,C.l,C.c),(D.p,D.l,D.c),()) (ak ?_);refine bT b38 ?_;intro h9 S k9 z9;have S:bm h9 ga 30 [A.v,B.v,C.v,D.v]:=S;refine av S ((A.p,A.l,A.c),(B.p,B.l,B.c),(C.p,C.l,C.c),(D.p,D.l,D.c),()) ?_;have hW9:∀ i,i∈[ga]->∃ ys,bm h8 i 30 ys:=fun i hi=>by rw [VH.1 hi]; exact ⟨_,b38⟩
   have o8':DE h8 A B C D (cq V):=by
    refine ⟨⟨vT,(SL.eU U a f bJ).mono (WG _),fun x b=>(SL.eU (t2 x b) a f bJ).mono (WG _),K⟩,⟨vD,(SL.eU W a f bJ).mono (WG _),fun x b=>(SL.eU (d2 x b) a f bJ).mono (WG _),L⟩,⟨vs,s8.mono (WG _),fun x b=>(o8 x b).mono (WG _),?_⟩,(SL.eU sg a f bJ).mono (WG _)⟩;rw [e8];show wE.map (fun w=>iJ V w.2)=V.aS.map (iJ V);rw [<- eE,VN] <;> rfl
   exact ⟨bZ e08 k9,A,B,C,D,rfl,o8'.af k9 hW9⟩
theorem gg {h:Hp} {a:YA}:∀ (n:Nat) (b:List XB) (i:Nat),aE h a i b->aE h a (i+n) (b.drop n)
 | 0,b,i,hc=>hc
 | n+1,[],i,hc=>trivial
 | n+1,v::b,i,hc=>by
  have:=gg n b (i+1) hc.2
  rw [show i+1+n=i+(n+1) from ad] at this;exact this
theorem iA {h:Hp} {a:YA}:∀ (b:List XB) (o i:Nat),aE h a (o+i) b->aE h (a.add o) i b
 | [],_,_,_=>trivial
 | v::b,o,i,h1=>⟨by have:=h1.1; rw [add_add]; exact this,iA b o (i+1) h1.2⟩
theorem eA {h:Hp} {a:YA}:∀ (n:Nat) (b:List XB) (i:Nat),aE h a i b->aE h a i (b.take n)
 | 0,b,i,hc=>trivial
 | n+1,[],i,hc=>trivial
 | n+1,v::b,i,hc=>⟨hc.1,eA n b (i+1) hc.2⟩
def _root_.Go.Sx.qc.qI {h':Hp} {b b2:Nat} {p q:XC} {l c m d sz:Nat} {ms:List ei} {xs:List (List XB)} (o:qc H b p l c ms) (t:SL H b2 Y sz q m d xs) (k:Ch (aG q) H h') (h1:Y≠88) (h2:Y≠66):qc h' b p l c ms :=
 ⟨o.out.bH k (fun i hi a=>uy t o.out h1 i a hi),fun m a=>(o.j4 m a).bH k (fun i hi f=>uy t (o.j4 m a) h2 i f hi),o.ap,o.dj⟩
def pZ (of:XA->Option cL) (x:cv):cv:={ x with e:=fg of x.e }
def Qr (c:XC) (b:Nat) (d:XC) (e f r:Nat) (k:T):T :=
 T.loop [aK] [vI (0:Int)] <| fun (a:Int) =>
     bC a b
     (T.need (eH a b) <|
     T.bd c <| fun (g:YA) =>
     T.ae ((g.add (ay a 10)).add 7) [.slice 66,.int .u32] <| fun (h:XC) (i j:Nat) (l:Int) =>
     bq 50 [.agg #[.slice h i j,ar l],.slice d e f] false [(true,[.slice 66,.int .u32])] <| fun (m:XC) (n o:Nat) (p:Int) =>
     T.need (eH a b) <|
     T.bd c <| fun (q:YA) =>
     T.ao ((q.add (ay a 10)).add 7) [.slice m n o,ar p] <|
     T.again r [vI (bf (a+(1:Int)))])
     k
structure JH (h:Hp) (b:Nat) (p:XC) (l c:Nat) (ms:List ei):Prop where
 own:qc h b p l c ms
 ok:EqsOk ms
 het:∀ e,e∈ms->e.x.ai.length<=2^20
 Sp:(ms.flatMap (·.x.ai)).length<=2^39
 len:ms.length<=2^20
def JH.ext {h':Hp} {b:Nat} {p:XC} {l c:Nat} {ms:List ei} (s:JH H b p l c ms) (k:Ext H h'):JH h' b p l c ms:=⟨s.own.af k ah,s.ok,s.het,s.Sp,s.len⟩
def JH.qI {h h':Hp} {b b2:Nat} {p q:XC} {l c m d sz:Nat} {e:TypeId} {ms:List ei} {xs:List (List XB)} (o:JH h b p l c ms) (t:SL h b2 e sz q m d xs) (k:Ch (aG q) h h') (h1:e≠88) (h2:e≠66):JH h' b p l c ms :=
 ⟨o.own.qI t k h1 h2,o.ok,o.het,o.Sp,o.len⟩
def Hb (ws:List (cm × cv)):Prop:=∀ u,u∈ws->u.2.e.ai.length<=2^20/\u.2.e.num<4294967296/\∀ t,t∈u.2.e.ai->t.1.size<=maxLen
def Px {L:Lp} {K:XB->Hp->Prop} {h:Hp} {b N b2:Nat} {S:Nat->km} {w:XC} {x n W:Nat} {k:T} {ms:List ei} (Q:W=L.length) (s:kw h b N S) {j:Nat} (C:j<N) (t:JH h b2 w x n ms) (ok:Hb (S j).ws) (X:(S j).ws.length<=2^20)
  (hk:∀ h' f J,kw h' b N f->(∀ i,i≠j->f i=S i)->(f j).s=(S j).s->(f j).ws.map (·.2)=(S j).ws.map (fun u=>pZ (dW ms) u.2)->Ch (aG (S j).s.p) h h'->JH h' b2 w x n ms->k (L++[J]) K h') :
  Qr (S j).s.p (S j).s.l w x n W k L K h:=by
 subst Q;unfold Qr bC ay bq bf eH ar aK;have R:(S j).s.l=(S j).ws.length:=by have:=(s.sec j C).out.1; rwa [Vr] at this
 generalize D:(S j).ws=ws at *;generalize hl:(S j).s.l=l at *;subst R;refine aY (cs:=cU) (fun y Y h'=>∃ (i:Nat) (f:Nat->km),y.1=(i:Int)/\i<=ws.length/\Y=ws.length-i/\kw h' b N f/\(∀ i,i≠j->f i=S i)/\(f j).s=(S j).s/\(f j).ws.length=ws.length/\(∀ m,(B:m<ws.length)->(E:m<(f j).ws.length)->if m<i then (f j).ws[m].2=pZ (dW ms) ws[m].2 else (f j).ws[m]=ws[m])/\Ch (aG (S j).s.p) h h'/\JH h' b2 w x n ms) ((0:Int),()) ws.length rfl
  ⟨0,S,rfl,ad,ad,s,fun _ _=>rfl,rfl,by rw [D],fun m B E=>by rw [Vu ad]; simp only [D],Ch.refl _ _,t⟩ ?_
 clear s t;rintro ⟨n58,⟨⟩⟩ Y h1 ⟨i,f,hi,hil,rfl,s,Z,A,sl,U,k1,t⟩;simp only at hi;subst hi;refine ak ?_;refine aQ ?_ ?_<;>intro q
 ·have F:i<ws.length:=ad
  have g:i<(f j).ws.length:=ad
  have sj:=s.sec j C;have hwi:=U i F g;rw [Vu ad] at hwi;have okw:=ok ws[i] (VA F);have hin:=sj.j4 _ (VA g);obtain ⟨a,G,hc⟩:=sj.out.cells (i:=i) (by simpa using g);rw [VD,hwi] at hc;rw [hwi] at hin;rw [A] at G;generalize hu:ws[i]=u at okw hin hc;refine cC G ?_;rw [cX i];refine aC ((u.1.p,u.1.l,u.1.c),(u.2.e.num:Int),()) (eA 2 [_,_,_] 0 (iA _ 7 0 (gg 7 _ 0 hc))) (ak ?_);refine aH (KZ (c:=u.1.c) (d:=n) (vZ hin) (BN t.own) t.ok t.het t.Sp t.len okw.1 okw.2.2) ?_;rintro _ h2 ⟨⟨p',l',c',rfl,s2⟩,V⟩;rw [xC (jq _ _) (qy okw.2.1)] at s2 ⊢;refine ⟨((p',l',c'),((fg (dW ms) u.2.e).num:Int),()),rfl,ak ?_⟩;refine cC G ?_;have s':=s.ext V;have sj':=s'.sec j C;have so2:=sj'.out;refine SL.part (P:=YC) so2 (i:=i) (by rw [Vr]; exact g) (o:=7) ah (by simp [cO]) (by rw [A]; exact G) ?_;intro h3 s3 O z3;have H:((f j).ws.map fQ).set i (gW (((f j).ws.map fQ)[i]'(by rw [Vr]; exact g)) 7 [.slice p' l' c',.int .u32 ((fg (dW ms) u.2.e).num:Int)])=((f j).ws.set i (⟨p',l',c'⟩,pZ (dW ms) u.2)).map fQ:=by
   rw [WR,VD,hwi,hu] <;> rfl
  rw [H] at s3;have sp:=s'.put C g (q:=(⟨p',l',c'⟩,pZ (dW ms) u.2)) (s2.mono (by have:=s.sec j C; exact show b<=h1.size from (by have:=(sj.out.cu (i:=a.block) (by rw [A,G]; simp [aG])); omega))) s3 O;have hw:=lC i;rw [hw];rw [A] at O;refine aD (cs:=cU) (((i+1:Nat):Int),()) (ws.length-(i+1)) (by rw [V8 (VL _),W1]; rfl) ad rfl ?_;refine ⟨i+1,_,rfl,ad,rfl,sp,fun m B=>?_,?_,?_,fun m B E=>?_,(k1.trans (V.mono ah) (fun i hi _=>hi)).trans O (fun i hi _=>hi),(t.ext V).qI so2 (by rw [A]; exact O) bJ bJ⟩
  ·unfold kg;rw [Vu B];exact Z m B
  ·unfold kg;rw [VE rfl];exact A
  ·unfold kg;rw [VE rfl,WJ];exact sl
  ·have e1:(kg f j ⟨(f j).s,(f j).ws.set i (⟨p',l',c'⟩,pZ (dW ms) u.2)⟩ j).ws=(f j).ws.set i (⟨p',l',c'⟩,pZ (dW ms) u.2):=by
    unfold kg;rw [VE rfl]
   simp only [e1]
   by_cases I:m=i
   ·subst I;rw [VE ad,List.getElem_set_self,hu]
   ·have r:m<(f j).ws.length:=ad
    have:=U m B r
    rw [List.getElem_set_ne (Ne.symm I)]
    by_cases z:m<i
    ·rw [VE z] at this;rw [VE ad];exact this
    ·rw [Vu z] at this;rw [Vu ad];exact this
 ·have hi:i=ws.length:=ad
  subst hi;refine hk h1 f _ s Z A ?_ k1 t;refine List.ext_getElem (by rw [Vr,Vr]; exact sl) fun m M r=>?_
  rw [Vr] at M r
  have:=U m r M
  rw [VE r] at this;rw [VD,VD];exact this
structure pH (h:Hp) (B:Nat) (w:LW) (usl lb:cm) (sp:Int) (N M:Nat) (S:Nat->km):Prop where
 box:Nx h (B+3) usl lb B (B+1) (B+2) sp
 maps:LM h B (B+1) (B+2) w
 vN:SL h (B+4) 76 4 lb.p lb.l lb.c (w.lb.map CM)
 un:SL h (B+4) 30 4 usl.p usl.l usl.c (lQ S N)
 wP:kw h (B+4) M S
section
variable {h h':Hp} {B N M:Nat} {w:LW} {usl lb:cm} {sp:Int} {S:Nat->km}
def pH.ig {ws:List Nat} (s:pH h B w usl lb sp N M S) (k:Ch ws h h') (b:∀ i,i∈ws->i<B):pH h' B w usl lb sp N M S :=
 ⟨s.box.af k (fun a=>by have:=b _ a; omega),s.maps.af k (fun a=>by have:=b _ a; omega) (fun a=>by have:=b _ a; omega) (fun a=>by have:=b _ a; omega),
  s.vN.bH k (fun i hi a=>by have:=(s.vN.cu hi).1; have:=b _ a; omega),s.un.bH k (fun i hi a=>by have:=(s.un.cu hi).1; have:=b _ a; omega),s.wP.ig k (fun i hi=>by have:=b _ hi; omega)⟩
def pH.ext (s:pH h B w usl lb sp N M S) (k:Ext h h'):pH h' B w usl lb sp N M S:=s.ig k ah
def pH.lt (s:pH h B w usl lb sp N M S):B+4<=h.size:=by have:=s.box.lt; omega
def pH.qI {b2 sz:Nat} {e:TypeId} {q:XC} {m d:Nat} {xs:List (List XB)} (s:pH h B w usl lb sp N M S) (t:SL h b2 e sz q m d xs) (k:Ch (aG q) h h') (g:B+4<=b2) (h1:e≠76) (h2:e≠30) (c:e≠64) (f:e≠66):pH h' B w usl lb sp N M S:=by
 have b:∀ i,i∈aG q->B+4<=i:=fun i hi=>by have:=(t.cu hi).1; omega
 exact ⟨s.box.af k (fun a=>by have:=b _ a; omega),s.maps.af k (fun a=>by have:=b _ a; omega) (fun a=>by have:=b _ a; omega) (fun a=>by have:=b _ a; omega),
  s.vN.bH k (fun i hi a=>uy t s.vN h1 i a hi),s.un.bH k (fun i hi a=>uy t s.un h2 i a hi),s.wP.qI t k c f⟩
def pH.Ui {S':Nat->km} {j:Nat} (s:pH h B w usl lb sp N M S) (d:j<M) (e:kw h' (B+4) M S') (c:∀ i,(S' i).s=(S i).s) (k:Ch (aG (S j).s.p) h h'):pH h' B w usl lb sp N M S':=by
 have t:=(s.wP.sec j d).out;have b:∀ i,i∈aG (S j).s.p->B+4<=i:=fun i hi=>(t.cu hi).1
 have f:lQ S' N=lQ S N:=by
  unfold lQ;apply V4;intro i _;unfold xt;rw [c,c]
 exact ⟨s.box.af k (fun a=>by have:=b _ a; omega),s.maps.af k (fun a=>by have:=b _ a; omega) (fun a=>by have:=b _ a; omega) (fun a=>by have:=b _ a; omega),
  s.vN.bH k (fun i hi a=>uy t s.vN bJ i a hi),by rw [f]; exact s.un.bH k (fun i hi a=>uy t s.un bJ i a hi),e⟩
end
def BK (of:XA->Option cL) (S a:Nat->km) (m:Nat):Prop:=∀ k,(a k).s=(S k).s/\if k<m then (a k).ws.map (·.2)=(S k).ws.map (fun u=>pZ of u.2) else a k=S k
def BK.step {of:XA->Option cL} {S c e:Nat->km} {m:Nat} (d:BK of S c m) (h1:∀ i,i≠m->e i=c i) (h2:(e m).s=(c m).s) (g:(e m).ws.map (·.2)=(c m).ws.map (fun u=>pZ of u.2)):BK of S e (m+1):=by
 intro k;obtain ⟨f,a⟩:=d k
 by_cases hk:k=m
 ·subst hk;rw [Vu ad] at a;rw [VE ad];exact ⟨h2.trans f,by rw [g,a]⟩
 ·rw [h1 k hk];refine ⟨f,?_⟩
  by_cases b:k<m
  ·rw [VE b] at a;rw [VE ad];exact a
  ·rw [Vu b] at a;rw [Vu ad];exact a
def Q5 (J K:YA) (f:XC) (g h:Nat):T :=
    (T.ae K [.slice 30] <| fun (i:XC) (d L:Nat) =>
    T.loop [aK] [vI (0:Int)] <| fun (a:Int) =>
    bC a d
    (T.need (eH a d) <|
    T.bd i <| fun (j:YA) =>
    T.ae (j.add (ay a 4)) [.slice 64,.slice 64,.slice 88,.slice 9] <| fun (k:XC) (l m:Nat) (n:XC) (o p:Nat) (q:XC) (r s:Nat) (t:XC) (u w:Nat) =>
    T.new [aM,aM,aM,aM] 30 <| fun (c:YA) =>
    T.ao c [.slice k l m,.slice n o p,.slice q r s,.slice t u w] <|
    T.ae c [.slice 64] <| fun (x:XC) (y z:Nat) =>
    T.ae (c.add 1) [.slice 64] <| fun (A:XC) (B C:Nat) =>
    bR (Instr.buildSlice 68 2 #[(0,.slice x y z),(1,.slice A B C)]) false [eb] <| fun (D:XC) (e M:Nat) =>
    T.loop [aK] [vI (0:Int)] <| fun (b:Int) =>
    bC b e
     (T.need (eH b e) <|
     T.bd D <| fun (E:YA) =>
     T.ae (E.add (ay b 1)) [.slice 64] <| fun (F:XC) (G N:Nat) =>
     Qr F G f g h 4 (T.again 3 [vI (bf (b+(1:Int)))]))
     (T.again 2 [vI (bf (a+(1:Int)))]))
    (T.ao J [vI (0:Int),vI (0:Int),ct] <|
    T.ae J [.int .i64,.int .i64,.string] <| fun (H I:Int) (Sl:XA) =>
    bI #[.pointer (some K),.agg #[vI H,vI I,.string Sl]]))
variable {c:LW}
def OJ {J0 J1:List XB->Hp->Prop} {h0 h:Hp} {A B N b2:Nat} {usl lb:cm} {sp:Int} {S:Nat->km} {f:XC} {g m:Nat} {ms:List ei}
  (hA:h0.size<=A) (hAB:A<B) (e0:Ext h0 h) (t:bm h A 37 [vI 0,vI 0,.string ⟨#[]⟩]) (s:pH h B c usl lb sp N (2*N) S) (u:JH h b2 f g m ms) (hN:N<=2^20)
  (ok:∀ j,j<2*N->Hb (S j).ws/\(S j).ws.length<=2^20)
  (hk:∀ h' x,Ext h0 h'->pH h' B c usl lb sp N (2*N) x->BK (dW ms) S x (2*N)->O (.tuple #[ptr (B+3),.agg #[vI 0,vI 0,.string ⟨#[]⟩]]) h') :
  Q5 ⟨A,0,none⟩ ⟨B+3,0,none⟩ f g m [J0,J1] O h:=by
 unfold Q5 bC ay bR bf eH bI aM ct aK eb;refine av s.box ((usl.p,usl.l,usl.c),()) (ak ?_);have V:usl.l=N:=by have:=s.un.1; rwa [ko] at this
 rw [V];refine aY (cs:=cU) (fun y H h'=>∃ (n:Nat) (x:Nat->km),y.1=(n:Int)/\n<=N/\H=N-n/\Ext h0 h'/\bm h' A 37 [vI 0,vI 0,.string ⟨#[]⟩]/\pH h' B c usl lb sp N (2*N) x/\BK (dW ms) S x (2*n)/\JH h' b2 f g m ms) ((0:Int),()) N rfl
  ⟨0,S,rfl,ad,ad,e0,t,s,fun k=>⟨rfl,by rw [Vu ad]⟩,u⟩ ?_
 clear s u t e0;rintro ⟨n29,⟨⟩⟩ H h1 ⟨n,C,hn,hnN,rfl,W,t,s,d,u⟩;simp only at hn;subst hn;refine ak ?_;refine aQ ?_ ?_<;>intro q
 ·have X:n<N:=ad
  obtain ⟨a,ha,hc⟩:=s.un.cells (i:=n) (by rw [ko]; exact X);rw [BA] at hc;refine cC ha ?_;rw [cX n];generalize D:(C (2*n)).s=e;generalize E:(C (2*n+1)).s=b;have hc:aE h1 (a.add (n*4)) 0 [e.v,b.v,nZ.v,nZ.v]:=by rw [<- D,<- E]; exact hc
  refine aC ((e.p,e.l,e.c),(b.p,b.l,b.c),(none,0,0),(none,0,0),()) hc (ak ?_);refine br ?_;intro h2 o e2 z2;refine bT o ?_;intro h3 b3 k3 z3;have b3:bm h3 h1.size 30 [e.v,b.v,nZ.v,nZ.v]:=b3;have I:Ext h1 h3:=bZ e2 k3;refine av b3 ((e.p,e.l,e.c),()) (ak ?_);rw [ax];refine av b3 ((b.p,b.l,b.c),()) (ak ?_);refine sW Ih TX ad ad (H6 e.p e.l e.c b.p b.l b.c) ?_;intro h4 Y e4 z4;have Y:bm h4 h3.size 26 [e.v,b.v]:=Y;have e14:=I.trans e4;have M:∀ k,k<2->([e.v,b.v]:List XB).drop k=(S (2*n+k)).s.v::([e.v,b.v]:List XB).drop (k+1):=by
   intro k hk;have h0:∀ k,(C k).s=(S k).s:=fun k=>(d k).1
   have:k=0\/k=1:=ad
   rcases this with rfl | rfl
   ·rw [<- h0]; show [e.v,b.v]=(C (2*n)).s.v::[b.v]; rw [D]
   ·rw [<- h0]; show [b.v]=(C (2*n+1)).s.v::[]; rw [E]
  have Z:∀ j,j<2*N->h3.size∉aG (S j).s.p:=by
   intro j G R;rw [<- (d j).1] at R
   have:=((s.wP.sec j G).out.cu R).2
   have:=I.size
   omega
  refine aY (cs:=cU) (fun y H h'=>∃ (j:Nat) (x:Nat->km),y.1=(j:Int)/\j<=2/\H=2-j/\Ext h0 h'/\bm h' A 37 [vI 0,vI 0,.string ⟨#[]⟩]/\pH h' B c usl lb sp N (2*N) x/\BK (dW ms) S x (2*n+j)/\JH h' b2 f g m ms/\bm h' h3.size 26 [e.v,b.v]) ((0:Int),()) 2 rfl
   ⟨0,C,rfl,ad,ad,W.trans e14,t.af e14 ah,s.ext e14,d,u.ext e14,Y⟩ ?_
  clear s u t d D E hc ha b3;rintro ⟨n53,⟨⟩⟩ H h5 ⟨j,P,G,Q,rfl,e5,t,s,d,u,b5⟩;simp only at G;subst G;refine ak ?_;refine aQ ?_ ?_<;>intro q
  ·have Q:j<2:=ad
   refine cC rfl ?_;rw [cX j,ax];have hsj:=(d (2*n+j)).1;have F:P (2*n+j)=S (2*n+j):=by
    have:=(d (2*n+j)).2
    rwa [Vu ad] at this
   refine bj b5 (((S (2*n+j)).s.p,(S (2*n+j)).s.l,(S (2*n+j)).s.c),()) (by
    have:=M j Q
    rw [show 0+j*1=j from ad,this];rfl) ?_
   refine ak ?_;rw [<- F];have r:2*n+j<2*N:=ad
   have okj:=ok _ r;rw [<- F] at okj;have key:=fun (L:Lp) (hL:4=L.length)=>@Px L O h5 (B+4) (2*N) b2 P f g m 4 (T.again 3 [vI (IntKind.wrap .i64 ((j:Int)+(1:Int)))]) ms hL s.wP (2*n+j) r u okj.1 okj.2
   refine key _ ?_ ?_
   ·rfl
   clear key;intro h6 S3 J s6 so ss sw U sv6;have hw:=lC j;rw [hw];have hss:∀ i,(S3 i).s=(P i).s:=by
    intro i
    by_cases hi:i=2*n+j
    ·rw [hi]; exact ss
    ·rw [so i hi]
   have z:∀ i,i∈aG (P (2*n+j)).s.p->B+4<=i:=fun i hi=>((s.wP.sec _ r).out.cu hi).1
   have z0:=W.size;refine aD (cs:=cU) (((j+1:Nat):Int),()) (2-(j+1)) rfl ad rfl ?_;refine ⟨j+1,S3,rfl,ad,rfl,Ch.trans e5 U (fun i hi hl=>by have:=z i hi; omega),t.af U (fun R=>by have:=z _ R; omega),s.Ui r s6 hss U,d.step so ss sw,sv6,b5.af U (by rw [F]; exact Z _ r)⟩
  ·have G:j=2:=ad
   subst G;have hw:=lC n;rw [hw];refine aD (cs:=cU) (((n+1:Nat):Int),()) (N-(n+1)) rfl ad rfl ?_;exact ⟨n+1,P,rfl,ad,rfl,e5,t,s,d,u⟩
 ·have hn:n=N:=ad
  subst hn;refine bT t ?_;intro h2 o k2 z2;have o:bm h2 A 37 [vI 0,vI 0,.string ⟨#[]⟩]:=o;refine av o ((0:Int),(0:Int),(⟨#[]⟩:XA),()) ?_;exact hk h2 C (bZ W k2) (s.ig k2 (by simp; omega)) d
def Dz (k:Ky):List XB:=[vI (k.1:Int),.string k.2]
def RC:Tryz.prog.underlying 103=some (.slice 110):=aw
def Vk:(Tryz.prog.info? 110).map (fun i=>(i.zero,i.size,i.bytes))=some (some (.agg #[vI 0,.string ⟨#[]⟩]),2,24):=aw
def QD (n:Int) (s:XA):Instr.fill (fun j=>some (j*2,2)) ((Array.range (1*2)).map ((Value.agg #[vI 0,.string ⟨#[]⟩]).cells[· % (Value.agg #[vI 0,.string ⟨#[]⟩]).cells.size]!)) [(0,.agg #[vI n,.string s])]=some ([vI n,.string s]:List XB).toArray:=aw
def AN {b x:Nat} {a:TypeId} {sz:Nat} {p:XC} {l c:Nat} {xs:List (List XB)} {f:List XB} (s:SL H b Y sz p l c xs) (t:bm H x a f) (g:Y≠a):x∉aG p:=fun i=>by
 obtain ⟨zs,d⟩:=SL.fO s x i;unfold bm at d t;rw [d] at t;simp only [Option.some.injEq,Obj.cells.injEq] at t;exact g t.2.1
def Ds (Ar unit:Nat) (s:XA):XB:=.tuple #[.pointer none,.agg #[vI (Ar:Int),vI (unit:Int),.string s]]
def zM (h h':Hp):Prop:=∀ x e xs,e≠88->e≠110->bm h x e xs->bm h' x e xs
def zM.ext {h' h2:Hp} (k:zM H h') (e:Ext h' h2):zM H h2:=fun x t xs h1 h2 b=>(k x t xs h1 h2 b).af e ah
abbrev MY:List ef:=[(false,[.pointer 0]),(false,[.slice 0]),(false,[.slice 0]),(false,[.int .i64])]
def Ru (a1 a7:YA) (c:Int) (s:XC) (j:Nat) (t u:XC) (w x:Nat) (y:XC) (z A:Nat) (k:XC->XC->Nat->Nat->XC->Nat->Nat->T):T :=
    T.loop [(false,[.pointer 0]),eb,eb,aK] [.pointer t,.slice u w x,.slice y z A,vI (0:Int)] <| fun (l m:XC) (n o:Nat) (p:XC) (q r:Nat) (d:Int) =>
    bC d j
     (T.need (eH d j) <|
     T.bd s <| fun (B:YA) =>
     T.ae (B.add (ay d 3)) [.string,.slice 66,.int .u32] <| fun (C:XA) (D:XC) (E F:Nat) (G:Int) =>
     T.new [ct,aM,ar (0:Int)] 88 <| fun (a:YA) =>
     T.ao a [.string C,.slice D E F,ar G] <|
     T.ae (a.add 1) [.slice 66,.int .u32] <| fun (H:XC) (I J:Nat) (K:Int) =>
     bq 46 [.pointer (some a7),vI c,.agg #[.slice H I J,ar K]] true [(true,[.slice 66,.int .u32]),(false,[.string]),cj] <| fun (L:XC) (M N:Nat) (O:Int) (P:XA) (Q:Bool) =>
     T.new [aM,ar (0:Int)] 60 <| fun (b:YA) =>
     T.ao b [.slice L M N,ar O] <|
     cond (!Q)
     (T.ao a1 [vI (23:Int),vI c,.string P] <|
     T.ae a1 [.int .i64,.int .i64,.string] <| fun (R S:Int) (U:XA) =>
     bI #[.pointer none,.agg #[vI R,vI S,.string U]])
     (T.ae a [.string] <| fun (e:XA) =>
     T.ae b [.slice 66,.int .u32] <| fun (f:XC) (g h:Nat) (i:Int) =>
     bq 47 [.pointer (some a7),.agg #[vI c,.string e]] false [(false,[.string])] <| fun (T5:XA) =>
     T.az [(b,[.slice f g h,ar i]),(a,[.string e])] <|
     bR (Instr.buildSlice 27 1 #[(0,.agg #[.string T5,.slice f g h,ar i])]) false [eb] <| fun (V:XC) (W X:Nat) =>
     T.az [(b,[.slice f g h,ar i]),(a,[.string e])] <|
     bR (Builtin.append_ #[27,27] 27 #[.slice m n o,.slice V W X]) false [eb] <| fun (Y:XC) (Z l92:Nat) =>
     T.az [(b,[.slice f g h,ar i]),(a,[.string e])] <|
     T.ae a [.string] <| fun (s93:XA) =>
     bR (Instr.buildSlice 103 1 #[(0,.agg #[vI c,.string s93])]) false [eb] <| fun (p94:XC) (l95 l96:Nat) =>
     bR (Builtin.append_ #[103,103] 103 #[.slice p q r,.slice p94 l95 l96]) false [eb] <| fun (p97:XC) (l98 l99:Nat) =>
     T.again 2 [.pointer l,.slice Y Z l92,.slice p97 l98 l99,vI (bf (d+(1:Int)))]))
     (k l m n o p q r)
structure BH (h:Hp) (b:Nat) (e k:cm) (D:List (XA × cL)) (ks:List Ky):Prop where
 eq:∃ ms,qc h b e.p e.l e.c ms/\ms.map jM=D
 ky:SL h b 110 2 k.p k.l k.c (ks.map Dz)
variable {d:List (XA × cL)}
def BH.ext {h':Hp} {b:Nat} {ks:List Ky} (s:BH H b I U d ks) (x:Ext H h'):BH h' b I U d ks:=by
 obtain ⟨⟨ms,o,a⟩,y⟩:=s;exact ⟨⟨ms,o.af x ah,a⟩,y.af x ah⟩
def OQ {L:Lp} {h0 h:Hp} {A B N M n:Nat} {usl lb:cm} {sp:Int} {S:Nat->km} {p52:XC} {l53:Nat} {es:List jn} {ks:List Ky}
  {k:XC->XC->Nat->Nat->XC->Nat->Nat->T} {H:XC}
  (hL:2=L.length) (pw:iN h0) (hA:h0.size<=A) (hAB:A<B) (e0:Ext h0 h) (ba:bm h A 37 [vI 0,vI 0,.string ⟨#[]⟩]) (s:pH h B c usl lb sp N M S) (IQ:ND c) (es0:BH h (B+4) I U d ks)
  (v:Ob.Ah h0 p52 l53 es) (ge:∀ e,e∈es->DB e.2) (hl:es.length<=2^20) (hD:d.length<=2^20) (hks:ks.length<=2^20)
  (hbad:∀ h' q,Ext h0 h'->(es.findSome? fun e=>c.bad n e.2)=some q->O (Ds 23 n q) h')
  (hk:∀ h' o r J,Ext h0 h'->bm h' A 37 [vI 0,vI 0,.string ⟨#[]⟩]->pH h' B c usl lb sp N M S->BH h' (B+4) o r (d++es.map fun e=>(c.word (n,e.1),c.di n e.2)) (ks++es.map fun e=>(n,e.1)) ->
   zM h h'->(es.findSome? fun e=>c.bad n e.2)=none->k H o.p o.l o.c r.p r.l r.c (L++[J]) O h') :
  Ru ⟨A,0,none⟩ ⟨B+3,0,none⟩ (n:Int) p52 l53 H I.p I.l I.c U.p U.l U.c k L O h:=by
 unfold Ru bC ay bq bR bf eH ar bI aM ct aK cj eb;have hl53:=v.len
 refine aY (cs:=MY) (fun y m' h'=>∃ (i:Nat) (o r:cm),y.1=H/\y.2.1=(o.p,o.l,o.c)/\y.2.2.1=(r.p,r.l,r.c)/\y.2.2.2.1=(i:Int)/\i<=es.length/\m'=es.length-i/\Ext h0 h'/\bm h' A 37 [vI 0,vI 0,.string ⟨#[]⟩]/\pH h' B c usl lb sp N M S /\
   BH h' (B+4) o r (d++(es.take i).map fun e=>(c.word (n,e.1),c.di n e.2)) (ks++(es.take i).map fun e=>(n,e.1))/\zM h h'/\∀ j,(g:j<i)->(Y:j<es.length)->c.bad n es[j].2=none)
  (H,(I.p,I.l,I.c),(U.p,U.l,U.c),(0:Int),()) es.length rfl ⟨0,I,U,rfl,rfl,rfl,rfl,ad,ad,e0,ba,s,by simpa using es0,fun x e xs _ _ b=>b,by intro j g; omega⟩ ?_
 clear e0 ba s es0;rintro ⟨p55,⟨p56,l57,l58⟩,⟨p59,l60,l61⟩,n62,⟨⟩⟩ m' h1 ⟨i,u,P,hy1,hy2,hy3,hy4,hil,rfl,Z,ba,s,es1,ke,hok⟩;simp only [Prod.mk.injEq] at hy1 hy2 hy3 hy4;obtain ⟨rfl,rfl,rfl⟩:=hy2;obtain ⟨rfl,rfl,rfl⟩:=hy3;subst hy1 hy4;refine ak ?_;refine aQ ?_ ?_<;>intro q
 ·have Q:i<es.length:=ad
  obtain ⟨aa,pp,ll,cc,haa,hc0,va0,hsz⟩:=v.cells i Q;have gxi:=ge es[i] (VA Q);have htk:es.take (i+1)=es.take i++[es[i]]:=Vt Q;have hfs:∀ q,c.bad n es[i].2=some q->(es.findSome? fun e=>c.bad n e.2)=some q:=by
   intro q hq;have hsp:es=es.take i++es[i]::es.drop (i+1):=by rw [<- VU Q,We]
   have hnone:((es.take i).findSome? fun e=>c.bad n e.2)=none:=by
    rw [Wz];intro x Y;obtain ⟨j,g,rfl⟩:=VV Y;rw [VQ] at g;rw [List.getElem_take];exact hok j ad ad
   generalize hz:es[i]=z at hsp hq;rw [hsp,Xl,hnone,List.findSome?_cons,hq] <;> rfl
  have hnx:c.bad n es[i].2=none->∀ j,(g:j<i+1)->(Y:j<es.length)->c.bad n es[j].2=none:=by
   intro hn j g Y
   by_cases hji:j=i
   ·subst hji; exact hn
   ·exact hok j ad Y
  generalize es[i]=x at hc0 va0 hsz gxi htk hfs hnx;refine cC haa ?_;rw [cX i];refine aC (x.1,(pp,ll,cc),(x.2.num:Int),()) (bh Z ah _ _ hc0) (ak ?_);refine br ?_;intro h2 b2' e2 z2;refine bT b2' ?_;intro h3 b3 k3 z3;have b3:bm h3 h1.size 88 [.string x.1,.slice pp ll cc,.int .u32 (x.2.num:Int)]:=b3;have E:Ext h1 h3:=bZ e2 k3;have e03:=Z.trans E;have s3:=s.ext E;rw [ax];refine av b3 ((pp,ll,cc),(x.2.num:Int),()) (ak ?_);refine aH (xr (c:=cc) (pw.af e03 ah) s3.box s3.maps IQ n (va0.af e03).vw gxi) ?_;rintro _ h4 ⟨e4,hq⟩;have z1:=Z.size;have l1:=s.lt;have q3:=b3.lt;cases hb:c.bad n x.2 with
  | some t =>
   rw [hb] at hq;subst hq;refine ⟨((none,0,0),(0:Int),t,false,()),rfl,ak ?_⟩;refine br ?_;intro h5 b5' e5 z5;refine bT b5' ?_;intro h6 b6 k6 z6;refine cy rfl ?_;have C:Ext h4 h6:=bZ e5 k6;have e16:=(E.trans e4).trans C;refine bT (ba.af e16 ah) ?_;intro h7 b7 k7 z7;have b7:bm h7 A 37 [vI 23,vI (n:Int),.string t]:=b7;refine av b7 ((23:Int),(n:Int),t,()) ?_;exact hbad h7 t (bZ (Z.trans e16) k7) (hfs t hb)
  | none =>
   rw [hb] at hq;obtain ⟨V,W,X,rfl,s7⟩:=hq;refine ⟨((V,W,X),((c.di n x.2).num:Int),(⟨#[]⟩:XA),true,()),rfl,ak ?_⟩;refine br ?_;intro h5 b5' e5 z5;refine bT b5' ?_;intro h6 b6 k6 z6;have b6:bm h6 h4.size 60 [.slice V W X,.int .u32 ((c.di n x.2).num:Int)]:=b6;have C:Ext h4 h6:=bZ e5 k6;have e16:=(E.trans e4).trans C;refine bX rfl ?_;have b36:=b3.af (e4.trans C) ah;refine av b36 (x.1,()) (ak ?_);refine av b6 ((V,W,X),((c.di n x.2).num:Int),()) (ak ?_);have s6:=s.ext e16;refine aH (A4 (pw.af (Z.trans e16) ah) s6.box s6.maps IQ n x.1) ?_;rintro _ h8 ⟨rfl,e8⟩;refine ⟨(c.word (n,x.1),()),rfl,ak ?_⟩;have e18:=e16.trans e8;have b68:=b6.af e8 ah;have b38:=b36.af e8 ah;have hst:∀ h',Ext h8 h'->T.EK h' [(⟨h4.size,0,none⟩,[.slice V W X,.int .u32 ((c.di n x.2).num:Int)]),(⟨h1.size,0,none⟩,[.string x.1])]:=fun h' e=>⟨(b68.af e ah).cells _ rfl,(b38.af e ah).cells _ rfl,trivial⟩
   refine ⟨hst h8 (Ch.refl _ _),?_⟩;obtain ⟨⟨ms,o1,hms⟩,y1⟩:=es1;have o8:=o1.af e18 ah;have y8:=y1.af e18 ah;have hml:ms.length=d.length+i:=by
    have:=VO List.length hms
    rw [Vr,Vs,Vr,VQ,WD hil] at this;exact this
   have hel:u.l=ms.length:=by have:=o1.out.1; rwa [Vr] at this
   have hkl:P.l=ks.length+i:=by
    have:=y1.1
    rw [Vr,Vs,Vr,VQ,WD hil] at this;exact this
   have z18:=e18.size;have z4:=e4.size;have z46:=C.size;have z8:=e8.size;have z13:=E.size;refine re (vs:=Sd ⟨c.word (n,x.1),V,W,X,c.di n x.2⟩) HH Jc rfl ad ad (Lf _ V W X _) rfl rfl o8.out ad ad ad hst ?_;intro p9 c9 h9 s9 R hp9;have F:∀ j,h1.size<=j->j∉aG u.p:=fun j g hm=>by have:=(o1.out.cu hm).2; omega
   have b69:=b68.af R (F _ ad);have b39:=b38.af R (F _ ad);refine ⟨⟨b69.cells _ rfl,b39.cells _ rfl,trivial⟩,?_⟩;have Uj:SL h8 (B+4) 66 2 V W X ((c.di n x.2).ai.map cg):=(s7.af (C.trans e8) ah).mono ad;have o9:qc h9 (B+4) p9 (u.l+1) c9 (ms++[⟨c.word (n,x.1),V,W,X,c.di n x.2⟩]):=by
    refine o8.push Uj (fun j g=>?_) (by rw [VB]; exact s9) R (fun j g=>?_)
    ·have hj3:=(s7.cu g).1;refine ⟨fun y hy m hm=>?_,F _ ad⟩
     have:=((o1.j4 y hy).cu hm).2
     omega
    ·rcases hp9 with rfl | ⟨a,rfl,ha⟩
     ·exact .inl g
     ·simp [aG] at g;subst g;exact .inr ha
   have y9:=y8.bH R (fun j g hm=>uy o8.out y8 bJ j hm g);have g9:=(s.ext e18).qI o8.out R (VL _) bJ bJ bJ bJ;have ba8:=ba.af e18 ah;have ba9:=ba8.af R (AN o8.out ba8 bJ);have z9:=R.size;have ke8:zM h h8:=ke.ext e18;have ke9:zM h h9:=fun x e xs h1 h2 b=>by
    have b8:=ke8 x e xs h1 h2 b;exact b8.af R (AN o8.out b8 (Ne.symm h1))
   have e09:Ext h0 h9:=Ch.trans (Z.trans e18) R (fun j g hl=>by have:=(o8.out.cu g).1; omega);refine av b39 (x.1,()) (ak ?_);refine lO (vs:=Dz (n,x.1)) RC Vk rfl ad ad (QD _ _) rfl rfl y9 ad ad ad ?_;intro p10 c10 h10 s10 G hp10;have hw:=lC i;rw [hw];refine aD (cs:=MY) (p55,(p9,u.l+1,c9),(p10,P.l+1,c10),((i+1:Nat):Int),()) (es.length-(i+1)) (by rw [V8 ad,<- hL,W1]; rfl) ad rfl ?_;refine ⟨i+1,⟨p9,u.l+1,c9⟩,⟨p10,P.l+1,c10⟩,rfl,rfl,rfl,rfl,ad,rfl,Ch.trans e09 G (fun j g hl=>by have:=(y9.cu g).1; omega),ba9.af G (AN y9 ba9 bJ),
    g9.qI y9 G (VL _) bJ bJ bJ bJ,⟨⟨_,o9.qI y9 G bJ bJ,?_⟩,?_⟩,?_,hnx hb⟩
   ·rw [htk,VB,hms,VB,<- VW] <;> rfl
   ·have he:(ks++(es.take (i+1)).map fun e=>(n,e.1)).map Dz=(ks++(es.take i).map fun e=>(n,e.1)).map Dz++[Dz (n,x.1)]:=by
     rw [htk]
     simp
    rw [he];exact s10
   ·intro x e xs h1 h2 b;have b9:=ke9 x e xs h1 h2 b;exact b9.af G (AN y9 b9 (Ne.symm h2))
 ·have hi:i=es.length:=ad
  subst hi;rw [V0 (VL _)] at es1;refine hk h1 u P _ Z ba s es1 ke ?_;rw [Wz];intro x Y;obtain ⟨j,g,rfl⟩:=VV Y;exact hok j g g
end Go.Sx.Lk
