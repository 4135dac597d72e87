/- Contracts over heaps, part 5. Condition: as each statement says. -/
import Derived.Test.YtmdncdaladplkaaGreatDoorP4
import Derived.Test.YtmdncdaladplkaaGreatDoorBtG
set_option linter.all false
set_option maxRecDepth 100000
set_option maxHeartbeats 4000000
namespace Go.Sx.Lk
open Go.Proofs Go.Sx.Ob
variable {es:List cV} {ga:Nat}
def qC (n sec:Nat):Nat->List cC->List Lb
 | _,[]=>[]
 | i,x::l=>(if x.kind=1 then [⟨n,sec,i,x.name⟩] else [])++qC n sec (i+1) l
def Hv (n:Nat) (u:cv):List Lb:=qC n 0 0 u.text++qC n 1 0 u.data
def cy:Nat->List cv->List Lb
 | _,[]=>[]
 | n,u::us=>Hv n u++cy (n+1) us
def Ao (x:Lb):Ky:=(x.u,x.n)
def jy (q:Nat × sS):Ky:=(q.1,q.2.1)
def nX (l:List Ky) (k:Ky):Option Nat:=l.findIdx? fun x=>decide (x=k)
variable {d:Ky}
def pa {l:List Ky} :nX l d=none↔d∉l:=by
 unfold nX;rw [ca9];constructor
 ·intro h hk
  have:=h d hk
  simp at this
 ·intro h x a;exact ak9 fun e=>h (e▸a)
def jS {l:List Ky} {k:Ky} {i:Nat} (h:nX l k=some i):∃ hi:i<l.length,l[i]=k:=by
 unfold nX at h;rw [bd9] at h;obtain ⟨h1,h2,_⟩:=h;exact ⟨h1,ah9 h2⟩
def Cp {l:List Ky} (h:d∈l):∃ i,nX l d=some i:=by
 cases hk:nX l d with
 | some i=>exact ⟨i,rfl⟩
 | none=>exact absurd h (pa.1 hk)
def DJ {l:List Ky} (hn:d∉l):nX (l++[d])=pT (nX l) d l.length:=by
 funext k
 unfold pT
 by_cases hk:k=d
 ·subst hk;rw [ag9 rfl];have h0:=pa.2 hn;unfold nX at h0 ⊢;rw [ea9,h0]
  simp
 ·rw [ac9 hk];unfold nX;rw [ea9]
  have:decide (d=k)=false:=ak9 fun e=>hk e.symm
  simp [List.findIdx?_cons,this]
structure WI (w:LW) (L:List Lb) (E:List Ky):Prop where
 lb:w.lb=L
 num:w.num=nX (L.map Ao)
 sK:w.sK=nX E
 ne:w.ne=E.length
theorem WI.UI {w:LW} {L:List Lb} {E:List Ky} (i0:WI w L E) {n sec:Nat}:∀ (l:List cC) (i:Nat) {w:LW} {L:List Lb} (i0:WI w L E) (hn:(eK l).Nodup) (a:∀ s,s∈eK l->(n,s)∉L.map Ao),WI (je n sec i l w) (L++qC n sec i l) E
 | [],i,w,L,i0,hn,a=>by simpa [je,qC] using i0
 | x::l,i,w,L,i0,hn,a=>by
  rw [tS] at hn a;rw [je,qC,<- ay9]
  by_cases hk:x.kind=1
  ·simp only [hk,if_true,List.singleton_append,List.nodup_cons,List.mem_cons] at hn a;have hx:=a x.name (.inl rfl);refine WI.UI i0 l (i+1) ?_ hn.2 (fun s b=>?_)
   ·unfold jT;rw [ag9 hk,ag9 hk];refine ⟨by show w.lb++_=_; rw [i0.lb],?_,i0.sK,i0.ne⟩;show pT w.num (n,x.name) w.lb.length=_;rw [ao9,List.map_singleton];show _=nX (L.map Ao++[(n,x.name)]);rw [DJ hx,i0.num,i0.lb,ab9]
   ·rw [ag9 hk,ao9,ar9];rintro (h | h)
    ·exact a s (.inr b) h
    ·have:(n,s)=(n,x.name):=by simpa [Ao] using h
     have:s=x.name:=(dr9 this).2
     exact hn.1 (this▸b)
  ·simp only [hk,if_false,List.nil_append] at hn a;rw [ac9 hk,bz9];refine WI.UI i0 l (i+1) ?_ hn a;unfold jT;rw [ac9 hk];exact i0
theorem WI.eqs {L:List Lb} {n:Nat}:∀ (l:List sS) {w:LW} {E:List Ky} (i0:WI w L E) (hn:(l.map (·.1)).Nodup) (a:∀ s,s∈l.map (·.1)->(n,s)∉E),WI (l.foldl (vP n) w) L (E++l.map fun e=>(n,e.1))
 | [],w,E,i0,hn,a=>by simpa using i0
 | x::l,w,E,i0,hn,a=>by
  simp only [List.map_cons,List.nodup_cons,List.mem_cons] at hn a;have hx:=a x.1 (.inl rfl);rw [bt9,bq9,show E++(n,x.1)::l.map (fun e=>(n,e.1))=(E++[(n,x.1)])++l.map fun e=>(n,e.1) from aj];refine WI.eqs l ?_ hn.2 (fun s b=>?_)
  ·refine ⟨i0.lb,i0.num,?_,?_⟩
   ·show pT w.sK (n,x.1) w.ne=_;rw [DJ hx,i0.sK,i0.ne]
   ·show (if (w.sK (n,x.1)).isSome then w.ne else w.ne+1)=_;rw [i0.sK,pa.2 hx,af9,i0.ne] <;> rfl
  ·rw [ar9];rintro (h | h)
   ·exact a s (.inr b) h
   ·have:(n,s)=(n,x.1):=by simpa using h
    have:s=x.1:=(dr9 this).2
    exact hn.1 (this▸b)
theorem xF (n sec:Nat):∀ (l:List cC) (i:Nat),(qC n sec i l).map Ao=(eK l).map fun s=>(n,s)
 | [],i=>rfl
 | x::l,i=>by
  rw [qC,tS,ao9,ao9,xF n sec l (i+1)]
  by_cases hk:x.kind=1 <;> simp [hk,Ao]
variable {H:LW} {c:cv}
def WI.unt {L:List Lb} {E:List Ky} {n:Nat} (i0:WI H L E) (hn:(fR c).Nodup) (h1:∀ k,k∈L.map Ao->k.1<n) (h2:∀ k,k∈E->k.1<n):WI (He n c H) (L++Hv n c) (E++c.bj.map fun e=>(n,e.1)):=by
 unfold fR at hn;rw [cs9,cs9] at hn;obtain ⟨⟨b,d,f⟩,g,j⟩:=hn;unfold He Hv;rw [<- ay9];refine WI.eqs _ (WI.UI i0 _ _ (WI.UI i0 _ _ i0 b (fun s a h=>by have:=h1 _ h; simp at this)) d (fun s a h=>?_)) g (fun s a h=>by have:=h2 _ h; simp at this);rw [ao9,ar9] at h;rcases h with h | h
 ·have:=h1 _ h; simp at this
 ·rw [xF] at h;obtain ⟨t,ht,i⟩:=an9.1 h
  have:t=s:=(dr9 i).2
  exact f t ht s a this
theorem WI.yw:∀ (us:List cv) (n:Nat) {w:LW} {L:List Lb} {E:List Ky} (i0:WI w L E) (hn:∀ u,u∈us->(fR u).Nodup) (h1:∀ k,k∈L.map Ao->k.1<n) (h2:∀ k,k∈E->k.1<n),WI (nU n us w) (L++cy n us) (E++(eJ n us).map jy)
 | [],n,w,L,E,i0,hn,h1,h2=>by simpa [nU,cy,eJ] using i0
 | u::us,n,w,L,E,i0,hn,h1,h2=>by
  rw [nU,cy,eJ,ao9,<- ay9,<- ay9];have a:(u.bj.map fun e=>(n,e)).map jy=u.bj.map fun e=>(n,e.1):=by rw [bf9]; rfl
  rw [a];refine WI.yw us (n+1) (WI.unt i0 (hn u aj) h1 h2) (fun v hv=>hn v (by simp [hv])) (fun k hk=>?_) (fun k hk=>?_)
  ·rw [ao9,ar9] at hk;rcases hk with hk | hk
   ·have:=h1 _ hk; omega
   ·unfold Hv at hk;rw [ao9,xF,xF,<- ao9] at hk;obtain ⟨s,_,rfl⟩:=an9.1 hk;show n<n+1;omega
  ·rcases ar9.1 hk with hk | hk
   ·have:=h2 _ hk; omega
   ·obtain ⟨s,_,rfl⟩:=an9.1 hk;show n<n+1;omega
def xW (h:fz c=0):(fR c).Nodup:=by
 have h1:=(A9 h).2;rw [yA] at h1;unfold yy at h1;simp only [Bool.and_eq_true,decide_eq_true_eq] at h1;exact h1.2.2.2.1
def UY {us:List cv} (a:∀ u,u∈us->fz u=0):WI (nU 0 us UR) (cy 0 us) ((eJ 0 us).map jy):=by
 have:=WI.yw us 0 (w:=UR) (L:=[]) (E:=[]) ⟨rfl,rfl,rfl,rfl⟩ (fun u b=>xW (a u b)) aj aj
 simpa using this
def OU {n:Nat} {u:cv} {w:LW}:(Hb n u w).lb=w.lb/\(Hb n u w).num=w.num/\(Hb n u w).sK=w.sK/\(Hb n u w).ne=w.ne:=by
 have h:=QP n u.aU w;exact ⟨h.1,h.2.1,h.2.2.2.1,h.2.2.2.2⟩
theorem C3:∀ (us:List cv) (n:Nat) (w w':LW),lr n us w=.ok w'->w'.lb=w.lb/\w'.num=w.num/\w'.sK=w.sK/\w'.ne=w.ne
 | [],n,w,w',h=>by
  unfold lr at h;cases h;exact ⟨rfl,rfl,rfl,rfl⟩
 | u::us,n,w,w',h=>by
  rw [lr] at h;split at h
  ·cases h
  ·have h1:=C3 us (n+1) _ w' h;have h2:=OU (n:=n) (u:=u) (w:=w);exact ⟨h1.1.trans h2.1,h1.2.1.trans h2.2.1,h1.2.2.1.trans h2.2.2.1,h1.2.2.2.trans h2.2.2.2⟩
def WI.meet {us:List cv} {n:Nat} {w':LW} {L:List Lb} {E:List Ky} (i0:WI H L E) (h:lr n us H=.ok w'):WI w' L E:=by
 have:=C3 us n H w' h
 exact ⟨this.1.trans i0.lb,this.2.1.trans i0.num,this.2.2.1.trans i0.sK,this.2.2.2.trans i0.ne⟩
def WI.Kx {w:LW} {L:List Lb} {E:List Ky} (i0:WI w L E) (h1:L.length<=2^50) (h2:E.length<=2^50):Q3 w:=by
 refine ⟨fun k i h=>?_,fun k i h=>?_⟩
 ·rw [i0.num] at h;obtain ⟨hi,_⟩:=jS h;rw [ab9] at hi;omega
 ·rw [i0.sK] at h;obtain ⟨hi,_⟩:=jS h;omega
def KM (u:Nat):(Lib.decDigits u).foldl (fun a b=>a*10+(b.toNat-48)) 0=u:=by
 induction u using Nat.strongRecOn with
 | ind u c =>
  rw [Lib.decDigits];split
  ·next h =>
   have h1:(UInt8.ofNat (48+u)).toNat=48+u:=by rw [UInt8.toNat_ofNat']; omega
   simp only [List.foldl_cons,List.foldl_nil,h1];omega
  ·next h =>
   have h1:(UInt8.ofNat (48+u % 10)).toNat=48+u % 10:=by rw [UInt8.toNat_ofNat']; omega
   rw [ch9,c (u / 10) ad];simp only [List.foldl_cons,List.foldl_nil,h1];omega
def oA (n:Nat):lF n=⟨(Lib.decDigits n).toArray⟩:=by
 unfold lF;rw [Lib.itoa_nonneg]
def tJ {m n:Nat} (h:lF m=lF n):m=n:=by
 rw [oA,oA] at h;have h1:Lib.decDigits m=Lib.decDigits n:=by
  have:=as9 (fun b:Xaa=>b.data.toList) h
  simpa using this
 rw [<- KM m,h1,KM]
def ei (a b:Xaa):(a++b).data.toList=a.data.toList++b.data.toList:=by
 rw [ByteArray.data_append,Array.toList_append]
variable {V:Xaa}
def xn {b c:Xaa} (h:V++b=V++c):b=c:=by
 have h1:=as9 (fun b:Xaa=>b.data.toList) h;simp only [ei] at h1;have h2:=List.append_cancel_left h1;cases b; cases c;simp only at h2
 congr 1
 exact Array.ext' h2
def word_inj {L:List Lb} {E:List Ky} (i0:WI H L E) {k k':Ky} (hk:k∈L.map Ao\/k∈E) (d:k'∈L.map Ao\/k'∈E) (h:H.word k=H.word k'):k=k':=by
 have c:∀ a b:Xaa,(⟨#[76]⟩:Xaa)++a≠(⟨#[69]⟩:Xaa)++b:=by
  intro a b e;have h1:=as9 (fun b:Xaa=>b.data.toList) e;simp only [ei] at h1;simp at h1
 have l:∀ {k:Ky},k∈L.map Ao\/k∈E->H.num k=none->∃ i,H.sK k=some i/\∃ hi:i<E.length,E[i]=k:=by
  intro k hk hn;rw [i0.num] at hn
  have:=pa.1 hn
  have hk:k∈E:=hk.elim (fun h=>absurd h this) id;obtain ⟨i,hi⟩:=Cp hk;exact ⟨i,by rw [i0.sK]; exact hi,jS hi⟩
 unfold LW.word at h;cases h1:H.num k with
 | some i =>
  cases h2:H.num k' with
  | some j =>
   rw [h1,h2] at h
   have:=tJ (xn h)
   subst this;rw [i0.num] at h1 h2;obtain ⟨a,m⟩:=jS h1;obtain ⟨b,n⟩:=jS h2;rw [<- m,<- n]
  | none =>
   rw [h1,h2] at h;exact absurd h (c _ _)
 | none =>
  obtain ⟨i,o,hi,f⟩:=l hk h1;cases h2:H.num k' with
  | some j =>
   rw [h1,h2] at h;exact absurd h.symm (c _ _)
  | none =>
   obtain ⟨j,p,q,g⟩:=l d h2;rw [h1,h2] at h;simp only [o,p,Option.getD_some] at h
   have:=tJ (xn h)
   subst this;rw [<- f,<- g]
def DA (b:Q3 H) (k:Ky):(H.word k).size<=maxLen:=by
 have a:2000<=maxLen:=bT
 unfold LW.word;cases h:H.num k with
 | some n =>
  have:=ma (n:=n) (by have:=b.n _ _ h; omega)
  show (_++_:Xaa).size<=_;rw [eh9]
  have:(⟨#[76]⟩:Xaa).size=1:=rfl
  omega
 | none =>
  have h1:(H.sK k).getD 0<=2^60:=by
   cases h2:H.sK k with
   | none=>simp
   | some i=>have:=b.e _ _ h2; simp; omega
  have:=ma h1
  show (_++_:Xaa).size<=_;rw [eh9]
  have:(⟨#[69]⟩:Xaa).size=1:=rfl
  omega
variable {Y:bM}
def Bv {u:Nat} (h:H.bad u Y=none):∀ t,t∈Y.ah->∃ k,H.own u t.1=some k:=by
 unfold LW.bad at h;rw [Option.map_eq_none_iff,List.find?_eq_none] at h;intro t ht
 have:=h t ht
 cases a:H.own u t.1 with
 | none=>rw [a] at this; simp at this
 | some k=>exact ⟨k,rfl⟩
def Ek {u:Nat} (h:H.bad u Y=none):∀ t,t∈(H.lin u Y).ah->∃ p k,p∈Y.ah/\H.own u p.1=some k/\t.1=H.word k:=by
 intro t ht;have hb:=Bv h;rcases pW ht with ⟨p,b,c,a⟩ | ⟨p,y,v,b,a,hv,c⟩
 ·obtain ⟨k,hk⟩:=hb p b;rw [c] at hk;rw [hk] at a;cases a
 ·obtain ⟨k,hk⟩:=hb p b;rw [hk] at a;simp only [Option.map_some,Option.some.injEq] at a;subst a;refine ⟨p,k,b,hk,?_⟩;rw [<- c]
  have:v=(H.word k,1):=by simpa [mC] using hv
  rw [this]
def Ar {u:Nat} (h:H.bad u Y=none):(H.lin u Y).ah.length<=Y.ah.length:=by
 have a:Nf (H.lin u Y).ah:=eP _ _;have h1:((H.lin u Y).ah.map (·.1)).Nodup:=cr9.2 (a.1.imp fun h=>jX h);have h2:=kb ((H.lin u Y).ah.map (·.1)) (Y.ah.map fun t=>H.word ((H.own u t.1).getD (0,dW))) h1 (fun s b=>by
  obtain ⟨t,ht,rfl⟩:=an9.1 b;obtain ⟨p,k,c,hk,d⟩:=Ek h t ht;rw [d];refine an9.2 ⟨p,c,?_⟩;rw [hk];rfl)
 rwa [ab9,ab9] at h2
def Qh (b:Q3 H) {u:Nat} (h:H.bad u Y=none):∀ t,t∈(H.lin u Y).ah->t.1.size<=maxLen:=by
 intro t ht;obtain ⟨p,k,_,_,a⟩:=Ek h t ht;rw [a];exact DA b k
def x5 {n:Nat} (h:sB H n c=none):(∀ x,x∈c.text->H.bad n x.e=none)/\(∀ x,x∈c.data->H.bad n x.e=none)/\∀ e,e∈c.bj->H.bad n e.2=none:=by
 unfold sB at h;rw [Option.or_eq_none_iff,Option.or_eq_none_iff] at h;obtain ⟨h1,h2,a⟩:=h;unfold LW.zX at h1 h2;rw [cx9] at h1 h2 a;exact ⟨h1,h2,a⟩
theorem j1 {w:LW}:∀ (us:List cv) (n:Nat),fO w n us=none->∀ i,(hi:i<us.length)->sB w (n+i) us[i]=none
 | [],n,h,i,hi=>absurd hi aj
 | u::us,n,h,i,hi=>by
  rw [fO] at h;cases a:sB w n u with
  | some s=>rw [a] at h; cases h
  | none =>
   rw [a] at h
   match i with
   | 0=>simpa using a
   | i+1 =>
    have:=j1 us (n+1) h i (by simpa using hi)
    rw [show n+1+i=n+(i+1) from ad] at this;simpa using this
theorem wM:∀ (us:List cv) (n:Nat) (q:Nat × sS),q∈eJ n us->∃ i,∃ hi:i<us.length,q.1=n+i/\q.2∈us[i].bj
 | [],n,q,h=>by simp [eJ] at h
 | u::us,n,q,h=>by
  rw [eJ,ar9] at h;rcases h with h | h
  ·obtain ⟨e,a,rfl⟩:=an9.1 h;exact ⟨0,aj,rfl,a⟩
  ·obtain ⟨i,hi,h1,h2⟩:=wM us (n+1) q h;exact ⟨i+1,by simpa using hi,ad,by simpa using h2⟩
def As {us:List cv} (h:fO H 0 us=none) {q:Nat × sS} (a:q∈eJ 0 us):H.bad q.1 q.2.2=none:=by
 obtain ⟨i,hi,h1,h2⟩:=wM us 0 q a
 have:=(x5 (j1 us 0 h i hi)).2.2 _ h2
 rw [h1];exact this
theorem Kt:∀ (us:List cv) (n:Nat),(∀ u,u∈us->u.bj.length<=8192)->(eJ n us).length<=us.length*8192
 | [],n,h=>by simp [eJ]
 | u::us,n,h=>by
  rw [eJ,af9,ab9,cj9];have h1:=Kt us (n+1) (fun v hv=>h v (by simp [hv]));have h2:=h u aj;omega
theorem xX:∀ (us:List cv) (n:Nat),(∀ u,u∈us->(u.bj.map (·.1)).Nodup)->((eJ n us).map jy).Nodup
 | [],n,h=>by simp [eJ]
 | u::us,n,h=>by
  rw [eJ,ao9,cs9];refine ⟨?_,xX us (n+1) (fun v hv=>h v (by simp [hv])),?_⟩
  ·have:(u.bj.map fun e=>(n,e)).map jy=(u.bj.map (·.1)).map fun s=>(n,s):=by rw [bf9,bf9]; rfl
   rw [this,ee9,cr9];exact (ee9.1 (h u aj)).imp fun h e=>h (dr9 e).2
  ·intro a c b d e;obtain ⟨q,f,rfl⟩:=an9.1 c;obtain ⟨r,g,rfl⟩:=an9.1 d;obtain ⟨x,_,rfl⟩:=an9.1 f;obtain ⟨i,_,h1,_⟩:=wM us (n+1) r g
   have:n=r.1:=(dr9 e).1
   omega
theorem CQ:∀ (us:List cv) (n:Nat),((eJ n us).map fun q=>q.2.2.ah.length).sum<=((us.flatMap cR).flatMap (·.ah)).length
 | [],n=>by simp [eJ]
 | u::us,n=>by
  rw [eJ,ao9,fq9,cd9,dt9,af9];have h1:=CQ us (n+1);have h2:((u.bj.map fun e=>(n,e)).map fun q=>q.2.2.ah.length).sum<=((cR u).flatMap (·.ah)).length:=by
   unfold cR;rw [dt9,af9,bf9]
   have:∀ l:List sS,(l.map ((fun q:Nat × sS=>q.2.2.ah.length) ∘ fun e=>(n,e))).sum=((l.map (·.2)).flatMap (·.ah)).length:=by
    intro l
    induction l with
    | nil=>rfl
    | cons e l a=>rw [bq9,cn9,bq9,cd9,af9,a]; rfl
   rw [this];omega
  omega
structure Fw (us:List cv):Prop where
 right:∀ u,u∈us->fz u=0
 many:us.length<=64
def Fw.bj {us:List cv} (r:Fw us) {u:cv} (a:u∈us):u.bj.length<=8192/\u.text.length+u.data.length<=8192:=by
 have h:=(A9 (r.right u a)).1;unfold wH at h;rw [Bool.or_eq_false_iff] at h;have h1:=av9 h.1;have h2:=av9 h.2;omega
def Fw.eqs {us:List cv} (r:Fw us):(eJ 0 us).length<=2^19:=by
 have h1:=Kt us 0 (fun u a=>(r.bj a).1);have h2:=r.many;omega
theorem sy (n sec:Nat):∀ (l:List cC) (i:Nat),(qC n sec i l).length<=l.length
 | [],i=>by simp [qC]
 | x::l,i=>by
  have:=sy n sec l (i+1)
  rw [qC,af9,cj9];split <;> simp <;> omega
theorem C8:∀ (us:List cv) (n:Nat),(∀ u,u∈us->u.text.length+u.data.length<=8192)->(cy n us).length<=us.length*8192
 | [],n,h=>by simp [cy]
 | u::us,n,h=>by
  rw [cy,af9,cj9];have h1:=C8 us (n+1) (fun v hv=>h v (by simp [hv]));have h2:=h u aj;have h3:=sy n 0 u.text 0;have h4:=sy n 1 u.data 0;unfold Hv;rw [af9];omega
def Fw.eK {us:List cv} (r:Fw us):(cy 0 us).length<=2^19:=by
 have h1:=C8 us 0 (fun u a=>(r.bj a).2);have h2:=r.many;omega
def Fw.Kx {us:List cv} (r:Fw us) {w:LW} (i0:WI w (cy 0 us) ((eJ 0 us).map jy)):Q3 w :=
 i0.Kx (by have:=r.eK; omega) (by rw [ab9]; have:=r.eqs; omega)
def V8 {us:List cv} (r:Fw us) (sm:H7 us) (i0:WI H (cy 0 us) ((eJ 0 us).map jy)) (m:fO H 0 us=none) (h:es.map fJ=om H us):uC es:=by
 have lb:=r.Kx i0;have hn:Sx.aX es=(eJ 0 us).map fun q=>H.word (jy q):=by
  have:=as9 (List.map (·.1)) h
  unfold om at this;rw [bf9,bf9] at this;exact this
 have hl:es.length=(eJ 0 us).length:=by
  have:=as9 List.length h
  unfold om at this;simpa using this
 have c:∀ e,e∈es->∃ q,q∈eJ 0 us/\e.name=H.word (jy q)/\e.x=H.lin q.1 q.2.2:=by
  intro e d;have h1:fJ e∈om H us:=by rw [<- h]; exact bc9 d
  unfold om at h1;obtain ⟨q,f,h2⟩:=an9.1 h1;exact ⟨q,f,(dr9 h2).1.symm,(dr9 h2).2.symm⟩
 have g:(es.flatMap (·.x.ah)).length<=2^20:=by
  have n:∀ l:List cV,(l.flatMap (·.x.ah)).length=((l.map fJ).map (·.2.ah.length)).sum:=by
   intro l
   induction l with
   | nil=>rfl
   | cons e l i=>rw [cd9,af9,bq9,bq9,cn9,i]; rfl
  rw [n,h];unfold om;rw [bf9];have o:∀ l:List (Nat × sS),(∀ q,q∈l->H.bad q.1 q.2.2=none)->(l.map ((fun p:Xaa × bM=>p.2.ah.length) ∘ fun q=>(H.word (q.1,q.2.1),H.lin q.1 q.2.2))).sum<=(l.map fun q=>q.2.2.ah.length).sum:=by
   intro l hl
   induction l with
   | nil=>simp
   | cons q l i =>
    rw [bq9,bq9,cn9,cn9];have h1:=i (fun p s=>hl p (by simp [s]));have h2:=Ar (hl q aj);have h3:((fun p:Xaa × bM=>p.2.ah.length) ∘ fun q:Nat × sS=>(H.word (q.1,q.2.1),H.lin q.1 q.2.2)) q=(H.lin q.1 q.2.2).ah.length:=rfl;omega
  have h1:=o (eJ 0 us) (fun q f=>As m f);have h2:=CQ us 0;have h3:=sm.ah;omega
 refine ⟨⟨?_,?_,?_,?_,?_⟩,g⟩
 ·rw [hn];have h1:=xX us 0 (fun u y=>by
   have:=xW (r.right u y)
   unfold fR at this;rw [cs9] at this;exact this.2.1)
  rw [ee9,cr9] at h1 ⊢;refine List.Pairwise.imp_of_mem ?_ h1;intro a b z j k e;exact k (word_inj i0 (.inr (bc9 z)) (.inr (bc9 j)) e)
 ·have:=r.eqs; omega
 ·intro e d;obtain ⟨q,_,h1,_⟩:=c e d;rw [h1];exact DA lb _
 ·intro e d
  have:=iF (fun e:cV=>e.x.ah) d
  omega
 ·intro e d t ht;obtain ⟨q,f,_,h2⟩:=c e d;rw [h2] at ht;exact Qh lb (As m f) t ht
def M6 {ms:List cV} (o:uC es) (hc:∀ v,¬ kS (dF es) v) (g:ms.map (fun m=>(m.name,m.x))=es.map (fun e=>(e.name,fq es e.name))) (hl:es.length<=2^19) :
  EqsOk ms/\(∀ e,e∈ms->e.x.ah.length<=2^20)/\(ms.flatMap (·.x.ah)).length<=2^39/\ms.length<=2^20:=by
 have hn:Sx.aX ms=Sx.aX es:=by
  have:=as9 (List.map (·.1)) g
  rw [bf9,bf9] at this;exact this
 have i:ms.length=es.length:=by
  have:=as9 List.length g
  simpa using this
 have a:∀ e,e∈ms->e.name∈Sx.aX es/\e.x=fq es e.name:=by
  intro e b;have h1:(e.name,e.x)∈es.map (fun e=>(e.name,fq es e.name)):=by rw [<- g]; exact bc9 (f:=fun m:cV=>(m.name,m.x)) b
  obtain ⟨q,j,h2⟩:=an9.1 h1;have h3:=(dr9 h2).1;exact ⟨by rw [<- h3]; exact bc9 j,by rw [<- (dr9 h2).2,h3]⟩
 have c:∀ e,e∈ms->e.x.ah.length<=2^20:=fun e b=>by rw [(a e b).2]; exact o.Fz hc (a e b).1
 refine ⟨⟨by rw [hn]; exact o.nodup,ad,fun e b=>?_,fun e b=>by have:=c e b; omega,fun e b t ht=>?_⟩,c,?_,ad⟩
 ·exact o.names _ (a e b).1
 ·rw [(a e b).2] at ht;exact o.NM hc (a e b).1 t ht
 ·have k:∀ l:List cV,(∀ e,e∈l->e.x.ah.length<=2^20)->(l.flatMap (·.x.ah)).length<=l.length*2^20:=by
   intro l h
   induction l with
   | nil=>simp
   | cons e l n =>
    rw [cd9,af9,cj9];have h1:=n (fun d p=>h d (by simp [p]));have h2:=h e aj;omega
  have:=k ms c
  omega
def WU (n:Int):Instr.fill (fun j=>some (j*1,1)) ((Array.range (1*1)).map ((Value.int .u8 0).cells[· % (Value.int .u8 0).cells.size]!)) [(0,.int .u8 n)]=some ([.int .u8 n]:List Xab).toArray:=ax
def u7 (n:Nat):Xaa:=⟨[UInt8.ofNat (48+n % 10)].toArray⟩
def eO (n:Nat):Xaa:=⟨(Lib.decDigits n).toArray⟩
def Bg {n:Nat} (h:n<10):eO n=u7 n:=by
 unfold eO u7;rw [Lib.decDigits_one h,dx9 h]
def Ms {n:Nat} (h:¬ n<10) (s:Xaa):eO n++s=eO (n / 10)++(u7 n++s):=by
 unfold eO u7
 conv=>lhs; rw [Lib.decDigits,dif_neg h]
 apply zg;rw [ei,ei,ei];simp [List.append_assoc]
variable {a:Lp} {Z:Xab->Hp->Prop}
def yW {h:Hp} {n:Nat} (hn:n<=2^60) {k:Xaa->T} (hk:∀ h',Ext h h'->k (u7 n) a Z h') :
  T.eH Xaz (Instr.buildSlice 204 1 #[(0,.int .u8 (IntKind.wrap .u8 (IntKind.wrap .i64 ((48:Int)+(Int.tmod (n:Int) (10:Int))))))]) false [(false,[.slice 0])] (fun b c d =>
   T.eH Xaz (convert 204 9 (.slice b c d)) false [(false,[.string])] k) a Z h:=by
 have hw:=W6 n;rw [hw];refine nS RI byZ ad ad (WU _) ?_;intro h1 e f z1;have g:SL h1 h.size 5 1 (some ⟨h.size,0,none⟩) 1 1 (Qv [UInt8.ofNat (48+n % 10)]):=⟨rfl,by simp [Qv],h.size,[],[],rfl,aq9 _,ad,by simpa [Qv] using e,aj⟩
 exact PE g aj (hk h1 f)
def Ah (s:Xaa):((ByteArray.toList s)==([]:List UInt8))=decide (s.data.toList=[]):=by
 rw [ByteArray.toList_eq];cases h:s.data.toList <;> simp
variable {O:Hp}
def tL {n:Nat} (hn:n<=2^60):HC Xaz 73 #[vI (n:Int)] O fun w h'=>w=.string (eO n)/\Ext O h':=by
 refine bd (args:=[vI (n:Int)]) mixed Tryz.func73 ax (nt n) ?_;unfold jf bn bQ bq cm aQ;have c:∀ m,(u7 m).size=1:=fun m=>rfl
 have a:∀ m s,¬ (u7 m++s).data.toList=[]:=fun m s g=>by rw [ei] at g; simp [u7] at g
 refine aT (cs:=VY) (fun y k h'=>∃ (m:Nat) (s:Xaa),y.1=(m:Int)/\y.2.1=s/\k=2*m+(if s.data.toList=[] then 1 else 0)/\m<=n/\s.size+m<=n+1/\Ext O h'/\((s=⟨#[]⟩/\m=n)\/(¬ s.data.toList=[]/\eO n=(if m=0 then ⟨#[]⟩ else eO m)++s))) ((n:Int),(⟨#[]⟩:Xaa),()) _ rfl
  ⟨n,⟨#[]⟩,rfl,rfl,rfl,aq9 _,by show 0+n<=n+1; omega,Ch.refl _ _,.inl ⟨rfl,rfl⟩⟩ ?_
 rintro ⟨x,(s:Xaa),⟨⟩⟩ k h1 ⟨m,A,hi,d,rfl,p,t,i,b⟩;simp only at hi d;subst hi d;refine ao ?_;have e:IntKind.wrap .i64 (Int.tdiv (m:Int) 10)=((m / 10:Nat):Int):=by
  have:Int.tdiv (m:Int) 10=((m / 10:Nat):Int):=by rw [Int.tdiv_eq_ediv_of_nonneg ad]; omega
  rw [this,wrap_i64 ad ad]
 have j:∀ s:Xaa,(u7 m++s).size=1+s.size:=fun s=>by rw [eh9,c]
 refine aR ?_ ?_<;>intro q
 ·have l:¬ m=0:=ad
  refine dC bT ?_;refine yW ad ?_;intro h2 o;refine dC (by show ((((u7 m).size+s.size:Nat)):Int)<=_; rw [c]; omega) (dC bT ?_);have u:eO n=eO m++s:=by
   rcases b with ⟨rfl,rfl⟩ | ⟨_,b⟩
   ·apply zg;rw [ei]
    simp
   ·rw [b,ac9 l]
  refine aG (cs:=VY) (((m / 10:Nat):Int),u7 m++s,()) (2*(m / 10)+0) rfl ad (as9 (fun z=>[Value.int .i64 z,.string (u7 m++s)]) e) ⟨m / 10,u7 m++s,rfl,rfl,by rw [ac9 (a m s)],ad,by rw [j]; omega,i.trans o,.inr ⟨a m s,?_⟩⟩;rw [u]
  by_cases f:m<10
  ·rw [Bg f,ag9 ad];apply zg;rw [ei,ei,ei]
   simp
  ·rw [Ms f,ac9 ad]
 ·have l:m=0:=ad
  subst l;rw [Ah];refine aR ?_ ?_<;>intro r
  ·rcases b with ⟨rfl,h0⟩ | ⟨g,_⟩
   ·subst h0;refine dC bT ?_;refine yW ad ?_;intro h2 o;refine dC bT (dC bT ?_);refine aG (cs:=VY) (((0:Nat):Int),u7 0++⟨#[]⟩,()) 0 rfl aj rfl ⟨0,u7 0++⟨#[]⟩,rfl,rfl,by rw [ac9 (a 0 _)],ad,bT,i.trans o,.inr ⟨a 0 _,?_⟩⟩;rw [Bg ad,ag9 rfl];apply zg;rw [ei,ei]
    simp
   ·exact absurd r g
  ·rcases b with ⟨rfl,_⟩ | ⟨_,b⟩
   ·exact absurd rfl r
   ·refine ⟨?_,i⟩;rw [b,ag9 rfl]
    congr 1
def mR (us:List cv) (n:Nat) (x:bM):Option Xaa:=(x.ah.find? fun t=>(jQ us n t.1).isNone).map (·.1)
def ee (us:List cv) (n:Nat) (x:bM):Xaa:=(mR us n x).getD ⟨#[]⟩
def Sb (o:Option Nat):decide (TN o<0)=o.isNone:=by
 cases o with
 | none=>rfl
 | some k=>exact ak9 (by show ¬ ((k:Int)<0); omega)
variable {U b:Xac}
def Hk {l c:Nat} {us:List cv} (v:xA O U l us) (sz:Ng us) {n:Nat} (hn:n<us.length) {m d:Nat} (u:iD O b m Y.ah) (C:Y.ah.length<=2^60) :
  HC Xaz 99 #[.slice U l c,vI (n:Int),ik b m d Y] O fun w h'=>w=.string (ee us n Y)/\Ext O h':=by
 refine bd (args:=[.slice U l c,vI (n:Int),.agg #[.slice b m d,.int .u32 Y.num]]) mixed Tryz.func99 ax (nY U l c n b m d Y.num) ?_;unfold jG aY bh bt aI cQ aF cm aQ;have hll:=u.len;refine br ?_;intro h1 D E z1;refine aT (cs:=Gb) (fun y k h'=>∃ i:Nat,y.2.1=(i:Int)/\k=Y.ah.length-i/\i<=Y.ah.length/\Ext O h'/\Ext h1 h'/\∀ j,j<i->(o:j<Y.ah.length)->(jQ us n Y.ah[j].1).isNone=false) ((⟨#[]⟩:Xaa),(0:Int),()) Y.ah.length rfl
  ⟨0,rfl,rfl,ad,E,Ch.refl _ _,fun j o=>absurd o ad⟩ ?_
 rintro ⟨F,H,⟨⟩⟩ k h2 ⟨i,hi,rfl,G,f,z,s⟩;simp only at hi;subst hi;refine ao ?_;have b2:=D.an z aj;refine az b2 ((b,m,d),()) (ao ?_);refine aR ?_ ?_<;>intro g
 ·have A:i<Y.ah.length:=ad
  refine az b2 ((b,m,d),()) (ao ?_);obtain ⟨a,rfl,hc⟩:=(u.an f aj).cells i A;refine bS rfl ?_;rw [cr i];refine ay (Y.ah[i].1,()) ⟨hc.1,trivial⟩ (ao ?_);refine aK (GL (c:=c) (v.an f) sz hn Y.ah[i].1) ?_;rintro _ I ⟨rfl,B⟩;refine ⟨(TN (jQ us n Y.ah[i].1),()),rfl,ao ?_⟩;rw [Sb];refine aw ?_ ?_<;>intro r
  ·refine az (b2.an B aj) ((some a,m,d),()) (ao ?_);refine bS rfl ?_;refine ay (Y.ah[i].1,()) ⟨(aM B aj _ _ hc).1,trivial⟩ ?_;refine ⟨?_,f.trans B⟩;unfold ee mR;rw [lQ (fun t:Xaa × Nat=>(jQ us n t.1).isNone) Y.ah i A (fun j o=>s j o ad) r] <;> rfl
  ·refine aG (cs:=Gb) (F,((i+1:Nat):Int),()) (Y.ah.length-(i+1)) rfl ad (by rw [wrap_i64 ad ad]; rfl) ?_;exact ⟨i+1,rfl,rfl,ad,f.trans B,z.trans B,fun j o C=>by
    by_cases e:j=i
    ·subst e; exact r
    ·exact s j ad C⟩
 ·have:i=Y.ah.length:=ad
  subst this;refine ⟨?_,f⟩;unfold ee mR;rw [oL (fun t:Xaa × Nat=>(jQ us n t.1).isNone) Y.ah fun j o=>s j o o] <;> rfl
def DE {P:Program} {h:Hp} {L:Lp} {K:Xab->Hp->Prop} {k:Xac->Nat->Nat->T} {t n e:TypeId} {z:Xab} {sz by':Nat} (ht:P.underlying t=some (.slice e)) (g:(P.info? e).map (fun i=>(i.zero,i.size,i.bytes))=some (some z,sz,by'))
  (o:z.cells.size=sz) {b:Nat} {p:Xac} {l c:Nat} {xs:List (List Xab)} (s:SL h b e sz p l c xs) {q:Xac} {m d:Nat} {ys:List (List Xab)} (j:(q=none/\ys=[])\/∃ a,q=some a/\aH h a 0 ys.flatten) (B:m=ys.length) (r:∀ y,y∈ys->y.length=sz) (u:ys.flatten.all dr=true)
  (w:(2*(l+m)+1024)*by'<=2^48) (x:l+m<=2^48) (C:b<=h.size)
  (hk:∀ p' c' h',SL h' b e sz p' (l+m) c' (xs++ys)->Ch (aJ p) h h'->k p' (l+m) c' L K h') :
  T.eH P (Builtin.append_ #[t,t] n #[.slice p l c,.slice q m d]) false [(false,[.slice 0])] k L K h:=by
 obtain ⟨i,hi,D,rfl,rfl⟩:=pO g;refine dA ?_;rcases j with ⟨rfl,rfl⟩ | ⟨a,rfl,hc⟩
 ·have h0:m=0:=B;subst h0;have A:l<=c:=SL.Ir s;simp [Builtin.append_,av,aC ht,cd hi,cS hi,Builtin.lenOf,Builtin.firstCells,A];have f:∃ p' l' c',Value.slice p l c=.slice p' l' c'/\k p' l' c' L K h:=⟨p,l,c,rfl,by simpa using hk p c h (by simpa using s) (Ch.refl _ _)⟩
  cases p with
  | none=>exact f
  | some a=>exact f
 ·exact pD (P:=P) (K:=fun v h'=>∃ p l c,v=.slice p l c/\k p l c L K h') (ty:=n) (ys:=ys) ht hi D o s B r hc u w x C fun p' c' h' E k' _=>⟨p',_,c',rfl,hk p' c' h' E k'⟩
def rE (us:List cv) (n:Nat) (l:List bM):Xaa:=((l.map (ee us n)).find? fun s=>!decide (s.data.toList=[])).getD ⟨#[]⟩
def J2 {us:List cv} {n:Nat} {l:List bM} {i:Nat} (hi:i<l.length) (h:∀ j,(a:j<i)->(ee us n (l[j]'ad)).data.toList=[]) (b:¬ (ee us n l[i]).data.toList=[]):rE us n l=ee us n l[i]:=by
 unfold rE;rw [lQ (fun s:Xaa=>!decide (s.data.toList=[])) (l.map (ee us n)) i (by rw [ab9]; exact hi) (fun j a=>by rw [am9]; simp [h j a]) (by rw [am9]; simpa using b)];rw [am9] <;> rfl
def LC {us:List cv} {n:Nat} {l:List bM} (h:∀ j,(a:j<l.length)->(ee us n l[j]).data.toList=[]):rE us n l=⟨#[]⟩:=by
 unfold rE;rw [oL (fun s:Xaa=>!decide (s.data.toList=[])) (l.map (ee us n)) fun j a=>by
  rw [ab9] at a;rw [am9];simp [h j a]]
 rfl
def EI {l c:Nat} {us:List cv} (v:xA O U l us) (sz:Ng us) {n:Nat} (hn:n<us.length) :
  HC Xaz 71 #[.slice U l c,vI (n:Int)] O fun w h'=>w=.string (rE us n (cR us[n]))/\Ext O h':=by
 refine bd (args:=[.slice U l c,vI (n:Int)]) mixed Tryz.func71 ax (kP U l c n) ?_;unfold gY aY bh bt aI eG bn aF bg cm aQ;have hll:=v.len;have hmany:=sz.many;obtain ⟨a,sa,sb,sc,sd,rfl,hc,va⟩:=v.cells n hn;have hm:=al9 hn;generalize us[n]=u at hc va hm;refine bS rfl ?_;rw [cr n];refine ay ((sa.p,sa.l,sa.c),(sb.p,sb.l,sb.c),(sc.p,sc.l,sc.c),(sd.p,sd.l,sd.c),()) hc (ao ?_);refine br ?_;intro h1 b1 e1 z1;refine bR b1 ?_;intro h2 G k2 z2;have G:bC h2 O.size 70 [sa.v,sb.v,sc.v,sd.v]:=G;have e2:Ext O h2:=bY e1 k2;refine az G ((sa.p,sa.l,sa.c),()) (ao ?_);rw [aE];refine az G ((sb.p,sb.l,sb.c),()) (ao ?_);have va2:=va.an e2;obtain ⟨D,K,L,iwt⟩:=ED va2.text;obtain ⟨E,M,N,iwd⟩:=ED va2.data;have hlt:D.length=u.text.length:=by rw [<- K,ab9]
 have hld:E.length=u.data.length:=by rw [<- M,ab9]
 have h1t:=sz.text u hm;have h1d:=sz.data u hm;have h1e:=sz.bj u hm;have hlvt:=L.len;have hlvd:=N.len;refine SW (z:=.agg iz.toArray) (sz:=10) (by':=104) Co Gf ?_;intro h3 s3 X;have z3:=X.size;have z2':=e2.size;have b3:=G.an X aj;refine ⟨⟨b3.cells _ rfl,b3.cells _ rfl,trivial⟩,?_⟩;have F:∀ {O h':Hp} {q:Xac} {us:List (bU × cC)},Ext O h'->((q=none/\us.map ub=[])\/∃ a,q=some a/\aH O a 0 (us.map ub).flatten)->((q=none/\us.map ub=[])\/∃ a,q=some a/\aH h' a 0 (us.map ub).flatten):=by
  rintro O h' q us e (x | ⟨a,ha,hc⟩)
  ·exact .inl x
  ·exact .inr ⟨a,ha,aM e aj _ _ hc⟩
 refine DE (z:=.agg iz.toArray) (sz:=10) (by':=104) Co Gf rfl s3 (F X L.src) (by simpa using hlvt) (o7 D) (pV D) ad ad ad ?_;intro p4 c4 h4 s4 k4;have Y:Ext h2 h4:=Ch.trans X k4 (fun j b hl=>by simp [aJ] at b; omega);have b4:=G.an Y aj;have z4:=Y.size;rw [dj9] at s4;refine ⟨⟨b4.cells _ rfl,trivial⟩,?_⟩;refine DE (z:=.agg iz.toArray) (sz:=10) (by':=104) Co Gf rfl s4 (F Y N.src) (by simpa using hlvd) (o7 E) (pV E) ad ad ad ?_;intro p5 c5 h5 s5 k5;have Z:Ext h2 h5:=Ch.trans Y k5 (fun j b hl=>by have:=(s4.cB b).1; omega);have b5:=G.an Z aj;rw [<- ao9] at s5;refine ⟨⟨b5.cells _ rfl,trivial⟩,?_⟩;have e05:=e2.trans Z;have hI:∀ w,w∈D++E->iV h5 w.1.p w.1.l w.2:=fun w Q=>by
  rcases ar9.1 Q with Q | Q
  ·exact (iwt w Q).an Z
  ·exact (iwd w Q).an Z
 have hE:(D++E).map (fun w=>w.2.e)=u.text.map (·.e)++u.data.map (·.e):=by
  rw [ao9,<- K,<- M,bf9,bf9] <;> rfl
 have f:cR u=(D++E).map (fun w=>w.2.e)++u.bj.map (·.2):=by rw [hE]; rfl
 have hwl:(D++E).length=sa.l+sb.l:=by rw [af9]; omega
 generalize D++E=W at s5 hI f hwl;clear hE;refine aT (cs:=Gb) (fun y k h'=>∃ i:Nat,y.2.1=(i:Int)/\k=W.length-i/\i<=W.length/\Ext h5 h'/\∀ j,j<i->(b:j<W.length)->(ee us n W[j].2.e).data.toList=[]) ((⟨#[]⟩:Xaa),(0:Int),()) W.length rfl
  ⟨0,rfl,rfl,ad,Ch.refl _ _,fun j b=>absurd b ad⟩ ?_
 rintro ⟨R,n32,⟨⟩⟩ k h6 ⟨i,hi,rfl,hle,I,B⟩;simp only at hi;subst hi;refine ao ?_;have s6:=s5.bK I aj;have e06:=e05.trans I;have b6:=b5.an I aj;refine aR ?_ ?_<;>intro g
 ·have o:i<W.length:=ad
  obtain ⟨a6,rfl,H⟩:=SL.cells s6 (i:=i) (by rw [ab9]; exact o);rw [am9] at H;have hiw:=(hI _ (al9 o)).an I;refine bS rfl ?_;rw [cr i];refine ay ((W[i].1.p,W[i].1.l,W[i].1.c),(W[i].2.e.num:Int),()) ⟨by rw [add_add]; exact H.2.2.2.2.2.2.2.1,by rw [add_add]; exact H.2.2.2.2.2.2.2.2.1,trivial⟩ ?_;refine ao ?_;refine aK (Hk (c:=c) (d:=W[i].1.c) (v.an e06) sz hn hiw.lin.vw hiw.lin.many) ?_;rintro _ h7 ⟨rfl,J⟩;refine ⟨(ee us n W[i].2.e,()),rfl,ao ?_⟩;rw [Ah];refine aw ?_ ?_<;>intro r
  ·have r:¬ (ee us n W[i].2.e).data.toList=[]:=by simpa using r
   refine ⟨?_,e06.trans J⟩;rw [f,J2 (i:=i) (by rw [af9,ab9]; omega) (fun j b=>by
    rw [by9 (by rw [ab9]; omega),am9];exact B j b ad) (by
    rw [by9 (by rw [ab9]; omega),am9];exact r)]
   rw [by9 (by rw [ab9]; omega),am9]
  ·have r:(ee us n W[i].2.e).data.toList=[]:=by simpa using r
   refine aG (cs:=Gb) (R,((i+1:Nat):Int),()) (W.length-(i+1)) rfl ad (by rw [wrap_i64 ad ad]; rfl) ?_;exact ⟨i+1,rfl,rfl,ad,I.trans J,fun j b hx=>by
    by_cases e:j=i
    ·subst e; exact r
    ·exact B j ad hx⟩
 ·have hiW:i=W.length:=ad
  subst hiW;have veq:=va.bj;have hlq:=veq.len;refine aT (cs:=Gb) (fun y k h'=>∃ i:Nat,y.2.1=(i:Int)/\k=u.bj.length-i/\i<=u.bj.length/\Ext h5 h'/\∀ j,j<i->(b:j<u.bj.length)->(ee us n u.bj[j].2).data.toList=[]) (R,(0:Int),()) u.bj.length rfl
   ⟨0,rfl,rfl,ad,I,fun j b=>absurd b ad⟩ ?_
  rintro ⟨s33,n34,⟨⟩⟩ k h7 ⟨i,hi,rfl,hle,J,s⟩;simp only at hi;subst hi;refine ao ?_;have b7:=b5.an J aj;have e07:=e05.trans J;rw [aE];refine az b7 ((sc.p,sc.l,sc.c),()) (ao ?_);refine aR ?_ ?_<;>intro g
  ·have o:i<u.bj.length:=ad
   refine az b7 ((sc.p,sc.l,sc.c),()) (ao ?_);obtain ⟨aq,q,m,d,haq,S,V,_⟩:=(veq.an e07).cells i o;refine bS haq ?_;rw [cr i];refine ay ((q,m,d),(u.bj[i].2.num:Int),()) ⟨by rw [add_add]; exact S.2.1,by rw [add_add]; exact S.2.2.1,trivial⟩ ?_;refine ao ?_;refine aK (Hk (c:=c) (d:=d) (v.an e07) sz hn V.vw V.many) ?_;rintro _ h8 ⟨rfl,e8⟩;refine ⟨(ee us n u.bj[i].2,()),rfl,ao ?_⟩;rw [Ah];have t:(W.map fun w=>w.2.e).length=W.length:=ab9 _;refine aw ?_ ?_<;>intro r
   ·have r:¬ (ee us n u.bj[i].2).data.toList=[]:=by simpa using r
    refine ⟨?_,e07.trans e8⟩;have A:∀ j (b:j<u.bj.length),((W.map fun w=>w.2.e)++u.bj.map (·.2))[W.length+j]'(by rw [af9,ab9,ab9]; omega)=u.bj[j].2:=fun j b=>by
     rw [ct9 (by rw [t]; omega)];simp [t]
    rw [f,J2 (i:=W.length+i) (by rw [af9,ab9,ab9]; omega) (fun j b=>by
     by_cases C:j<W.length
     ·rw [by9 (by rw [t]; omega),am9];exact B j ad C
     ·have:=A (j-W.length) ad
      simp only [show W.length+(j-W.length)=j from ad] at this;rw [this];exact s _ ad _) (by rw [A i o]; exact r),A i o]
   ·have r:(ee us n u.bj[i].2).data.toList=[]:=by simpa using r
    refine aG (cs:=Gb) (s33,((i+1:Nat):Int),()) (u.bj.length-(i+1)) rfl ad (by rw [wrap_i64 ad ad]; rfl) ?_;exact ⟨i+1,rfl,rfl,ad,J.trans e8,fun j b hx=>by
     by_cases e:j=i
     ·subst e; exact r
     ·exact s j ad hx⟩
  ·have hie:i=u.bj.length:=ad
   subst hie;refine ⟨?_,e07⟩;rw [f,LC fun j b=>by
    rw [af9,ab9,ab9] at b
    by_cases C:j<W.length
    ·rw [by9 (by rw [ab9]; omega),am9];exact B j C C
    ·rw [ct9 (by rw [ab9]; omega),am9];exact s _ (by simp; omega) _]
theorem kq {α:Type} (f:Nat->Option α) (x:α):∀ (n i:Nat),i<n->(∀ j,j<i->f j=none)->f i=some x->(List.range n).findSome? f=some x
 | 0,i,hi,_,_=>absurd hi ad
 | n+1,i,hi,h0,a=>by
  rw [fs9,fg9]
  by_cases h:i<n
  ·rw [kq f x n i h h0 a] <;> rfl
  ·have:i=n:=ad
   subst this;have hn:(List.range i).findSome? f=none:=by
    rw [cx9];intro j b;exact h0 j (dv9.1 b)
   rw [hn];simp [a]
def ka {α:Type} (f:Nat->Option α) (n:Nat) (h:∀ j,j<n->f j=none):(List.range n).findSome? f=none:=by
 rw [cx9];intro j a;exact h j (dv9.1 a)
def zF (us:List cv) (i:Nat):Option (Nat × Xaa):=us[i]?.bind fun u=>(u.aU.find? fun s=>(us.take i).any fun v=>gP v.aU s).map fun s=>(i,s)
def FL (us:List cv):Option (Nat × Xaa):=(List.range us.length).findSome? (zF us)
def Ck (us:List cv) (i:Nat):Option (Nat × Xaa):=us[i]?.bind fun u=>if (rE us i (cR u)).data.toList=[] then none else some (i,rE us i (cR u))
def PK (us:List cv):Option (Nat × Xaa):=(List.range us.length).findSome? (Ck us)
def fS (us:List cv):Fl :=
 if us.length=0 then ⟨25,0,dW⟩
 else if 64<us.length then ⟨4,0,dW⟩
 else match us.findIdx? fun u=>decide (fz u≠0) with
 | some n=>⟨31,n,dW⟩
 | none=>match FL us with
  | some q=>⟨22,q.1,q.2⟩
  | none=>match PK us with
   | some q=>⟨23,q.1,q.2⟩
   | none=>⟨0,0,dW⟩
def RY (f:Fl):Xab:=.agg #[vI (f.rD:Int),vI (f.unit:Int),.string f.name]
variable {f g:Int}
def tA {h0 h:Hp} {d:Nat} (bx:bC h d 91 [vI f,vI g,.string V]) (e0:Ext h0 h) (m:h0.size<=d) (c:Fl) (hk:∀ h',Ext h0 h'->Z (RY c) h') :
  T.aD ⟨d,0,none⟩ [vI (c.rD:Int),vI (c.unit:Int),.string c.name] (T.af ⟨d,0,none⟩ [.int .i64,.int .i64,.string] fun (i j:Int) (k:Xaa)=>T.ret (.agg #[vI i,vI j,.string k])) a Z h:=by
 refine bR bx ?_;intro h2 e l z2;have e:bC h2 d 91 [vI (c.rD:Int),vI (c.unit:Int),.string c.name]:=e;refine az e ((c.rD:Int),(c.unit:Int),c.name,()) ?_;exact hk h2 (bY e0 l)
def Ng.of {us:List cv} (a:us.length<=64) (c:∀ u,u∈us->fz u=0):Ng us:=by
 have r:Fw us:=⟨c,a⟩
 refine ⟨ad,fun u b=>?_,fun u b=>?_,fun u b=>?_⟩ <;> have:=r.bj b <;> omega
def JI {l c:Nat} {us:List cv} (v:xA O U l us):HC Xaz 43 #[.slice U l c] O fun w h'=>w=RY (fS us)/\Ext O h':=by
 refine bd (args:=[.slice U l c]) mixed Tryz.func43 ax (mG U l c) ?_;unfold iU aY bh bt aI aZ cQ eG cm aQ;have hll:=v.len;refine br ?_;intro h1 N L z1;refine aw ?_ ?_<;>intro g
 ·have g:l=0:=by have:(l:Int)=0:=(by simpa using g); omega
  refine tA N L (aq9 _) ⟨25,0,dW⟩ fun h' m=>⟨?_,m⟩
  unfold fS;rw [ag9 ad]
 have n:¬ us.length=0:=by
  intro hh
  have:l=0:=ad
  subst this;cases g
 refine aw ?_ ?_<;>intro g64
 ·have g64:=ah9 g64;refine tA N L (aq9 _) ⟨4,0,dW⟩ fun h' m=>⟨?_,m⟩
  unfold fS;rw [ac9 n,ag9 ad]
 have g64:=av9 g64;have A:¬ 64<us.length:=ad
 refine aT (cs:=cI) (fun y k h'=>∃ i:Nat,y.1=(i:Int)/\k=us.length-i/\i<=us.length/\Ext h1 h'/\∀ j,j<i->(d:j<us.length)->fz us[j]=0) ((0:Int),()) us.length rfl
  ⟨0,rfl,rfl,ad,Ch.refl _ _,fun j d=>absurd d ad⟩ ?_
 rintro ⟨n2,⟨⟩⟩ k h2 ⟨i,hi,rfl,hle,e2,hr⟩;simp only at hi;subst hi;refine ao ?_;have b2:=N.an e2 aj;have e02:=L.trans e2;refine aw ?_ ?_<;>intro q
 ·have q:=ah9 q;have P:i<us.length:=ad
  obtain ⟨a,sa,sb,sc,sd,rfl,hc,va⟩:=(v.an e02).cells i P;refine bS rfl ?_;rw [cr i];refine ay ((sa.p,sa.l,sa.c),(sb.p,sb.l,sb.c),(sc.p,sc.l,sc.c),(sd.p,sd.l,sd.c),()) hc (ao ?_);refine aK (Mk va) ?_;rintro _ h3 ⟨rfl,M⟩;refine ⟨(((fz us[i]:Nat):Int),()),rfl,ao ?_⟩;refine aw ?_ ?_<;>intro r
  ·have r:¬ fz us[i]=0:=by
    intro hh;rw [hh] at r;cases r
   refine tA (b2.an M aj) (e02.trans M) (aq9 _) ⟨31,i,dW⟩ fun h' m=>⟨?_,m⟩
   unfold fS;rw [ac9 n,ac9 A,show us.findIdx? (fun u=>decide (fz u≠0))=some i from by
    rw [bd9];exact ⟨P,aj9 r,fun j d=>by simp [hr j d ad]⟩]
  ·have r:fz us[i]=0:=by
    have:((fz us[i]:Nat):Int)=0:=by simpa using r
    omega
   refine aG (cs:=cI) (((i+1:Nat):Int),()) (us.length-(i+1)) rfl ad (by rw [wrap_i64 ad ad]; rfl) ?_;exact ⟨i+1,rfl,rfl,ad,e2.trans M,fun j d Q=>by
    by_cases e:j=i
    ·subst e; exact r
    ·exact hr j ad Q⟩
 have q:=av9 q;have hR:∀ u,u∈us->fz u=0:=fun u hu=>by
  obtain ⟨j,d,rfl⟩:=bg9 hu;exact hr j ad d
 have sz:=Ng.of ad hR;have F:us.findIdx? (fun u=>decide (fz u≠0))=none:=by
  rw [ca9];intro u hu;rw [hR u hu];decide
 clear hr;refine aT (cs:=cI) (fun y k h'=>∃ i:Nat,y.1=(i:Int)/\k=us.length-i/\i<=us.length/\Ext h1 h'/\∀ j,j<i->zF us j=none) ((0:Int),()) us.length rfl
  ⟨0,rfl,rfl,ad,e2,fun j d=>absurd d ad⟩ ?_
 rintro ⟨n3,⟨⟩⟩ k h3 ⟨i3,hi,rfl,hle3,M,G⟩;simp only at hi;subst hi;refine ao ?_;have hw3:=ic i3;refine aw ?_ ?_<;>intro q3
 ·have q3:=ah9 q3;have o:i3<us.length:=ad
  have t:us[i3]?=some us[i3]:=ad9 o;obtain ⟨a3,sa,sb,sc,sd,rfl,R,B⟩:=v.cells i3 o;generalize us[i3]=u at t R B;have hgm:=B.aU.many;have hgl:=B.aU.len;refine aT (cs:=cI) (fun y k h'=>∃ i:Nat,y.1=(i:Int)/\k=u.aU.length-i/\i<=u.aU.length/\Ext h1 h'/\∀ j,j<i->(d:j<u.aU.length)->((us.take i3).any fun v=>gP v.aU u.aU[j])=false) ((0:Int),()) u.aU.length rfl
   ⟨0,rfl,rfl,ad,M,fun j d=>absurd d ad⟩ ?_
  rintro ⟨n4,⟨⟩⟩ k h4 ⟨b,hi,rfl,S,H,I⟩;simp only at hi;subst hi;refine ao ?_;have hw4:=ic b;have e04:=L.trans H;have C:∀ {h':Hp},Ext O h'->aH h' ((a3.add (i3*4)).add 3) 0 [.slice sd.p sd.l sd.c]:=fun e=>⟨by rw [add_add]; exact (aM e aj _ _ R).2.2.2.1,trivial⟩
  refine bS rfl ?_;rw [cr i3];refine ay ((sd.p,sd.l,sd.c),()) (C e04) (ao ?_);refine aR ?_ ?_<;>intro q4
  ·have f:b<u.aU.length:=ad
   have hsg:u.aU[b]?=some u.aU[b]:=ad9 f;obtain ⟨ag,V,W,_⟩:=B.aU.cells b f;refine aT (cs:=cI) (fun y k h'=>∃ i:Nat,y.1=(i:Int)/\k=i3-i/\i<=i3/\Ext h1 h'/\∀ j,j<i->(d:j<us.length)->gP us[j].aU u.aU[b]=false) ((0:Int),()) i3 rfl
    ⟨0,rfl,rfl,ad,H,fun j d=>absurd d ad⟩ ?_
   rintro ⟨n9,⟨⟩⟩ k h5 ⟨x,hi,rfl,hle5,E,X⟩;simp only at hi;subst hi;refine ao ?_;have hw5:=ic x;have e05:=L.trans E;have b5:=N.an E aj;refine aR ?_ ?_<;>intro q5
   ·have Y:x<us.length:=ad
    obtain ⟨a5,ta,tb,tc,td,ha5,hc5,J⟩:=(v.an e05).cells x Y;refine bS ha5 ?_;rw [cr x];refine ay ((td.p,td.l,td.c),()) ⟨by rw [add_add]; exact hc5.2.2.2.1,trivial⟩ ?_;refine ao ?_;refine bS rfl ?_;refine ay ((sd.p,sd.l,sd.c),()) (C e05) (ao ?_);refine bS V ?_;rw [cr b];refine ay (u.aU[b],()) (aM e05 aj _ _ W) (ao ?_);refine aP (K7 J.aU.len (fun j d=>by
     obtain ⟨a,ha,hc,_⟩:=J.aU.cells j d;exact ⟨a,ha,hc⟩) (by have:=J.aU.many; omega) u.aU[b]) ?_
    refine ⟨⟨C e05,trivial⟩,?_⟩;refine aw ?_ ?_<;>intro r
    ·refine bS rfl ?_;refine ay ((sd.p,sd.l,sd.c),()) (C e05) (ao ?_);refine bS V ?_;refine ay (u.aU[b],()) (aM e05 aj _ _ W) (ao ?_);refine tA b5 e05 (aq9 _) ⟨22,i3,u.aU[b]⟩ fun h' m=>⟨?_,m⟩
     have hda:zF us i3=some (i3,u.aU[b]):=by
      unfold zF;rw [t,dk9,lQ (fun s=>(us.take i3).any fun v=>gP v.aU s) u.aU b f (fun j d=>I j d ad) (by
       rw [dz9];exact ⟨us[x],List.mem_take_iff_getElem.2 ⟨x,ad,rfl⟩,r⟩)]
      rfl
     unfold fS FL;rw [ac9 n,ac9 A,F,kq _ _ _ i3 o G hda]
    ·refine aG (cs:=cI) (((x+1:Nat):Int),()) (i3-(x+1)) rfl ad (as9 (fun z=>[Value.int .i64 z]) hw5) ⟨x+1,rfl,rfl,ad,E,fun j d Q=>?_⟩
     by_cases e:j=x
     ·subst e; exact r
     ·exact X j ad Q
   ·have:x=i3:=ad
    subst this;refine aG (cs:=cI) (((b+1:Nat):Int),()) (u.aU.length-(b+1)) rfl ad (as9 (fun z=>[Value.int .i64 z]) hw4) ⟨b+1,rfl,rfl,ad,E,fun j d Q=>?_⟩
    by_cases e:j=b
    ·subst e;rw [List.any_eq_false];intro w hw;obtain ⟨j5,hj5,rfl⟩:=List.mem_take_iff_getElem.1 hw;rw [X j5 ad ad]
     simp
    ·exact I j ad Q
  ·have:b=u.aU.length:=ad
   subst this;refine aG (cs:=cI) (((i3+1:Nat):Int),()) (us.length-(i3+1)) rfl ad (as9 (fun z=>[Value.int .i64 z]) hw3) ⟨i3+1,rfl,rfl,ad,H,fun j d=>?_⟩
   by_cases e:j=i3
   ·subst e;unfold zF;rw [t,dk9,oL _ u.aU fun j d=>I j d d] <;> rfl
   ·exact G j ad
 have q3:=av9 q3;have Z:FL us=none:=ka _ _ fun j d=>G j ad
 refine aT (cs:=cI) (fun y k h'=>∃ i:Nat,y.1=(i:Int)/\k=us.length-i/\i<=us.length/\Ext h1 h'/\∀ j,j<i->Ck us j=none) ((0:Int),()) us.length rfl
  ⟨0,rfl,rfl,ad,M,fun j d=>absurd d ad⟩ ?_
 rintro ⟨n4,⟨⟩⟩ k h4 ⟨b,hi,rfl,S,H,K⟩;simp only at hi;subst hi;refine ao ?_;have hw4:=ic b;have e04:=L.trans H;have b4:=N.an H aj;refine aR ?_ ?_<;>intro q4
 ·have f:b<us.length:=ad
  have t:us[b]?=some us[b]:=ad9 f;refine aK (EI (c:=c) (v.an e04) sz f) ?_;rintro _ h5 ⟨rfl,E⟩;refine ⟨(rE us b (cR us[b]),()),rfl,ao ?_⟩;rw [Ah];have D:Ck us b=if (rE us b (cR us[b])).data.toList=[] then none else some (b,rE us b (cR us[b])):=by
   unfold Ck;rw [t,dk9]
  refine aw ?_ ?_<;>intro r
  ·have r:¬ (rE us b (cR us[b])).data.toList=[]:=by simpa using r
   rw [ac9 r] at D;refine tA (b4.an E aj) (e04.trans E) (aq9 _) ⟨23,b,rE us b (cR us[b])⟩ fun h' m=>⟨?_,m⟩
   unfold fS PK;rw [ac9 n,ac9 A,F,Z,kq _ _ _ b f K D]
  ·have r:(rE us b (cR us[b])).data.toList=[]:=by simpa using r
   rw [ag9 r] at D;refine aG (cs:=cI) (((b+1:Nat):Int),()) (us.length-(b+1)) rfl ad (as9 (fun z=>[Value.int .i64 z]) hw4) ⟨b+1,rfl,rfl,ad,H.trans E,fun j d=>?_⟩
   by_cases e:j=b
   ·subst e; exact D
   ·exact K j ad
 ·refine tA b4 e04 (aq9 _) ⟨0,0,dW⟩ fun h' m=>⟨?_,m⟩
  unfold fS PK;rw [ac9 n,ac9 A,F,Z,ka _ _ fun j d=>K j ad]
theorem Q7 (n:Nat):∀ (l:List Xaa) (w:LW) (s:Xaa),(l.foldl (wj n) w).gl s=if gP l s=true then some n else w.gl s
 | [],w,s=>by simp [gP]
 | a::l,w,s=>by
  rw [bt9,Q7 n l (wj n w a) s];have h1:gP (a::l) s=(decide (a=s) || gP l s):=by unfold gP; rw [List.any_cons]
  have h2:(wj n w a).gl s=if a=s then some n else w.gl s:=by
   show dT w.gl a n s=_;unfold dT
   by_cases h:s=a
   ·rw [ag9 h,ag9 h.symm]
   ·rw [ac9 h,ac9 fun e=>h e.symm]
  rw [h1,h2]
  by_cases b:a=s <;> by_cases hl:gP l s=true <;> simp [b,hl]
def Sq (us:List cv) (s:Xaa):Option Nat:=us.findIdx? fun u=>gP u.aU s
def QO (us:List cv) (s:Xaa):(Sq us s).isSome=us.any fun u=>gP u.aU s:=by
 unfold Sq;rw [List.findIdx?_isSome]
theorem Ga (us:List cv):∀ (k n:Nat) (w:LW),us.length-n=k->n<=us.length->(∀ s,w.gl s=Sq (us.take n) s)->(∀ j,j<n->zF us j=none) ->
  match lr n (us.drop n) w with
  | .error q=>FL us=some q
  | .ok w'=>FL us=none/\∀ s,w'.gl s=Sq us s
 | 0,n,w,hk,hn,c,d=>by
  have:n=us.length:=ad
  subst this;rw [de9];rw [bj9] at c;exact ⟨ka _ _ d,c⟩
 | k+1,n,w,hk,hn,c,d=>by
  have a:n<us.length:=ad
  rw [aw9 a];unfold lr;have f:us[n]?=some us[n]:=ad9 a;have o:(fun g=>(w.gl g).isSome)=fun g=>(us.take n).any fun v=>gP v.aU g:=by
   funext g
   rw [c,QO]
  have b:zF us n=(us[n].aU.find? fun g=>(w.gl g).isSome).map fun s=>(n,s):=by
   unfold zF;rw [f,dk9,o]
  cases h:us[n].aU.find? fun g=>(w.gl g).isSome with
  | some g =>
   rw [h] at b;exact kq _ _ _ n a d b
  | none =>
   rw [h] at b;refine Ga us k (n+1) (Hb n us[n] w) ad a (fun s=>?_) (fun j t=>?_)
   ·unfold Hb;rw [Q7,ae9 a];unfold Sq;rw [ea9];have h0:=c s;unfold Sq at h0;rw [<- h0]
    by_cases hi:gP us[n].aU s=true
    ·rw [ag9 hi];have p:s∈us[n].aU:=by
      unfold gP at hi;obtain ⟨x,i,l⟩:=dz9.1 hi;rw [<- ah9 l]; exact i
     have:=List.find?_eq_none.1 h s p
     have m:w.gl s=none:=by
      cases r:w.gl s with
      | none=>rfl
      | some q=>rw [r] at this; exact absurd rfl this
     rw [m];simp [List.findIdx?_cons,hi,List.length_take];omega
    ·rw [ac9 hi];cases w.gl s <;> simp [List.findIdx?_cons,hi]
   ·by_cases e:j=n
    ·subst e; exact b
    ·exact d j ad
theorem yE (s:Xaa) (n:Nat):∀ (us:List cv) (m:Nat),(n,s)∈(cy m us).map Ao↔∃ u,m<=n/\us[n-m]?=some u/\(s∈eK u.text\/s∈eK u.data)
 | [],m=>by simp [cy]
 | u::us,m=>by
  rw [cy,ao9,ar9,yE s n us (m+1)];unfold Hv;rw [ao9,xF,xF,ar9,an9,an9];constructor
  ·rintro ((⟨x,b,c⟩ | ⟨x,b,c⟩) | ⟨v,h1,h2,a⟩)
   ·cases c;exact ⟨u,aq9 _,aj,.inl b⟩
   ·cases c;exact ⟨u,aq9 _,aj,.inr b⟩
   ·refine ⟨v,ad,?_,a⟩;rw [show n-m=(n-(m+1))+1 from ad];exact h2
  ·rintro ⟨v,h1,h2,a⟩
   by_cases e:n=m
   ·subst e;rw [ex9] at h2;cases h2;rcases a with a | a
    ·exact .inl (.inl ⟨s,a,rfl⟩)
    ·exact .inl (.inr ⟨s,a,rfl⟩)
   ·refine .inr ⟨v,ad,?_,a⟩;rw [show n-m=(n-(m+1))+1 from ad] at h2;exact h2
theorem A4 (s:Xaa) (n:Nat):∀ (us:List cv) (m:Nat),(n,s)∈(eJ m us).map jy↔∃ u,m<=n/\us[n-m]?=some u/\s∈u.bj.map (·.1)
 | [],m=>by simp [eJ]
 | u::us,m=>by
  rw [eJ,ao9,ar9,A4 s n us (m+1),bf9];constructor
  ·rintro (h | ⟨v,h1,h2,a⟩)
   ·obtain ⟨e,c,b⟩:=an9.1 h;cases b;exact ⟨u,aq9 _,aj,an9.2 ⟨e,c,rfl⟩⟩
   ·refine ⟨v,ad,?_,a⟩;rw [show n-m=(n-(m+1))+1 from ad];exact h2
  ·rintro ⟨v,h1,h2,a⟩
   by_cases e:n=m
   ·subst e;rw [ex9] at h2;cases h2;obtain ⟨x,d,rfl⟩:=an9.1 a;exact .inl (an9.2 ⟨x,d,rfl⟩)
   ·refine .inr ⟨v,ad,?_,a⟩;rw [show n-m=(n-(m+1))+1 from ad] at h2;exact h2
def zq (l:List Ky) (k:Ky):(nX l k).isSome=true↔k∈l:=by
 constructor
 ·intro h;apply ew9;intro hk;rw [pa.2 hk] at h;cases h
 ·intro h;obtain ⟨i,hi⟩:=Cp h;rw [hi] <;> rfl
def Tb {us:List cv} (i0:WI H (cy 0 us) ((eJ 0 us).map jy)) {n:Nat} {u:cv} (a:us[n]?=some u) (s:Xaa):H.has (n,s)=true↔s∈fR u:=by
 unfold LW.has;rw [i0.num,i0.sK,Bool.or_eq_true,zq,zq,yE,A4];unfold fR;rw [ar9,ar9];simp only [Nat.sub_zero,Nat.zero_le,true_and];constructor
 ·rintro (⟨v,hv,h⟩ | ⟨v,hv,h⟩)
  ·rw [a] at hv; cases hv; exact .inl h
  ·rw [a] at hv; cases hv; exact .inr h
 ·rintro (h | h)
  ·exact .inl ⟨u,a,h⟩
  ·exact .inr ⟨u,a,h⟩
def Ou {us:List cv} (i0:WI H (cy 0 us) ((eJ 0 us).map jy)) (a:∀ s,H.gl s=Sq us s) {n:Nat} (hn:n<us.length) (s:Xaa):H.own n s=(jQ us n s).map fun o=>(o,s):=by
 have hu:=ad9 hn;have h1:=Tb i0 hu s;have h2:gP (fR us[n]) s=true↔s∈fR us[n]:=by
  unfold gP;rw [dz9];constructor
  ·rintro ⟨x,b,c⟩;rw [<- ah9 c]; exact b
  ·intro h;exact ⟨s,h,aj9 rfl⟩
 unfold LW.own jQ;rw [hu,fr9,a s]
 by_cases h:s∈fR us[n]
 ·rw [ag9 (h1.2 h),ag9 (by rw [h2.2 h])] <;> rfl
 ·rw [ac9 fun x=>h (h1.1 x),ac9 fun x=>h (h2.1 (bb9 x))] <;> rfl
theorem DN (n sec:Nat) (x:cC):∀ (l:List cC) (i:Nat),qC n sec i (l++[x])=qC n sec i l++if x.kind=1 then [⟨n,sec,i+l.length,x.name⟩] else []
 | [],i=>by simp [qC]
 | y::l,i=>by
  simp only [List.cons_append,qC,List.length_cons];rw [DN n sec x l (i+1),show i+1+l.length=i+(l.length+1) from ad,ay9]
structure DG (h:Hp) (g:Nat) (su lb st sd:bU) (L:List Lb):Prop where
 box:bC h g 45 [su.v,lb.v,st.v,sd.v]
 qW:SL h (g+1) 178 4 lb.p lb.l lb.c (L.map QV)
def DG.an {h h':Hp} {g:Nat} {su lb st sd:bU} {L:List Lb} (s:DG h g su lb st sd L) (e:Ext h h'):DG h' g su lb st sd L:=⟨s.box.an e aj,s.qW.bK e aj⟩
def Wy:Tryz.prog.underlying 42=some (.slice 178):=ax
def YN:(Tryz.prog.info? 178).map (fun i=>(i.zero,i.size,i.bytes))=some (some (.agg #[vI 0,vI 0,vI 0,.string ⟨#[]⟩]),4,40):=ax
def FQ {h0:Hp} {g:Nat} {su lb st sd:bU} {L:List Lb} (N:h0.size<=g) (e0:Ext h0 O) (s:DG O g su lb st sd L) {l c:Nat} {xs:List cC} (v:FJ h0 U l xs) (P:L.length+xs.length<=2^40) (n sec:Nat) :
  HC Xaz 44 #[.pointer (some ⟨g,0,none⟩),vI (n:Int),vI (sec:Int),.slice U l c] O fun w h'=>w=.tuple #[]/\Ext h0 h'/\O.size<=h'.size/\∃ f,DG h' g su f st sd (L++qC n sec 0 xs):=by
 refine bd (args:=[.pointer (some ⟨g,0,none⟩),vI (n:Int),vI (sec:Int),.slice U l c]) mixed Tryz.func44 ax (iZ (some ⟨g,0,none⟩) n sec U l c) ?_;unfold fB aY bh bt aI bn bG aQ;have hll:=v.len;refine aT (cs:=cI) (fun y k h'=>∃ (i:Nat) (f:bU),y.1=(i:Int)/\k=xs.length-i/\i<=xs.length/\Ext h0 h'/\O.size<=h'.size/\DG h' g su f st sd (L++qC n sec 0 (xs.take i))) ((0:Int),()) xs.length rfl
  ⟨0,lb,rfl,rfl,ad,e0,aq9 _,by simpa [qC] using s⟩ ?_
 rintro ⟨Q,⟨⟩⟩ k h1 ⟨i,b,hi,rfl,I,t,z1,d⟩;simp only at hi;subst hi;refine ao ?_;have hw:=ic i;refine aR ?_ ?_<;>intro q
 ·have u:i<xs.length:=ad
  have B:xs.take (i+1)=xs.take i++[xs[i]]:=ae9 u;have hsn:=DN n sec xs[i] (xs.take i) 0;rw [<- B,az9,dc9 ad,bu9] at hsn;obtain ⟨a,pp,R,S,rfl,hc,_⟩:=v.cells i u;generalize xs[i]=x at hc hsn;refine bS rfl ?_;rw [cr i];refine ay (x.kind,()) ⟨(aM t aj _ _ hc).1,trivial⟩ (ao ?_);refine aw ?_ ?_<;>intro r
  ·have r:x.kind=1:=by simpa using r
   rw [ag9 r] at hsn;refine bm rfl ?_;rw [aE];refine az d.box ((b.p,b.l,b.c),()) (ao ?_);have m:∀ {h':Hp},Ext h0 h'->aH h' ((a.add (i*10)).add 1) 0 [.string x.name]:=fun e=>⟨by rw [add_add]; exact (aM e aj _ _ hc).2.1,trivial⟩
   refine bS rfl ?_;refine ay (x.name,()) (m t) (ao ?_);have C:b.l=(L++qC n sec 0 (xs.take i)).length:=by have:=d.qW.1; rwa [ab9] at this
   have hla:=sy n sec (xs.take i) 0;rw [af9] at C;rw [az9] at hla;have hgs:=d.box.lt;refine gR (vs:=QV ⟨n,sec,i,x.name⟩) Wy YN rfl ad ad (OO _ _ _ _) rfl rfl d.qW ad ad ad (fun h' e=>⟨m (t.trans e),(d.box.an e aj).cells _ rfl,trivial⟩) ?_;intro p' c' h2 F D J;have A:∀ j,j∈aJ b.p->h0.size<=j/\g<j:=fun j o=>by have:=(d.qW.cB o).1; omega
   have G:Ext h0 h2:=Ch.trans t D (fun j o hl=>by have:=A j o; omega);have b2:=d.box.an D (fun o=>by have:=A _ o; omega);have z2:=D.size;refine ⟨⟨m G,trivial⟩,bm rfl ?_⟩;rw [aE];refine bR b2 ?_;intro h3 E H z3;have E:bC h3 g 45 [su.v,(⟨p',b.l+1,c'⟩:bU).v,st.v,sd.v]:=E;have K:Ext h0 h3:=bY G H;refine aG (cs:=cI) (((i+1:Nat):Int),()) (xs.length-(i+1)) rfl ad (as9 (fun z=>[Value.int .i64 z]) hw) ⟨i+1,⟨p',b.l+1,c'⟩,rfl,rfl,ad,K,ad,E,?_⟩;rw [hsn,<- ay9,ao9];exact F.bK H (fun j o M=>by have:=(F.cB o).1; simp at M; omega)
  ·have r:¬ x.kind=1:=by simpa using r
   rw [ac9 r,bz9] at hsn;refine aG (cs:=cI) (((i+1:Nat):Int),()) (xs.length-(i+1)) rfl ad (as9 (fun z=>[Value.int .i64 z]) hw) ⟨i+1,b,rfl,rfl,ad,t,z1,by rw [hsn]; exact d⟩
 ·have:i=xs.length:=ad
  subst this;rw [bj9] at d;exact ⟨rfl,t,z1,b,d⟩
def Ih (u:Nat):Lib.nDigits u<=u+1:=by
 induction u using Nat.strongRecOn with
 | _ u a =>
  rw [Lib.nDigits];split
  ·omega
  ·have:=a (u / 10) ad
   omega
def Dv (n:Nat):(eO n).size<=n+1:=by
 have:(eO n).size=(Lib.decDigits n).length:=rfl
 rw [this,Lib.decDigits_length];exact Ih n
def W4 (L:List Lb) (o:Nat) (s:Xaa):Option Nat:=L.findIdx? fun x=>decide (x.u=o) && decide (x.n=s)
def y5 (L:List Lb) (o:Nat) (s:Xaa):Xaa:=match W4 L o s with
 | some i=>⟨#[76]⟩++eO i
 | none=>((⟨#[69]⟩++eO o)++⟨#[95]⟩)++s
def dO (us:List cv) (L:List Lb) (n:Nat) (s:Xaa):Xaa:=y5 L ((jQ us n s).getD 0) s
def Uz {us:List cv} {n o:Nat} (h:jQ us n V=some o):o<us.length:=by
 unfold jQ at h;split at h
 ·rename_i a;cases h;cases b:us[n]? with
  | none=>rw [b] at a; cases a
  | some u=>exact (ax9.1 b).1
 ·rw [bd9] at h;exact h.1
def VW {L:List Lb} {o i:Nat} (hi:i<L.length) (h:∀ j,(a:j<i)->¬ ((L[j]'ad).u=o/\(L[j]'ad).n=V)) (h1:L[i].u=o) (h2:L[i].n=V):W4 L o V=some i:=by
 unfold W4;rw [bd9];refine ⟨hi,by simp [h1,h2],fun j a=>?_⟩
 have:=h j a
 simpa using this
def Nx {L:List Lb} {o:Nat} (h:∀ j,(a:j<L.length)->¬ (L[j].u=o/\L[j].n=V)):W4 L o V=none:=by
 unfold W4;rw [ca9];intro x b;obtain ⟨j,a,rfl⟩:=bg9 b
 have:=h j a
 simpa using this
def Kw {g:Nat} {su lb st sd:bU} {L:List Lb} (s:DG O g su lb st sd L) {us:List cv} (v:xA O su.p su.l us) (sz:Ng us) {n:Nat} (hn:n<us.length) (M:L.length<=2^40) {a:Xaa} {o:Nat} (A:jQ us n a=some o) (N:a.size<=2^60) :
  HC Xaz 45 #[.pointer (some ⟨g,0,none⟩),vI (n:Int),.string a] O fun w h'=>w=.string (dO us L n a)/\Ext O h':=by
 refine bd (args:=[.pointer (some ⟨g,0,none⟩),vI (n:Int),.string a]) mixed Tryz.func45 ax (jt (some ⟨g,0,none⟩) n a) ?_;unfold fH aY bh bt aI cQ eG cm aQ;have hol:=Uz A;have hmany:=sz.many;refine bm rfl ?_;refine az s.box ((su.p,su.l,su.c),()) (ao ?_);refine aK (GL (c:=su.c) v sz hn a) ?_;rintro _ h1 ⟨rfl,B⟩;rw [A];refine ⟨((o:Int),()),rfl,ao ?_⟩;have s1:=s.an B;have C:dO us L n a=y5 L o a:=by unfold dO; rw [A]; rfl
 rw [C];have H:lb.l=L.length:=by have:=s.qW.1; rwa [ab9] at this
 refine aT (cs:=Gb) (fun y k h'=>∃ i:Nat,y.2.1=(i:Int)/\k=L.length-i/\i<=L.length/\h'=h1/\∀ j,j<i->(d:j<L.length)->¬ (L[j].u=o/\L[j].n=a)) ((⟨#[]⟩:Xaa),(0:Int),()) L.length rfl
  ⟨0,rfl,rfl,ad,rfl,fun j d=>absurd d ad⟩ ?_
 rintro ⟨D,P,⟨⟩⟩ k h2 ⟨i,hi,rfl,I,rfl,f⟩;simp only at hi;subst hi;refine ao ?_;have hw:=ic i;refine bm rfl ?_;rw [aE];refine az s1.box ((lb.p,lb.l,lb.c),()) (ao ?_);refine aR ?_ ?_<;>intro q
 ·have m:i<L.length:=ad
  refine bm rfl ?_;rw [aE];refine az s1.box ((lb.p,lb.l,lb.c),()) (ao ?_);obtain ⟨Q,x,hc⟩:=SL.cells s1.qW (i:=i) (by rw [ab9]; exact m);rw [am9] at hc;refine bS x ?_;rw [cr i];refine ay ((L[i].u:Int),()) ⟨hc.1,trivial⟩ (ao ?_);have b:¬ (L[i].u=o/\L[i].n=a)->T.again 0 [.string D,vI (IntKind.wrap .i64 ((i:Int)+1))] [Jl (fun (y:qF (flat [(false,[TypeDesc.string]),(false,[TypeDesc.int .i64])])) k h'=>∃ i:Nat,y.2.1=(i:Int)/\k=L.length-i/\i<=L.length/\h'=h2/\∀ j,j<i->(d:j<L.length)->¬ (L[j].u=o/\L[j].n=a)) (L.length-i)] (fun w h'=>w=.string (y5 L o a)/\Ext O h') h2:=by
   intro E;refine aG (cs:=Gb) (D,((i+1:Nat):Int),()) (L.length-(i+1)) rfl ad (as9 (fun z=>[Value.string D,Value.int .i64 z]) hw) ⟨i+1,rfl,rfl,ad,rfl,fun j d J=>?_⟩
   by_cases e:j=i
   ·subst e; exact E
   ·exact f j ad J
  refine aw ?_ ?_<;>intro r
  ·have r:L[i].u=o:=by
    have:((L[i].u:Nat):Int)=(o:Int):=by simpa using r
    omega
   refine bm rfl ?_;rw [aE];refine az s1.box ((lb.p,lb.l,lb.c),()) (ao ?_);refine bS x ?_;refine ay (L[i].n,()) ⟨by rw [add_add]; exact hc.2.2.2.1,trivial⟩ ?_;refine ao ?_;rw [rJ];refine aR ?_ ?_<;>intro t
   ·refine aK (tL (n:=i) ad) ?_;rintro _ K ⟨rfl,F⟩;refine ⟨(eO i,()),rfl,ao ?_⟩
    have:=Dv i
    refine dC ad ?_;refine ⟨?_,B.trans F⟩;unfold y5;rw [VW m (fun j d=>f j d ad) r t]
   ·exact b fun G=>t G.2
  ·refine b fun G=>?_
   rw [G.1] at r;simp at r
 ·have:i=L.length:=ad
  subst this;refine aK (tL (n:=o) ad) ?_;rintro _ K ⟨rfl,F⟩;refine ⟨(eO o,()),rfl,ao ?_⟩;have hd:=Dv o;have h1:(⟨#[69]⟩++eO o:Xaa).size=1+(eO o).size:=eh9 ..;have h2:((⟨#[69]⟩++eO o)++⟨#[95]⟩:Xaa).size=(⟨#[69]⟩++eO o:Xaa).size+1:=eh9 ..;refine dC ad (dC (by rw [h1]; omega) (dC (by rw [h2,h1]; omega) ?_));refine ⟨?_,B.trans F⟩;unfold y5;rw [Nx fun j d=>f j d d]
def vr (f:Xaa->Xaa) (s:Xaa):Option bM:=some (mC (f s))
def ja (us:List cv) (L:List Lb) (n:Nat) (x:bM):bM:=dz (vr (dO us L n)) x
def Uj (s:Xaa):Nf (mC s).ah:=⟨by simp [mC],by simp [mC]⟩
def KZ {f:Xaa->Xaa}:∀ s y,vr f s=some y->Nf y.ah:=by
 intro s y a;cases a;exact Uj _
def Ww (f:Xaa->Xaa) {t:Xaa × Nat} (h:t.2≠0/\t.2<4294967296):JR (vr f) t=⟨[(f t.1,t.2)],0⟩:=by
 unfold JR vr vL mC fv;simp only [List.filterMap_cons,List.filterMap_nil,Nat.one_mul,Nat.zero_mul,Nat.zero_mod];rw [dx9 h.2,ac9 h.1]
def Gn {g:Nat} {su lb st sd:bU} {L:List Lb} (s:DG O g su lb st sd L) {us:List cv} (v:xA O su.p su.l us) (sz:Ng us) {n:Nat} (hn:n<us.length) (hL:L.length<=2^40) {m d:Nat} (u:iD O U m Y.ah)
  (V:Nf Y.ah) (J:Y.num<4294967296) (hlx:Y.ah.length<=2^30) (ho:∀ t,t∈Y.ah->∃ o,jQ us n t.1=some o) (hs:∀ t,t∈Y.ah->t.1.size<=2^60) :
  HC Xaz 46 #[.pointer (some ⟨g,0,none⟩),vI (n:Int),ik U m d Y] O fun w h'=>Ext O h'/\∃ p' l' c',w=ik p' l' c' (ja us L n Y)/\SL h' O.size 64 2 p' l' c' ((ja us L n Y).ah.map dp):=by
 refine bd (args:=[.pointer (some ⟨g,0,none⟩),vI (n:Int),.agg #[.slice U m d,.int .u32 Y.num]]) mixed Tryz.func46 ax (iY (some ⟨g,0,none⟩) n U m d Y.num) ?_;unfold fw aY bh bt aI eG bP bn aF bg aQ;have hmm:=u.len;refine br ?_;intro h1 b1 e1 z1;refine br ?_;intro h2 b2 e2 z2;have b1:=b1.an e2 aj;rw [aE];refine az b1 ((Y.num:Int),()) (ao ?_);refine br ?_;intro h3 b3 e3 z3;refine bR b3 ?_;intro h4 P k4 z4;have P:bC h4 h2.size 53 [.slice none 0 0,.int .u32 (Y.num:Int)]:=P;have B:Ext h2 h4:=bY e3 k4;have b1:=b1.an B aj;have b2:=b2.an B aj;have e04:=(e1.trans e2).trans B;have hb4:=P.lt;have hz04:=e04.size;refine aT (cs:=cI) (fun y w h'=>∃ (i:Nat) (U:Xac) (m d:Nat),y.1=(i:Int)/\i<=Y.ah.length/\w=Y.ah.length-i/\Ch [h2.size] h4 h'/\bC h' h2.size 53 [.slice U m d,.int .u32 (((Y.ah.take i).foldl (gn (vr (dO us L n))) ⟨[],Y.num⟩).num:Int)] /\
  SL h' h4.size 64 2 U m d (((Y.ah.take i).foldl (gn (vr (dO us L n))) ⟨[],Y.num⟩).ah.map dp)) ((0:Int),()) Y.ah.length rfl ⟨0,none,0,0,rfl,ad,ad,Ch.refl _ _,P,SL.nil _ _ _ _⟩ ?_
 rintro ⟨n8,⟨⟩⟩ w h5 ⟨i,D,E,F,hi,hile,rfl,K,G,H⟩;simp only at hi;subst hi;refine ao ?_;have b15:=b1.an K (by simp; omega);have hz5:=K.size;have f:Ext O h5:=bY e04 K;have u5:=u.an f aj;refine az b15 ((U,m,d),()) (ao ?_);have hw:=ic i;have hacc:=CM (of:=vr (dO us L n)) KZ V J i;have W:((Y.ah.take i).foldl (gn (vr (dO us L n))) ⟨[],Y.num⟩).ah.length<=Y.ah.length:=by
  rw [hacc]
  have:=A6 (eP (vr (dO us L n)) ⟨Y.ah.take i,Y.num⟩) (S:=Y.ah.map fun t=>dO us L n t.1) (fun t ht=>by
   obtain ⟨u',X,O | ⟨y,w,hy,hw,he⟩⟩:=A5 ht
   ·cases O.1
   ·cases hy;simp [mC] at hw;subst hw;rw [<- he];exact an9.2 ⟨u',cv9 X,rfl⟩)
  rwa [ab9] at this
 refine aR ?_ ?_<;>intro g1
 ·have b:i<Y.ah.length:=ad
  have c:(Y.ah.take (i+1)).foldl (gn (vr (dO us L n))) ⟨[],Y.num⟩=gn (vr (dO us L n)) ((Y.ah.take i).foldl (gn (vr (dO us L n))) ⟨[],Y.num⟩) Y.ah[i]:=by
   rw [ae9 b,ch9] <;> rfl
  obtain ⟨a,rfl,hc⟩:=u5.cells i b;have htm:=al9 b;generalize Y.ah[i]=t at hc c htm;generalize hA:(Y.ah.take i).foldl (gn (vr (dO us L n))) ⟨[],Y.num⟩=A at G H W c hacc;obtain ⟨c1,c2⟩:=de hc;obtain ⟨o,Z⟩:=ho t htm;refine az G ((D,E,F),(A.num:Int),()) (ao ?_);refine az b15 ((some a,m,d),()) (ao ?_);refine bS rfl ?_;rw [cr i];refine ay (t.1,()) c1 (ao ?_);refine az b15 ((some a,m,d),()) (ao ?_);refine bS rfl ?_;refine ay ((t.2:Int),()) c2 (ao ?_);refine aK (Kw (s.an f) (v.an f) sz hn hL Z (hs t htm)) ?_;rintro _ h6 ⟨rfl,e6⟩;refine ⟨(dO us L n t.1,()),rfl,ao ?_⟩;have C:∀ {h':Hp},Ext h5 h'->aH h' (a.add (i*2)) 0 [.string t.1]/\aH h' ((a.add (i*2)).add 1) 0 [.int .u32 (t.2:Int)]/\aH h' ⟨O.size,0,none⟩ 0 [.slice (some a) m d]/\aH h' ⟨h2.size,0,none⟩ 0 [.slice D E F,.int .u32 (A.num:Int)]:=fun e =>
   ⟨aM e aj _ _ c1,aM e aj _ _ c2,(b15.an e aj).cells _ rfl,(G.an e aj).cells _ rfl⟩
  obtain ⟨Q,M,r,R⟩:=C e6;refine ⟨⟨M,r,r,R,trivial⟩,?_⟩;refine nS Jb uq ad ad (IX _ _) ?_;intro h7 I e7 z7;obtain ⟨Q,M,r,R⟩:=C (e6.trans e7);refine ⟨⟨M,r,Q,r,R,trivial⟩,?_⟩;have e57:=e6.trans e7;have z57:=e57.size;refine aK (GB (x:=A) (y:=⟨[(dO us L n t.1,t.2)],0⟩) (d:=1) (H.bK e57 aj).NF (Yk I) (fun j k=>by have:=(H.cB k).2; omega) (fun j k=>by simp [aJ] at k; have:=I.lt; omega) (by show A.ah.length+1<=_; omega)) ?_;rintro _ h8 ⟨e8,p',l',c',rfl,s8⟩;refine ⟨((p',l',c'),((j3 A ⟨[(dO us L n t.1,t.2)],0⟩).num:Int),()),rfl,ao ?_⟩;have e58:=e57.trans e8;obtain ⟨Q,M,r,R⟩:=C e58;refine ⟨⟨M,r,Q,r,trivial⟩,?_⟩;refine bR (G.an e58 aj) ?_;intro h9 b9 k9 z9;have b9:bC h9 h2.size 53 [.slice p' l' c',.int .u32 ((j3 A ⟨[(dO us L n t.1,t.2)],0⟩).num:Int)]:=b9;have N:gn (vr (dO us L n)) A t=j3 A ⟨[(dO us L n t.1,t.2)],0⟩:=by
   unfold gn;rw [Ww _ (V.2 t htm)]
  rw [N] at c;refine aG (cs:=cI) (((i+1:Nat):Int),()) (Y.ah.length-(i+1)) rfl ad (as9 (fun z=>[Value.int .i64 z]) hw) ⟨i+1,p',l',c',rfl,ad,rfl,Ch.trans (Ch.trans K e58 aj) k9 (fun j k _=>k),by rw [c]; exact b9,?_⟩;rw [c];exact (s8.bK k9 (fun j k=>by have:=(s8.cB k).1; simp; omega)).mono ad
 ·have hi:i=Y.ah.length:=ad
  subst hi;rw [bj9,Fx KZ V J] at G H;refine az G ((D,E,F),((ja us L n Y).num:Int),()) (ao ?_);refine bR (b2.an K (by simp; omega)) ?_;intro h7 I k7 z7;have I:bC h7 h1.size 53 [.slice D E F,.int .u32 ((ja us L n Y).num:Int)]:=I;refine az I ((D,E,F),((ja us L n Y).num:Int),()) ?_;exact ⟨bY f k7,D,E,F,rfl,(H.bK k7 (fun j k=>by have:=(H.cB k).1; simp; omega)).mono ad⟩
structure Rf (us:List cv) (n:Nat) (x:bM):Prop where
 nf:Nf x.ah
 num:x.num<4294967296
 len:x.ah.length<=2^30
 own:∀ t,t∈x.ah->∃ o,jQ us n t.1=some o
 sz:∀ t,t∈x.ah->t.1.size<=2^60
def Lo (us:List cv) (L:List Lb) (n:Nat) (x:bM):Nf (ja us L n x).ah:=eP _ _
def Gg {us:List cv} {L:List Lb} {n:Nat} (h:Y.num<4294967296):(ja us L n Y).num<4294967296:=tO _ _ _ h
def GW {us:List cv} {L:List Lb} {n:Nat} {t:Xaa × Nat} (ht:t∈(ja us L n Y).ah):∃ u,u∈Y.ah/\t.1=dO us L n u.1:=by
 obtain ⟨c,a,h | ⟨y,w,d,b,e⟩⟩:=A5 ht
 ·cases h.1
 ·cases d;simp [mC] at b;subst b;exact ⟨c,a,e.symm⟩
def xU (us:List cv) (L:List Lb) (es:List cV) (n:Nat) (x:cC):cC:={ x with e:=dz (cG es) (ja us L n x.e) }
structure ZI (h0 h':Hp) (p:Xac) (l c:Nat) (ws:List (bU × cC)):Prop where
 out:SL h' h0.size 55 10 p l c (ws.map ub)
 fC:∀ w,w∈ws->iD h' w.1.p w.1.l w.2.e.ah
 low:∀ w,w∈ws->w.2.e.ah≠[]->∀ i,i∈aJ w.1.p->i<h'.size/\i∉aJ p
def LL {a:Xax} {v:Xab} (hc:ig O a=some v):a.block<O.size:=by
 unfold ig at hc;cases b:O[a.block]? with
 | none=>simp [b] at hc
 | some o=>exact eV b
def Sp {l:Nat} {us:dt} (v:iD O U l us) (h0:us≠[]):∀ i,i∈aJ U->i<O.size:=by
 intro i hi;cases us with
 | nil=>exact absurd rfl h0
 | cons u us =>
  obtain ⟨a,rfl,hc⟩:=v.cells 0 aj
  have:i=a.block:=by simpa [aJ] using hi
  subst this
  have:=LL hc.1
  rwa [iO,iO] at this
def LZ {ws:List Nat} {h':Hp} {l:Nat} {us:dt} (v:iD O U l us) (k:Ch ws O h') (a:us≠[]->∀ i,i∈aJ U->i∉ws):iD h' U l us:=by
 by_cases h0:us=[]
 ·subst h0;exact ⟨v.len,fun i hi=>absurd hi aj⟩
 ·exact v.an k (a h0)
def DP {g:Nat} {su lb st sd:bU} {L:List Lb} (s:DG O g su lb st sd L) {us:List cv} (v:xA O su.p su.l us) (sz:Ng us) {n:Nat} (hn:n<us.length) (hL:L.length<=2^40) {l c:Nat} {xs:List cC} (vi:FJ O U l xs)
  (hxl:xs.length<=2^20) (hxs:∀ x,x∈xs->Rf us n x.e)
  {m d:Nat} (ve:uV O b m es) (hb:∀ e,e∈es->∀ i,i∈aJ e.p->i<O.size) (hm:es.length<=2^40) {S:List Xaa} (hS:S.length<=2^30) (R:∀ e,e∈es->ue S e.x) (hSw:∀ x,x∈xs->∀ t,t∈x.e.ah->dO us L n t.1∈S) :
  HC Xaz 48 #[.pointer (some ⟨g,0,none⟩),vI (n:Int),.slice U l c,.slice b m d] O fun w h'=>Ext O h'/\∃ p' l' c' ws,w=.slice p' l' c'/\WH h' O.size p' l' c' ws/\ws.map (·.2)=xs.map (xU us L es n):=by
 refine bd (args:=[.pointer (some ⟨g,0,none⟩),vI (n:Int),.slice U l c,.slice b m d]) mixed Tryz.func48 ax (iJ (some ⟨g,0,none⟩) n U l c b m d) ?_;unfold fk aY bh bt aI bP bn aF aQ;obtain ⟨N,V,vd,hit⟩:=ED vi;have hl0:N.length=xs.length:=by rw [<- V,ab9]
 have hll:=vd.len;refine qG (e:=55) (z:=.agg iz.toArray) (sz:=10) (by':=104) Co Gf rfl vd.src (by simpa using hll) (o7 N) (pV N) ad ad ?_;intro p1 c1 h1 s1 e1;have B:∀ w,w∈N->w.2.e.ah≠[]->∀ i,i∈aJ w.1.p->i<O.size:=fun w E h0=>Sp (hit w E).lin.vw h0
 refine aT (cs:=cI) (fun y k h'=>∃ (i:Nat) (ws:List (bU × cC)),y.1=(i:Int)/\k=xs.length-i/\i<=xs.length/\Ext O h'/\ZI O h' p1 l c1 ws/\ws.length=xs.length/\(∀ j w,j<i->ws[j]?=some w->SL h' O.size 64 2 w.1.p w.1.l w.1.c (w.2.e.ah.map dp))/\∀ j x w,xs[j]?=some x->ws[j]?=some w->w.2=if j<i then xU us L es n x else x) ((0:Int),()) xs.length rfl
  ⟨0,N,rfl,rfl,ad,e1,⟨s1,fun w E=>(hit w E).lin.vw.an e1 aj,fun w E h0 i hi=>⟨by have:=B w E h0 i hi; have:=e1.size; omega,fun W=>by have:=(s1.cB W).1; have:=B w E h0 i hi; omega⟩⟩,hl0,fun j w u=>absurd u ad,fun j x w hx E=>by
   rw [ac9 ad]
   have:(N.map (·.2))[j]?=some w.2:=by rw [ci9,E]; rfl
   rw [V,hx] at this;exact (bb9 this).symm⟩ ?_
 rintro ⟨n10,⟨⟩⟩ k h2 ⟨i,ws,hi,rfl,hle,Q,F,X,G,u⟩;simp only at hi;subst hi;refine ao ?_;have hwi:=ic i;refine aR ?_ ?_<;>intro r
 ·have Y:i<xs.length:=ad
  have A:i<ws.length:=ad
  obtain ⟨a,rfl,hc⟩:=SL.cells F.out (i:=i) (by rw [ab9]; exact A);rw [am9] at hc;have H:xs[i]?=some xs[i]:=ad9 Y;have C:ws[i]?=some ws[i]:=ad9 A;have hwx:=u i _ _ H C;rw [ac9 ad] at hwx;have hxm:=al9 Y;have hwm:=al9 A;have vw:=F.fC _ hwm;have lw:=F.low _ hwm;generalize ws[i]=w at hc C hwx hwm vw lw;generalize xs[i]=x at H hwx hxm;subst hwx;have hsw:=hxs w.2 hxm;refine bS rfl ?_;rw [cr i];refine ay ((w.1.p,w.1.l,w.1.c),(w.2.e.num:Int),()) ⟨by rw [add_add]; exact hc.2.2.2.2.2.2.2.1,by rw [add_add]; exact hc.2.2.2.2.2.2.2.2.1,trivial⟩ ?_;refine ao ?_;have z2:=Q.size;refine aK (Gn (d:=w.1.c) (s.an Q) (v.an Q) sz hn hL vw hsw.nf hsw.num hsw.len hsw.own hsw.sz) ?_;rintro _ h3 ⟨e3,p3,l3,c3,rfl,s3⟩;refine ⟨((p3,l3,c3),((ja us L n w.2.e).num:Int),()),rfl,ao ?_⟩;have z3:=e3.size;refine aK (KP (c:=c3) (d:=d) s3.NF (ve.an (Q.trans e3)) (fun j u=>(s3.cB u).2) (fun e Z j u=>by have:=hb e Z j u; omega) hm (Lo _ _ _ _) (Gg hsw.num) (fun e Z=>(R e Z).nf) hS (fun t ht=>by
   obtain ⟨u',hu',he'⟩:=GW ht;rw [he'];exact hSw w.2 hxm u' hu') fun e Z=>(R e Z).fC) ?_
  rintro _ h4 ⟨e4,p4,l4,c4,rfl,s4⟩;refine ⟨((p4,l4,c4),((dz (cG es) (ja us L n w.2.e)).num:Int),()),rfl,ao ?_⟩;have z4:=e4.size;have e24:=e3.trans e4;refine bS rfl ?_;have so:=F.out.bK e24 aj;refine SL.part (P:=Xaz) so (i:=i) (by rw [ab9]; exact A) (vs:=[.slice p4 l4 c4,.int .u32 ((dz (cG es) (ja us L n w.2.e)).num:Int)]) (o:=7) aj (by simp [dr]) rfl ?_;intro h6 s6 k6 z6;have hse:(ws.map ub).set i (lK ((ws.map ub)[i]'(by rw [ab9]; exact A)) 7 [.slice p4 l4 c4,.int .u32 ((dz (cG es) (ja us L n w.2.e)).num:Int)])=(ws.set i (⟨p4,l4,c4⟩,xU us L es n w.2)).map ub:=by
   rw [fc9]
   congr 1
   rw [am9]
   have:ws[i]=w:=(ax9.1 C).2
   rw [this] <;> rfl
  rw [hse] at s6;have I:∀ j,j∈aJ (some a)->O.size<=j/\j<h2.size:=fun j u=>F.out.cB u
  have e6:Ext O h6:=Ch.trans (Q.trans e24) k6 (fun j u hl=>by have:=I j u; omega);refine aG (cs:=cI) (((i+1:Nat):Int),()) (xs.length-(i+1)) rfl ad (as9 (fun z=>[Value.int .i64 z]) hwi) ⟨i+1,_,rfl,rfl,ad,e6,⟨s6,fun w' f=>?_,fun w' f h0' j J=>?_⟩,by rw [cy9]; exact X,fun j w' J f=>?_,fun j x' w' K f=>?_⟩
  ·rcases dh9 f with f | rfl
   ·exact LZ ((F.fC w' f).an e24 aj) k6 (fun h0 j u=>(F.low w' f h0 j u).2)
   ·exact (s4.bK k6 (fun j u W=>by have:=(s4.cB u).1; have:=I j W; omega)).NF
  ·rcases dh9 f with f | rfl
   ·obtain ⟨h1,h2⟩:=F.low w' f h0' j J;exact ⟨ad,h2⟩
   ·obtain ⟨h1,h2⟩:=s4.cB J;exact ⟨ad,fun W=>by have:=I j W; omega⟩
  ·have hbx:∀ b,b∈aJ (some a)->∃ ys,bC h4 b 55 ys:=SL.zL so
   by_cases D:i=j
   ·subst D;rw [er9 A] at f;cases f;exact (SL.rj s4 k6 hbx bT).mono ad
   ·rw [dq9 D] at f;exact SL.rj ((G j w' ad f).bK e24 aj) k6 hbx bT
  ·by_cases D:i=j
   ·subst D;rw [er9 A] at f;cases f;rw [H] at K;cases K;rw [ag9 ad]
   ·rw [dq9 D] at f;have h2:=u j x' w' K f;rw [h2]
    by_cases hj2:j<i
    ·rw [ag9 hj2,ag9 ad]
    ·rw [ac9 hj2,ac9 ad]
 ·have:i=xs.length:=ad
  subst this;refine ⟨Q,p1,l,c1,ws,rfl,⟨F.out,fun w E=>?_,fun _ _=>trivial⟩,?_⟩
  ·obtain ⟨j,hj1,rfl⟩:=bg9 E;exact G j _ ad (ad9 hj1)
  apply fo9
  ·rw [ab9,ab9,X]
  ·intro j h1' M;rw [am9,am9];rw [ab9] at h1' M
   have:=u j _ _ (ad9 M) (ad9 h1')
   rw [this,ag9 M]
def Y4:Tryz.prog.underlying 43=some (.slice 46):=ax
def Z2:(Tryz.prog.info? 46).map (fun i=>(i.zero,i.size,i.bytes))=some (some (.slice none 0 0),1,24):=ax
def Uq (p:Xac) (l c:Nat):Instr.fill (fun j=>some (j*1,1)) ((Array.range (1*1)).map ((Value.slice none 0 0).cells[· % (Value.slice none 0 0).cells.size]!)) [(0,.slice p l c)]=some ([.slice p l c]:List Xab).toArray:=ax
structure wo (h:Hp) (b:Nat) (st:bU) (tw:List (bU × List (bU × cC))):Prop where
 sl:SL h b 46 1 st.p st.l st.c (tw.map fun x=>[x.1.v])
 fC:∀ x,x∈tw->WH h b x.1.p x.1.l x.1.c x.2
variable {e h:TypeId}
def Pm {W:List Nat} {h':Hp} {b l c:Nat} {ws:List (bU × cC)} (s:WH O b U l c ws) (k:Ch W O h') (a:∀ i,i∈W->∃ ys,bC O i e ys) (h1:55≠e) (h2:64≠e):WH h' b U l c ws :=
 ⟨SL.rj s.sl k a h1,fun u d=>SL.rj (s.own u d) k a h2,s.ok⟩
def FO {b b' l c:Nat} {ws:List (bU × cC)} (s:WH O b U l c ws) (a:b'<=b):WH O b' U l c ws:=⟨s.sl.mono a,fun u d=>(s.own u d).mono a,s.ok⟩
def wo.an {W:List Nat} {h':Hp} {b:Nat} {st:bU} {tw:List (bU × List (bU × cC))} (s:wo O b st tw) (k:Ch W O h') {e':TypeId} (a:∀ i,i∈W->∃ ys,bC O i e' ys) (c:∀ i,i∈aJ st.p->i∉W) (h1:55≠e') (h2:64≠e'):wo h' b st tw :=
 ⟨s.sl.bK k c,fun x d=>Pm (s.fC x d) k a h1 h2⟩
def wo.ext {h':Hp} {b:Nat} {st:bU} {tw:List (bU × List (bU × cC))} (s:wo O b st tw) (k:Ext O h'):wo h' b st tw:=s.an (e':=0) k aj aj bT bT
def wo.nil (h:Hp) (b:Nat):wo h b nu []:=⟨SL.nil _ _ _ _,aj⟩
def wo.push {h:Hp} {b:Nat} {st:bU} {tw:List (bU × List (bU × cC))} (s:wo h b st tw) {x:bU × List (bU × cC)} (i:WH h b x.1.p x.1.l x.1.c x.2) (j:b<=h.size) (hl:tw.length<=2^20) {l:List (Xax × List Xab)} (f:∀ h',Ext h h'->T.B7 h' l) {k:Xac->Nat->Nat->T}
  (hk:∀ p' c' h',wo h' b ⟨p',st.l+1,c'⟩ (tw++[x])->Ch (aJ st.p) h h'->(p'=st.p\/∃ d,p'=some d/\h.size<=d.block)->k p' (st.l+1) c' a Z h') :
  T.eH Xaz (Instr.buildSlice 43 1 #[(0,.slice x.1.p x.1.l x.1.c)]) false [(false,[.slice 0])] (fun q m n=>T.bi l (T.eH Xaz (Builtin.append_ #[43,43] 43 #[.slice st.p st.l st.c,.slice q m n]) false [(false,[.slice 0])] k)) a Z h:=by
 have o:st.l=tw.length:=by have:=s.sl.1; rwa [ab9] at this
 refine gR (vs:=[x.1.v]) Y4 Z2 rfl ad ad (Uq _ _ _) rfl rfl s.sl j ad ad f ?_;intro p' c' h' r k' g;refine hk p' c' h' ⟨by rw [ao9]; exact r,fun y e=>?_⟩ k' g;have hbx:=SL.zL s.sl;rcases ar9.1 e with e | e
 ·exact Pm (s.fC y e) k' hbx bT bT
 ·rw [ai9.1 e];exact Pm i k' hbx bT bT
def Rx (S:Nat) (d:Xac) (b:Nat) (R c:Xax) (s:Xac) (t u:Nat):T :=
   T.loop [aQ] [vI (0:Int)] <| fun (a:Int) =>
   bt a b
   (T.af (c.add 2) [.slice 46] <| fun (e:Xac) (f g:Nat) =>
   T.need (eS a b) <|
   T.bf d <| fun (h:Xax) =>
   T.af (h.add (aI a 4)) [.slice 55] <| fun (i:Xac) (j k:Nat) =>
   bP 48 [.pointer (some c),vI a,.slice i j k,.slice s t u] false [(false,[.slice 55])] <| fun (w:Xac) (x y:Nat) =>
   T.bi [((c.add 2),[.slice e f g])] <|
   bQ (Instr.buildSlice 43 1 #[(0,.slice w x y)]) false [cY] <| fun (z:Xac) (A B:Nat) =>
   T.bi [((h.add (aI a 4)),[.slice i j k]),((c.add 2),[.slice e f g])] <|
   bQ (Builtin.append_ #[43,43] 43 #[.slice e f g,.slice z A B]) false [cY] <| fun (C:Xac) (D E:Nat) =>
   T.bi [((h.add (aI a 4)),[.slice i j k])] <|
   T.aD (c.add 2) [.slice C D E] <|
   T.af (c.add 3) [.slice 46] <| fun (l:Xac) (m n:Nat) =>
   T.need (eS a b) <|
   T.bf d <| fun (o:Xax) =>
   T.af ((o.add (aI a 4)).add 1) [.slice 55] <| fun (p:Xac) (q r:Nat) =>
   bP 48 [.pointer (some c),vI a,.slice p q r,.slice s t u] false [(false,[.slice 55])] <| fun (F:Xac) (G H:Nat) =>
   T.bi [((c.add 3),[.slice l m n])] <|
   bQ (Instr.buildSlice 43 1 #[(0,.slice F G H)]) false [cY] <| fun (I:Xac) (J K:Nat) =>
   T.bi [(((o.add (aI a 4)).add 1),[.slice p q r]),((c.add 3),[.slice l m n])] <|
   bQ (Builtin.append_ #[43,43] 43 #[.slice l m n,.slice I J K]) false [cY] <| fun (L:Xac) (M N:Nat) =>
   T.bi [(((o.add (aI a 4)).add 1),[.slice p q r])] <|
   T.aD (c.add 3) [.slice L M N] <|
   T.again S [vI (bq (a+(1:Int)))])
   (T.aD R [vI (0:Int),vI (0:Int),cm] <|
   T.af R [.int .i64,.int .i64,.string] <| fun (O P:Int) (Q:Xaa) =>
   bG #[.pointer (some c),.agg #[vI O,vI P,.string Q]])
def zK (us:List cv) (L:List Lb) (es:List cV) (F:cv->List cC) (i:Nat) (tw:List (bU × List (bU × cC))):Prop :=
 tw.length=i/\∀ n u x,us[n]?=some u->tw[n]?=some x->x.2.map (·.2)=(F u).map (xU us L es n)
def zK.push {us:List cv} {L:List Lb} {F:cv->List cC} {i:Nat} {tw:List (bU × List (bU × cC))} (t:zK us L es F i tw) (d:us[i]?=some c) {x:bU × List (bU × cC)} (e:x.2.map (·.2)=(F c).map (xU us L es i)):zK us L es F (i+1) (tw++[x]):=by
 obtain ⟨h1,h2⟩:=t;refine ⟨by rw [af9,h1]; rfl,fun n v y hv a=>?_⟩
 by_cases hn:n<tw.length
 ·rw [bp9 hn] at a;exact h2 n v y hv a
 ·rw [bi9 ad] at a;have b:n=tw.length:=by
   have:=(ax9.1 a).1
   simp at this;omega
  subst b;rw [ex9] at a;cases a;rw [h1] at hv ⊢;rw [d] at hv;cases hv;exact e
structure Xp (us:List cv) (L:List Lb) (S:List Xaa) (n:Nat) (u:cv):Prop where
 text:∀ x,x∈u.text->Rf us n x.e/\∀ t,t∈x.e.ah->dO us L n t.1∈S
 data:∀ x,x∈u.data->Rf us n x.e/\∀ t,t∈x.e.ah->dO us L n t.1∈S
def Dj {h:Hp} {b:List Xab} {cs:List ep} {I:qF (flat cs)->Nat->Hp->Prop} {n:Nat} (y:qF (flat cs)) (m:Nat) (c:m<n) (d:b=parts cs (et _ y)) (e:I y m h):T.again a.length b (a++[Jl I n]) Z h :=
 aG y m (by rw [bi9 (aq9 _),ex9]; rfl) c d e
def TW {h0 h:Hp} {m lv:Nat} {su lb:bU} {LB:List Lb} {us:List cv} {J M:Nat} {S:List Xaa} (hlv:lv=a.length) (hga:ga<m) (h0g:h0.size<=ga) (e0:Ext h0 h) (b1:bC h ga 91 [vI f,vI g,.string V])
  (pr:DG h m su lb nu nu LB) (v:xA h0 su.p su.l us) (sz:Ng us) (hL:LB.length<=2^40) (ve:uV h U J es) (hq:∀ i,i∈aJ U->m<i) (hb:∀ e,e∈es->∀ i,i∈aJ e.p->m<i/\i<h.size) (hm:es.length<=2^40) (hS:S.length<=2^30) (hes:∀ e,e∈es->ue S e.x)
  (hW:∀ n u,us[n]?=some u->Xp us LB S n u)
  (hk:∀ h' st sd tw dw,Ext h0 h'->DG h' m su lb st sd LB->wo h' h.size st tw->wo h' h.size sd dw->zK us LB es (·.text) us.length tw->zK us LB es (·.data) us.length dw->Z (.tuple #[.pointer (some ⟨m,0,none⟩),RY ⟨0,0,dW⟩]) h') :
  Rx lv su.p su.l ⟨ga,0,none⟩ ⟨m,0,none⟩ U J M a Z h:=by
 subst hlv;unfold Rx bt aI bP bQ bq eS bG cm aQ cY;have hll:=v.len;have hmany:=sz.many;have hgs:=pr.box.lt;refine aT (cs:=cI) (fun y k h'=>∃ (i:Nat) (st sd:bU) (tw dw:List (bU × List (bU × cC))),y.1=(i:Int)/\k=us.length-i/\i<=us.length/\Ext h0 h'/\Ch [m] h h'/\bC h' m 45 [su.v,lb.v,st.v,sd.v]/\wo h' h.size st tw/\wo h' h.size sd dw/\(∀ j,j∈aJ st.p->j∉aJ sd.p) /\
  zK us LB es (·.text) i tw/\zK us LB es (·.data) i dw) ((0:Int),()) us.length rfl
  ⟨0,nu,nu,[],[],rfl,rfl,ad,e0,Ch.refl _ _,pr.box,wo.nil _ _,wo.nil _ _,by simp [nu,aJ],⟨rfl,fun n u x _ w=>by simp at w⟩,⟨rfl,fun n u x _ w=>by simp at w⟩⟩ ?_
 rintro ⟨n21,⟨⟩⟩ k h1 ⟨i,st,sd,tw,dw,hi,rfl,hle,e1,k1,b7,t1,d1,hdj,it,id⟩;simp only at hi;subst hi;refine ao ?_;have hw:=ic i;have z1:=k1.size;refine aR ?_ ?_<;>intro q
 ·have A:i<us.length:=ad
  have E:us[i]?=some us[i]:=ad9 A;obtain ⟨au,sa,sb,sc,sd',hau,N,va⟩:=v.cells i A;have hum:=al9 A;generalize us[i]=u at E N va hum;have uw:=hW i u E;have prk:∀ {h':Hp} {st' sd2:bU},Ch [m] h h'->bC h' m 45 [su.v,lb.v,st'.v,sd2.v]->DG h' m su lb st' sd2 LB:=fun k bx=>⟨bx,pr.qW.bK k (fun j o r=>by have:=(pr.qW.cB o).1; simp at r; omega)⟩
  have vek:∀ {h':Hp},Ch [m] h h'->uV h' U J es:=fun k=>ve.nH k (fun j o r=>by have:=hq j o; simp at r; omega) (fun e he _ j o r=>by have:=(hb e he j o).1; simp at r; omega)
  have O:∀ {h':Hp},Ext h0 h'->aH h' (au.add (i*4)) 0 [.slice sa.p sa.l sa.c]:=fun e=>⟨(aM e aj _ _ N).1,trivial⟩
  have P:∀ {h':Hp},Ext h0 h'->aH h' ((au.add (i*4)).add 1) 0 [.slice sb.p sb.l sb.c]:=fun e=>⟨by rw [add_add]; exact (aM e aj _ _ N).2.1,trivial⟩
  rw [aE];refine az b7 ((st.p,st.l,st.c),()) (ao ?_);refine bS hau ?_;rw [cr i];refine ay ((sa.p,sa.l,sa.c),()) (O e1) (ao ?_);refine aK (DP (c:=sa.c) (d:=M) (prk k1 b7) (v.an e1) sz A hL (va.an e1).text (sz.text u hum) (fun x w=>(uw.text x w).1) (vek k1) (fun e he j o=>by have:=(hb e he j o).2; omega) hm hS hes (fun x w=>(uw.text x w).2)) ?_;rintro _ h2 ⟨Q,p2,l2,c2,w2,rfl,o2,hm2⟩;refine ⟨((p2,l2,c2),()),rfl,ao ?_⟩;have z2:=Q.size;have e02:=e1.trans Q;have b72:=b7.an Q aj;refine ⟨⟨b72.cells _ rfl,trivial⟩,?_⟩;refine wo.push (x:=(⟨p2,l2,c2⟩,w2)) (t1.ext Q) (FO o2 z1) ad (by rw [it.1]; omega) (by exact fun h' e=>⟨O (e02.trans e),(b72.an e aj).cells _ rfl,trivial⟩) ?_;intro p3 c3 h3 t3 k3 hp3;have B:∀ j,j∈aJ st.p->h.size<=j/\j<h1.size:=fun j o=>t1.sl.cB o
  have e03:Ext h0 h3:=Ch.trans e02 k3 (fun j o hl=>by have:=B j o; have:=e0.size; omega);have kg3:Ch [m] h h3:=Ch.trans (Ch.trans k1 Q aj) k3 (fun j o hl=>by have:=B j o; omega);have b73:=b72.an k3 (fun o=>by have:=B _ o; omega);have d3:wo h3 h.size sd dw:=(d1.ext Q).an (e':=46) k3 (SL.zL (t1.ext Q).sl) (fun j o r=>hdj j r o) bT bT;have z3:=k3.size;refine ⟨⟨O e03,trivial⟩,?_⟩;rw [aE];refine bR b73 ?_;intro h4 C k4 z4;have C:bC h4 m 45 [su.v,lb.v,(⟨p3,st.l+1,c3⟩:bU).v,sd.v]:=C;have hg0:∀ j,j∈[m]->h0.size<=j:=fun j o=>by simp at o; omega
  have F:Ext h0 h4:=Ch.trans e03 k4 (fun j o hl=>by have:=hg0 j o; omega);have W:Ch [m] h h4:=Ch.trans kg3 k4 (fun j o _=>o);have G:∀ {r:Hp} {xs:List Xab},bC r m 45 xs->∀ j,j∈[m]->∃ ys,bC r j 45 ys:=fun bx j o=>by
   rw [ai9] at o;subst o;exact ⟨_,bx⟩
  have H:∀ {r:Hp} {s:bU} {t:List (bU × List (bU × cC))},wo r h.size s t->∀ j,j∈aJ s.p->j∉[m]:=fun t j o r=>by have:=(t.sl.cB o).1; simp at r; omega
  have t4:=t3.an (e':=45) k4 (G b73) (H t3) bT bT;have d4:=d3.an (e':=45) k4 (G b73) (H d3) bT bT;have I:∀ j,j∈aJ p3->j∉aJ sd.p:=fun j o r=>by
   rcases hp3 with h | ⟨a',h,h'⟩
   ·rw [h] at o; exact hdj j o r
   ·rw [h] at o;simp [aJ] at o
    have:=(d1.sl.cB r).2
    omega
  refine az C ((sd.p,sd.l,sd.c),()) (ao ?_);refine bS hau ?_;refine ay ((sb.p,sb.l,sb.c),()) (P F) (ao ?_);refine aK (DP (c:=sb.c) (d:=M) (prk W C) (v.an F) sz A hL (va.an F).data (sz.data u hum) (fun x w=>(uw.data x w).1) (vek W) (fun e he j o=>by have:=(hb e he j o).2; omega) hm hS hes (fun x w=>(uw.data x w).2)) ?_;rintro _ h5 ⟨X,p5,l5,c5,w5,rfl,o5,hm5⟩;refine ⟨((p5,l5,c5),()),rfl,ao ?_⟩;have z5:=X.size;have e05:=F.trans X;have b75:=C.an X aj;refine ⟨⟨b75.cells _ rfl,trivial⟩,?_⟩;refine wo.push (x:=(⟨p5,l5,c5⟩,w5)) (d4.ext X) (FO o5 ad) ad (by rw [id.1]; omega) (by exact fun h' e=>⟨P (e05.trans e),(b75.an e aj).cells _ rfl,trivial⟩) ?_;intro p6 c6 h6 d6 k6 hp6;have D:∀ j,j∈aJ sd.p->h.size<=j/\j<h1.size:=fun j o=>d1.sl.cB o
  have e06:Ext h0 h6:=Ch.trans e05 k6 (fun j o hl=>by have:=D j o; have:=e0.size; omega);have kg6:Ch [m] h h6:=Ch.trans (Ch.trans W X aj) k6 (fun j o hl=>by have:=D j o; omega);have b76:=b75.an k6 (fun o=>by have:=D _ o; omega);have t6:wo h6 h.size ⟨p3,st.l+1,c3⟩ (tw++[(⟨p2,l2,c2⟩,w2)]):=(t4.ext X).an (e':=46) k6 (SL.zL (d4.ext X).sl) I bT bT;refine ⟨⟨P e06,trivial⟩,?_⟩;refine bR b76 ?_;intro h7 Y k7 z7;have Y:bC h7 m 45 [su.v,lb.v,(⟨p3,st.l+1,c3⟩:bU).v,(⟨p6,sd.l+1,c6⟩:bU).v]:=Y;have e07:Ext h0 h7:=Ch.trans e06 k7 (fun j o hl=>by have:=hg0 j o; omega);refine Dj (cs:=cI) (((i+1:Nat):Int),()) (us.length-(i+1)) ad (as9 (fun V=>[Value.int .i64 V]) hw) ⟨i+1,⟨p3,st.l+1,c3⟩,⟨p6,sd.l+1,c6⟩,_,_,rfl,rfl,ad,e07,Ch.trans kg6 k7 (fun j o _=>o),Y,
   t6.an (e':=45) k7 (G b76) (H t6) bT bT,d6.an (e':=45) k7 (G b76) (H d6) bT bT,fun j o r=>?_,it.push E hm2,id.push E hm5⟩
  rcases hp6 with h | ⟨a',h,h'⟩
  ·rw [h] at r; exact I j o r
  ·rw [h] at r;simp [aJ] at r
   have:=(t4.sl.cB o).2
   omega
 ·have:i=us.length:=ad
  subst this;have b1':=b1.an k1 (by simp; omega);refine bR b1' ?_;intro h2 b2 k2 z2;have b2:bC h2 ga 91 [vI 0,vI 0,.string dW]:=b2;refine az b2 ((0:Int),(0:Int),dW,()) ?_;have hba:∀ j,j∈[ga]->∃ ys,bC h1 j 91 ys:=fun j o=>by
   rw [ai9] at o;subst o;exact ⟨_,b1'⟩
  have hna:∀ {s:bU} {t:List (bU × List (bU × cC))},wo h1 h.size s t->∀ j,j∈aJ s.p->j∉[ga]:=fun t j o r=>by have:=(t.sl.cB o).1; simp at r; omega
  refine hk h2 st sd tw dw (bY e1 k2) ⟨b7.an k2 (by simp; omega),?_⟩ (t1.an (e':=91) k2 hba (hna t1) bT bT) (d1.an (e':=91) k2 hba (hna d1) bT bT) it id;refine pr.qW.bK (Ch.trans (ws:=[m,ga]) (Ch.mono k1 aj) k2 aj) (fun j o r=>by have:=(pr.qW.cB o).1; simp at r; omega)
def rn (us:List cv):List Nat:=us.flatMap fun u=>List.range u.bj.length
theorem te:∀ (us:List cv) (n:Nat),(eJ n us).length=(rn us).length
 | [],n=>rfl
 | u::us,n=>by
  unfold rn;rw [eJ,cd9,af9,af9,ab9,du9,te us (n+1)] <;> rfl
def P' (w:Nat) (b:Xac) (c:Nat) (u:Xax) (n:Xac) (o:Nat) (d:Int):T :=
   T.loop [aQ,aQ] [vI (0:Int),vI d] <| fun (a i:Int) =>
   T.need (eS a c) <|
   T.bf b <| fun (p:Xax) =>
   T.af ((p.add (aI a 4)).add 2) [.slice 116] <| fun (x:Xac) (q y:Nat) =>
   cond (decide (i>=(q:Int)))
   (T.need (eS a c) <|
   T.bf b <| fun (e:Xax) =>
   T.af ((e.add (aI a 4)).add 2) [.slice 116] <| fun (h:Xac) (f j:Nat) =>
   T.again w [vI (bq (a+(1:Int))),vI (bq (i-(f:Int)))])
   (T.need (eS a c) <|
   T.bf b <| fun (e:Xax) =>
   T.af ((e.add (aI a 4)).add 2) [.slice 116] <| fun (h:Xac) (f j:Nat) =>
   T.need (eS d o) <|
   T.bf n <| fun (k:Xax) =>
   T.af (k.add (aI d 1)) [.int .i64] <| fun (g:Int) =>
   T.need (eS g f) <|
   T.bf h <| fun (l:Xax) =>
   T.af (l.add (aI g 3)) [.string] <| fun (m:Xaa) =>
   T.bi [((l.add (aI g 3)),[.string m]),((k.add (aI d 1)),[vI g]),(((e.add (aI a 4)).add 2),[.slice h f j])] <|
   T.aD u [vI (24:Int),vI a,.string m] <|
   T.af u [.int .i64,.int .i64,.string] <| fun (r s:Int) (t:Xaa) =>
   bG #[.pointer none,.agg #[vI r,vI s,.string t]])
def SJ {h0 h:Hp} {lv d l:Nat} {us:List cv} {D I i0:Nat} {q:Nat × sS} (J:lv=a.length) (h0g:h0.size<=ga) (e0:Ext h0 h) (b1:bC h ga 91 [vI f,vI g,.string V]) (v:xA h U l us) (M:us.length<=2^20)
  (E:SL h d 3 1 b D I ((rn us).map Nr)) (hle:(eJ 0 us).length<=2^40) (W:(eJ 0 us)[i0]?=some q) (hk:∀ h',Ext h0 h'->Z (.tuple #[.pointer none,RY ⟨24,q.1,q.2.1⟩]) h'):P' lv U l ⟨ga,0,none⟩ b D i0 a Z h:=by
 subst J;unfold P' aI bq eS bG aQ;have hll:=v.len;have hi0:i0<(eJ 0 us).length:=(ax9.1 W).1;have hkl:=te us 0;refine aT (cs:=gb) (fun g k h'=>∃ (u r:Nat),g.1=(u:Int)/\g.2.1=(r:Int)/\k=us.length-u/\h'=h/\u<=us.length/\(eJ u (us.drop u))[r]?=some q/\(rn (us.drop u))[r]?=(rn us)[i0]?/\r<=i0) ((0:Int),(i0:Int),()) us.length rfl
  ⟨0,i0,rfl,rfl,rfl,rfl,ad,W,rfl,aq9 _⟩ ?_
 rintro ⟨n21,n22,⟨⟩⟩ k h' ⟨u,r,X,Y,rfl,rfl,hul,m,n,hri⟩;simp only at X Y;subst X Y;refine ao ?_;have A:u<us.length:=by
  by_cases h:u<us.length
  ·exact h
  ·rw [cc9 ad] at m;simp [eJ] at m
 rw [aw9 A] at m n;have n:(List.range us[u].bj.length++rn (us.drop (u+1)))[r]?=(rn us)[i0]?:=n;have m:(us[u].bj.map (fun e=>(u,e))++eJ (u+1) (us.drop (u+1)))[r]?=some q:=m;obtain ⟨au,sa,sb,sc,sd,rfl,F,N⟩:=v.cells u A;generalize us[u]=w at n m F N;have hlq:=N.bj.len;have t:aH h' ((au.add (u*4)).add 2) 0 [.slice sc.p sc.l sc.c]:=⟨by rw [add_add]; exact F.2.2.1,trivial⟩
 refine bS rfl ?_;rw [cr u];refine ay ((sc.p,sc.l,sc.c),()) t (ao ?_);refine aR ?_ ?_<;>intro j
 ·have G:w.bj.length<=r:=ad
  refine bS rfl ?_;refine ay ((sc.p,sc.l,sc.c),()) t (ao ?_);have hw1:=ic u;have O:IntKind.wrap .i64 ((r:Int)-(sc.l:Int))=((r-w.bj.length:Nat):Int):=by rw [wrap_i64 ad ad]; omega
  rw [bi9 (by rw [ab9]; exact G),ab9] at m;rw [bi9 (by rw [du9]; exact G),du9] at n;exact Dj (cs:=gb) (((u+1:Nat):Int),((r-w.bj.length:Nat):Int),()) (us.length-(u+1)) ad (by rw [hw1,O]; rfl) ⟨u+1,r-w.bj.length,rfl,rfl,rfl,rfl,ad,m,n,ad⟩
 ·have s:r<w.bj.length:=ad
  rw [bp9 (by rw [ab9]; exact s),ci9,ad9 s] at m;rw [bp9 (by rw [du9]; exact s),dl9 s] at n;have P:(u,w.bj[r])=q:=bb9 m;subst P;refine bS rfl ?_;refine ay ((sc.p,sc.l,sc.c),()) t (ao ?_);have B:i0<(rn us).length:=ad
  obtain ⟨a12,H,o⟩:=SL.cells E (i:=i0) (by rw [ab9]; exact B);rw [am9] at o;have Q:(rn us)[i0]=r:=by
   rw [ad9 B] at n;exact (bb9 n).symm
  rw [Q] at o;have hl13:D=(rn us).length:=by have:=E.1; rwa [ab9] at this
  refine bS H ?_;rw [cr i0];refine ay ((r:Int),()) o (ao ?_);obtain ⟨aq,pq,mq,cq,R,C,_,_⟩:=N.bj.cells r s;refine bS R ?_;rw [cr r];refine ay (w.bj[r].1,()) ⟨C.1,trivial⟩ (ao ?_);refine ⟨⟨⟨C.1,trivial⟩,o,t,trivial⟩,?_⟩;refine bR b1 ?_;intro h2 S k2 z2;have S:bC h2 ga 91 [vI 24,vI (u:Int),.string w.bj[r].1]:=S;refine az S ((24:Int),(u:Int),w.bj[r].1,()) ?_;exact hk h2 (bY e0 k2)
def UU (d:Xac) (b:Nat) (a1 t:Xax):T :=
  T.loop [cY,cY,aQ] [bg,bg,vI (0:Int)] <| fun (p9:Xac) (l10 n:Nat) (o:Xac) (p u:Nat) (c:Int) =>
  bt c b
  (T.loop [cY,cY,aQ] [.slice p9 l10 n,.slice o p u,vI (0:Int)] <| fun (f:Xac) (g h:Nat) (q:Xac) (r s:Nat) (e:Int) =>
  T.need (eS c b) <|
  T.bf d <| fun (w:Xax) =>
  T.af ((w.add (aI c 4)).add 2) [.slice 116] <| fun (p24:Xac) (x l26:Nat) =>
  bt e x
   (T.need (eS c b) <|
   T.bf d <| fun (y:Xax) =>
   T.af ((y.add (aI c 4)).add 2) [.slice 116] <| fun (z:Xac) (A l30:Nat) =>
   T.need (eS e A) <|
   T.bf z <| fun (B:Xax) =>
   T.af (B.add (aI e 3)) [.string,.slice 64,.int .u32] <| fun (Vr:Xaa) (C:Xac) (D E:Nat) (F:Int) =>
   T.new [cm,bg,aF (0:Int)] 116 <| fun (a:Xax) =>
   T.aD a [.string Vr,.slice C D E,aF F] <|
   T.af a [.string] <| fun (i:Xaa) =>
   T.af (a.add 1) [.slice 64,.int .u32] <| fun (j:Xac) (k l:Nat) (m:Int) =>
   bP 45 [.pointer (some t),vI c,.string i] false [(false,[.string])] <| fun (G:Xaa) =>
   T.bi [((a.add 1),[.slice j k l,aF m])] <|
   bP 46 [.pointer (some t),vI c,.agg #[.slice j k l,aF m]] false [(true,[.slice 64,.int .u32])] <| fun (H:Xac) (I J:Nat) (K:Int) =>
   T.bi [(a,[.string i])] <|
   bQ (Instr.buildSlice 67 1 #[(0,.agg #[.string G,.slice H I J,aF K])]) false [cY] <| fun (L:Xac) (M N:Nat) =>
   T.bi [((a.add 1),[.slice j k l,aF m]),(a,[.string i])] <|
   bQ (Builtin.append_ #[67,67] 67 #[.slice f g h,.slice L M N]) false [cY] <| fun (O:Xac) (P Q:Nat) =>
   T.bi [((a.add 1),[.slice j k l,aF m]),(a,[.string i])] <|
   bQ (Instr.buildSlice 135 1 #[(0,vI e)]) false [cY] <| fun (R:Xac) (S U:Nat) =>
   bQ (Builtin.append_ #[135,135] 135 #[.slice q r s,.slice R S U]) false [cY] <| fun (V:Xac) (W X:Nat) =>
   T.again 2 [.slice O P Q,.slice V W X,vI (bq (e+(1:Int)))])
   (T.again 1 [.slice f g h,.slice q r s,vI (bq (c+(1:Int)))]))
  (bP 47 [.slice p9 l10 n] true [(false,[.slice 116]),aQ,aQ] <| fun (f:Xac) (g h:Nat) (Y Z:Int) =>
  cond (Z != (0:Int)) (P' 2 d b a1 o p Y) (Rx 2 d b a1 t f g h))
structure Yq (h:Hp) (b:Nat) (p:Xac) (l c:Nat) (q:Xac) (m d:Nat) (ms:List cV) (ks:List Nat):Prop where
 out:SL h b 116 3 p l c (ms.map A0)
 num:SL h b 3 1 q m d (ks.map Nr)
 fC:∀ e,e∈ms->SL h b 64 2 e.p e.l e.c (e.x.ah.map dp)
def Yq.ext {h':Hp} {a l c m d:Nat} {ms:List cV} {ks:List Nat} (s:Yq O a U l c b m d ms ks) (e:Ext O h'):Yq h' a U l c b m d ms ks :=
 ⟨s.out.bK e aj,s.num.bK e aj,fun x f=>(s.fC x f).bK e aj⟩
def dR (us:List cv) (L:List Lb) (l:List cv):List (Xaa × bM):=(eJ 0 l).map fun q=>(dO us L q.1 q.2.1,ja us L q.1 q.2.2)
def LK (l:List cv) (u:cv):rn (l++[u])=rn l++List.range u.bj.length:=by
 unfold rn;rw [dt9]
 simp
def Ta (us:List cv) (L:List Lb) (l:List cv) (u:cv):dR us L (l++[u])=dR us L l++u.bj.map fun e=>(dO us L l.length e.1,ja us L l.length e.2):=by
 unfold dR;rw [sA,ao9,bf9];simp only [Nat.zero_add] <;> rfl
def EqW (us:List cv) (n:Nat) (u:cv):Prop:=∀ e,e∈u.bj->Rf us n e.2/\(∃ o,jQ us n e.1=some o)/\e.1.size<=2^60
def oO (n:Nat):lF n=eO n:=oA n
def G3 (n:Nat):∀ c,c∈Lib.decDigits n->c≠95:=by
 intro c hc e;rw [Lib.decDigits_eq] at hc;obtain ⟨t,_,rfl⟩:=an9.1 hc;unfold Lib.dg at e;have h1:=as9 UInt8.toNat e;have h2:(UInt8.ofNat (48+n / 10^(Lib.nDigits n-1-t) % 10)).toNat=48+n / 10^(Lib.nDigits n-1-t) % 10:=by
  rw [UInt8.toNat_ofNat'];omega
 rw [h2] at h1;have a:(95:UInt8).toNat=95:=rfl;omega
theorem UQ:∀ {a b s t:List UInt8},(∀ c,c∈a->c≠95)->(∀ c,c∈b->c≠95)->a++95::s=b++95::t->a=b/\s=t
 | [],[],s,t,_,_,h=>by simpa using h
 | [],c::b,s,t,_,e,h=>by
  simp only [List.nil_append,List.cons_append,List.cons.injEq] at h;exact absurd h.1.symm (e c aj)
 | c::a,[],s,t,f,_,h=>by
  simp only [List.nil_append,List.cons_append,List.cons.injEq] at h;exact absurd h.1 (f c aj)
 | c::a,d::b,s,t,f,e,h=>by
  simp only [List.cons_append,List.cons.injEq] at h;obtain ⟨h1,h2⟩:=UQ (fun x g=>f x (ap9 _ g)) (fun x g=>e x (ap9 _ g)) h.2;exact ⟨by rw [h.1,h1],h2⟩
def EU (L:List Lb) (o:Nat) (s:Xaa):W4 L o s=nX (L.map Ao) (o,s):=by
 unfold W4 nX;rw [fh9]
 congr 1
 funext x
 show _=decide (Ao x=(o,s));unfold Ao;rw [ds9]
 simp
def R3 (L:List Lb) (k:Ky):Xaa:=y5 L k.1 k.2
def Tp {L:List Lb} {k':Ky} (h:R3 L d=R3 L k'):d=k':=by
 have f:∀ a b:Xaa,(⟨#[76]⟩:Xaa)++a≠(⟨#[69]⟩:Xaa)++b:=by
  intro a b e;have h1:=as9 (fun b:Xaa=>b.data.toList) e;simp only [ei] at h1;simp at h1
 have has:∀ a b c:Xaa,((⟨#[69]⟩++a)++⟨#[95]⟩)++b=(⟨#[69]⟩:Xaa)++(a++(⟨#[95]⟩++b)):=by
  intro a b c;simp only [ByteArray.append_assoc]
 obtain ⟨o,s⟩:=d;obtain ⟨o',s'⟩:=k';unfold R3 y5 at h;rw [EU,EU] at h;cases h1:nX (L.map Ao) (o,s) with
 | some i =>
  cases h2:nX (L.map Ao) (o',s') with
  | some j =>
   rw [h1,h2] at h;have h:(⟨#[76]⟩:Xaa)++eO i=⟨#[76]⟩++eO j:=h;rw [<- oO,<- oO] at h
   have:=tJ (xn h)
   subst this;obtain ⟨a,l⟩:=jS h1;obtain ⟨b,m⟩:=jS h2;rw [<- l,<- m]
  | none =>
   rw [h1,h2] at h;have h:(⟨#[76]⟩:Xaa)++eO i=((⟨#[69]⟩++eO o')++⟨#[95]⟩)++s':=h;rw [has _ _ ⟨#[]⟩] at h;exact absurd h (f _ _)
 | none =>
  cases h2:nX (L.map Ao) (o',s') with
  | some j =>
   rw [h1,h2] at h;have h:((⟨#[69]⟩++eO o)++⟨#[95]⟩)++s=(⟨#[76]⟩:Xaa)++eO j:=h;rw [has _ _ ⟨#[]⟩] at h;exact absurd h.symm (f _ _)
  | none =>
   rw [h1,h2] at h;have h:((⟨#[69]⟩++eO o)++⟨#[95]⟩)++s=((⟨#[69]⟩++eO o')++⟨#[95]⟩)++s':=h;rw [has _ _ ⟨#[]⟩,has _ _ ⟨#[]⟩] at h;have h:=xn h;have h3:=as9 (fun b:Xaa=>b.data.toList) h;simp only [ei] at h3;have p:Lib.decDigits o++95::s.data.toList=Lib.decDigits o'++95::s'.data.toList:=by
    have e:∀ n:Nat,(eO n).data.toList=Lib.decDigits n:=fun n=>by unfold eO; simp
    rw [e,e] at h3;simpa using h3
   obtain ⟨q,g⟩:=UQ (G3 o) (G3 o') p;have r:o=o':=by
    apply tJ;rw [oO,oO];unfold eO;rw [q]
   subst r
   congr 1
   cases s; cases s';simp only at g
   congr 1
   exact Array.ext' g
structure oT (us:List cv) (w:LW):Prop where
 right:∀ u,u∈us->fz u=0
 wi:WI w (cy 0 us) ((eJ 0 us).map jy)
 gl:∀ s,w.gl s=Sq us s
def VH (us:List cv) (k:Ky):Prop:=k∈(cy 0 us).map Ao\/k∈(eJ 0 us).map jy
def Pc {us:List cv} {n:Nat} (b:us[n]?=some c) (a:V∈fR c):VH us (n,V):=by
 unfold fR at a;rw [ar9,ar9] at a;rcases a with a | a
 ·exact .inl ((yE V n us 0).2 ⟨c,em9 _,by rw [fv9]; exact b,a⟩)
 ·exact .inr ((A4 V n us 0).2 ⟨c,em9 _,by rw [fv9]; exact b,a⟩)
def NL {u:cv} (h:fz u=0):∀ x,x∈u.aU->x∈fR u:=by
 have h1:=(A9 h).2;rw [yA] at h1;unfold yy at h1;simp only [Bool.and_eq_true,decide_eq_true_eq] at h1;exact fun x a=>((za _ _ _ h1.2.2.2.2).1 x a).1
def wL {l:List Xaa} :gP l V=true↔V∈l:=by
 unfold gP;rw [dz9];constructor
 ·rintro ⟨x,a,b⟩;rw [<- ah9 b]; exact a
 ·intro h;exact ⟨V,h,aj9 rfl⟩
def Fo {us:List cv} (d:∀ u,u∈us->fz u=0) {n o:Nat} (h:jQ us n V=some o):VH us (o,V):=by
 unfold jQ at h;split at h
 ·rename_i a;cases h;cases b:us[n]? with
  | none=>rw [b] at a; cases a
  | some u =>
   rw [b] at a;exact Pc b (wL.1 (bb9 a))
 ·rw [bd9] at h;obtain ⟨c,h1,_⟩:=h;exact Pc (ad9 c) (NL (d _ (al9 c)) V (wL.1 h1))
def D7 {us:List cv} {n:Nat} (a:us[n]?=some c) (b:V∈fR c):jQ us n V=some n:=by
 unfold jQ;rw [a,fr9,ag9 (by rw [wL.2 b])]
def O7 {us:List cv} (i0:WI H (cy 0 us) ((eJ 0 us).map jy)) {k:Ky} (hk:VH us k) (hn:k∉(eJ 0 us).map jy):H.word k=R3 (cy 0 us) k:=by
 have hk:k∈(cy 0 us).map Ao:=hk.elim id fun h=>absurd h hn
 obtain ⟨i,hi⟩:=Cp hk;unfold LW.word R3 y5;rw [EU,i0.num];show (match nX ((cy 0 us).map Ao) k with | some n=>(⟨#[76]⟩:Xaa)++lF n | none=>_)=match nX ((cy 0 us).map Ao) (k.1,k.2) with | some i=>(⟨#[76]⟩:Xaa)++eO i | none=>_
 rw [hi];show (⟨#[76]⟩:Xaa)++lF i=⟨#[76]⟩++eO i;rw [oO]
def Y1 (f:Xaa->Nat) (s:Xaa):jU f (mC s)=f s % 4294967296:=by
 unfold jU mC;show (0+(1*f s+0)) % 4294967296=_
 congr 1
 omega
def oT.own {us:List cv} {w:LW} (A:oT us w) {n:Nat} (hn:n<us.length) (s:Xaa):w.own n s=(jQ us n s).map fun o=>(o,s):=Ou A.wi A.gl hn s
def oT.rel {us:List cv} (A:oT us H) {n:Nat} (hn:n<us.length) (c:H.bad n Y=none):Ac (VH us) H.word (R3 (cy 0 us)) (H.lin n Y) (ja us (cy 0 us) n Y):=by
 intro f g a;unfold LW.lin ja;rw [fY,fY];refine pP fun t ht=>?_
 obtain ⟨k,hk⟩:=Bv c t ht;rw [A.own hn] at hk;obtain ⟨o,b,rfl⟩:=et9.1 hk;have hky:=Fo A.right b;unfold JB vr dO;simp only [A.own hn,b,Option.map_some,Option.getD_some];rw [Y1,Y1,a _ hky] <;> rfl
def Al {us:List cv} {q:Nat × sS} (a:q∈eJ 0 us):∃ u,us[q.1]?=some u/\q.2∈u.bj:=by
 obtain ⟨i,hi,h1,h2⟩:=wM us 0 q a;rw [bu9] at h1;exact ⟨us[i],by rw [h1]; exact ad9 hi,h2⟩
def oT.two {us:List cv} (A:oT us H) (d:fO H 0 us=none):wC (eJ 0 us) jy (VH us) H.word (R3 (cy 0 us)) (fun q=>H.lin q.1 q.2.2) fun q=>ja us (cy 0 us) q.1 q.2.2 where
 nd:=xX us 0 fun u b=>by
  have:=xW (A.right u b)
  unfold fR at this;rw [cs9] at this;exact this.2.1
 R0:=fun q a=>.inr (bc9 a)
 ia:=fun k k' hk c h=>word_inj A.wi hk c h
 ib:=fun k k' _ _ h=>Tp h
 UI:=fun k hk hn=>O7 A.wi hk hn
 rel:=fun q a=>by
  obtain ⟨u,b,_⟩:=Al a;exact A.rel (ax9.1 b).1 (As d a)
 fa:=fun q _=>eP _ _
 fb:=fun q _=>eP _ _
def Iv (w:LW) (us:List cv):om w us=wD (eJ 0 us) jy w.word fun q=>w.lin q.1 q.2.2:=rfl
def Nz (us:List cv):dR us (cy 0 us) us=wD (eJ 0 us) jy (R3 (cy 0 us)) fun q=>ja us (cy 0 us) q.1 q.2.2:=by
 unfold dR wD;refine ck9 fun q a=>?_
 obtain ⟨u,b,c⟩:=Al a
 have:jQ us q.1 q.2.1=some q.1:=D7 b (by
  unfold fR;exact br9 _ (bc9 c))
 unfold dO;rw [this] <;> rfl
def oT.X7 {us:List cv} {w:LW} (A:oT us w) (a:fO w 0 us=none):lZ (om w us)=dQ (fg (dR us (cy 0 us) us)):=by
 rw [Iv,Nz];exact (A.two a).X7
def oT.put {us:List cv} (A:oT us H) (c:fO H 0 us=none) (hc:lZ (om H us)=none) {n:Nat} (hn:n<us.length) (a:H.bad n Y=none) (b:Y.num<4294967296) {ms:List cV} (d:ms.map fJ=(dR us (cy 0 us) us).map fun y=>(y.1,fq (fg (dR us (cy 0 us) us)) y.1)) :
  oh (jr (om H us)) (H.lin n Y)=dz (cG ms) (ja us (cy 0 us) n Y):=by
 have h1:cG ms=cG (fg (jr (dR us (cy 0 us) us))):=Hj (by rw [qv,d]; rfl);rw [h1];show _=oh (jr (dR us (cy 0 us) us)) _;rw [Nz];rw [Iv] at hc ⊢;exact (A.two c).same hc (A.rel hn a) (jl b) (jl b)
def Gs {fs:List cV} (h:es.map fJ=fs.map fJ):dQ es=dQ fs:=by
 unfold dQ;have a:∀ (gs:List cV),(gs.findIdx? fun e=>@decide (kS (dF gs) e.name) (Classical.propDecidable _))=(gs.map fJ).findIdx? fun q=>@decide (kS (dF gs) q.1) (Classical.propDecidable _):=by
  intro gs;rw [fh9] <;> rfl
 rw [a,a,h,Cn h]
def TL {J0:List Xab->Hp->Prop} {h0 h:Hp} {s:Nat} {su lb:bU} {LB:List Lb} {us:List cv} {S:List Xaa} (hga:ga<s) (h0g:h0.size<=ga) (e0:Ext h0 h) (b1:bC h ga 91 [vI f,vI g,.string V])
  (pr:DG h s su lb nu nu LB) (v:xA h0 su.p su.l us) (sz:Ng us) (hL:LB.length<=2^40) (hE:∀ n u,us[n]?=some u->EqW us n u) (hW:∀ n u,us[n]?=some u->Xp us LB S n u) (hnd:((dR us LB us).map (·.1)).Nodup) (hlen:(eJ 0 us).length<=2^20) (hS:S.length<=2^30)
  (hSd:∀ y,y∈dR us LB us->∀ t,t∈y.2.ah->t.1∈S)
  (hk1:∀ h' i q,dQ (fg (dR us LB us))=some i->(eJ 0 us)[i]?=some q->Ext h0 h'->Z (.tuple #[.pointer none,RY ⟨24,q.1,q.2.1⟩]) h')
  (hk0:∀ h' b' st sd tw dw ms,dQ (fg (dR us LB us))=none->ms.map fJ=(dR us LB us).map (fun y=>(y.1,fq (fg (dR us LB us)) y.1))->Ext h0 h'->DG h' s su lb st sd LB->wo h' b' st tw->wo h' b' sd dw->zK us LB ms (·.text) us.length tw->zK us LB ms (·.data) us.length dw->Z (.tuple #[.pointer (some ⟨s,0,none⟩),RY ⟨0,0,dW⟩]) h') :
  UU su.p su.l ⟨ga,0,none⟩ ⟨s,0,none⟩ [J0] Z h:=by
 unfold UU bt aI bP bQ bq eS aF bg cm aQ cY;have hll:=v.len;have hmany:=sz.many;have hgs:=pr.box.lt;have hz0:=e0.size;refine aT (cs:=SC) (fun y k h'=>∃ (i:Nat) (ms:List cV) (ks:List Nat),y.2.2.1=(i:Int)/\k=us.length-i/\i<=us.length/\Ext h h'/\Yq h' h.size y.1.1 y.1.2.1 y.1.2.2 y.2.1.1 y.2.1.2.1 y.2.1.2.2 ms ks/\ms.map fJ=dR us LB (us.take i)/\ks=rn (us.take i))
  ((none,0,0),(none,0,0),(0:Int),()) us.length rfl ⟨0,[],[],rfl,rfl,ad,Ch.refl _ _,⟨SL.nil _ _ _ _,SL.nil _ _ _ _,aj⟩,rfl,rfl⟩ ?_
 rintro ⟨⟨p9,l10,l11⟩,⟨p12,l13,l14⟩,n15,⟨⟩⟩ k h1 ⟨i,ms,ks,hi,rfl,hle,e1,N,A,rfl⟩;simp only at hi N;subst hi;refine ao ?_;refine aR ?_ ?_<;>intro q
 ·have F:i<us.length:=ad
  have hug:us[i]?=some us[i]:=ad9 F;have P:us.take (i+1)=us.take i++[us[i]]:=ae9 F;have hti:(us.take i).length=i:=by rw [az9]; omega
  have hwt:=ic i;obtain ⟨au,sa,sb,sc,sd,hau,hcu,va⟩:=v.cells i F;have hum:=al9 F;generalize us[i]=u at hug P hcu va hum;have ew:=hE i u hug;have hlq:=va.bj.len;have hue:=sz.bj u hum;refine aT (cs:=SC) (fun y k h'=>∃ (j:Nat) (ms:List cV) (ks:List Nat),y.2.2.1=(j:Int)/\k=u.bj.length-j/\j<=u.bj.length/\Ext h h'/\Yq h' h.size y.1.1 y.1.2.1 y.1.2.2 y.2.1.1 y.2.1.2.1 y.2.1.2.2 ms ks /\
   ms.map fJ=dR us LB (us.take i)++(u.bj.take j).map (fun e=>(dO us LB i e.1,ja us LB i e.2))/\ks=rn (us.take i)++List.range j) ((p9,l10,l11),(p12,l13,l14),(0:Int),()) u.bj.length rfl ⟨0,ms,_,rfl,rfl,ad,e1,N,by simpa using A,aj⟩ ?_
  rintro ⟨⟨p16,G,l18⟩,⟨Q,H,R⟩,n22,⟨⟩⟩ k h2 ⟨j,I,ks2,hj,rfl,hlj,C,U,D,rfl⟩;simp only at hj U;subst hj;refine ao ?_;have e02:=e0.trans C;have z2:=C.size;have hwj:=ic j;have hcq:aH h2 ((au.add (i*4)).add 2) 0 [.slice sc.p sc.l sc.c]:=⟨by rw [add_add]; exact (aM e02 aj _ _ hcu).2.2.1,trivial⟩
  have hkl:=te (us.take i) 0;have hsum1:(eJ 0 (us.take i)).length<=(eJ 0 us).length:=by
   have:=sA
   rw [te,te];unfold rn
   conv=>rhs; rw [<- ce9 i us]
   rw [dt9,af9];omega
  refine bS hau ?_;rw [cr i];refine ay ((sc.p,sc.l,sc.c),()) hcq (ao ?_);refine aR ?_ ?_<;>intro r
  ·have W:j<u.bj.length:=ad
   have htj:u.bj.take (j+1)=u.bj.take j++[u.bj[j]]:=ae9 W;refine bS hau ?_;refine ay ((sc.p,sc.l,sc.c),()) hcq (ao ?_);obtain ⟨aq,pq,mq,cq,haq,hce,O,_⟩:=(va.bj.an e02).cells j W;have hem:=al9 W;generalize u.bj[j]=e at htj hce O hem;obtain ⟨M,⟨o,hoo⟩,hsn⟩:=ew e hem;refine bS haq ?_;rw [cr j];refine ay (e.1,(pq,mq,cq),(e.2.num:Int),()) hce (ao ?_);refine br ?_;intro h3 b3 e3 z3;refine bR b3 ?_;intro h4 b4 k4 z4;have b4:bC h4 h2.size 116 [.string e.1,.slice pq mq cq,.int .u32 (e.2.num:Int)]:=b4;have X:Ext h2 h4:=bY e3 k4;refine az b4 (e.1,()) (ao ?_);rw [aE];refine az b4 ((pq,mq,cq),(e.2.num:Int),()) (ao ?_);have e04:=e02.trans X;have prk:∀ {h':Hp},Ext h h'->DG h' s su lb nu nu LB:=fun e=>pr.an e
   refine aK (Kw (prk (C.trans X)) (v.an e04) sz F hL hoo hsn) ?_;rintro _ h5 ⟨rfl,e5⟩;refine ⟨(dO us LB i e.1,()),rfl,ao ?_⟩;have b45:=b4.an e5 aj;refine ⟨⟨b45.cells _ rfl,trivial⟩,?_⟩;have e25:=X.trans e5;refine aK (Gn (d:=cq) (prk (C.trans e25)) (v.an (e02.trans e25)) sz F hL (O.vw.an e25 aj) M.nf M.num M.len M.own M.sz) ?_;rintro _ h6 ⟨e6,p6,l6,c6,rfl,s6⟩;refine ⟨((p6,l6,c6),((ja us LB i e.2).num:Int),()),rfl,ao ?_⟩;have b46:=b45.an e6 aj;refine ⟨⟨b46.cells _ rfl,trivial⟩,?_⟩;have e26:=e25.trans e6;have o6:=U.ext e26;have z26:=e26.size;have z25:=e25.size;have hl17:G=I.length:=by have:=U.out.1; rwa [ab9] at this
   have hl20:H=(rn (us.take i)++List.range j).length:=by have:=U.num.1; rwa [ab9] at this
   rw [af9,du9] at hl20;have hm2:I.length=(eJ 0 (us.take i)).length+j:=by
    have:=as9 List.length D
    rw [ab9,af9,ab9,az9,dc9 hlj] at this;unfold dR at this
    rwa [ab9] at this
   refine gR (vs:=A0 ⟨dO us LB i e.1,p6,l6,c6,ja us LB i e.2⟩) Du MP rfl ad ad (IS _ _ _ _ _) rfl rfl o6.out ad ad ad (fun h' x=>⟨(b46.an x aj).cells _ rfl,(b46.an x aj).cells _ rfl,trivial⟩) ?_;intro p7 c7 h7 s7 k7 hp7;have hbx7:=SL.zL o6.out;have hnb:h2.size∉aJ p16:=fun hh=>by have:=(U.out.cB hh).2; omega
   have b47:=b46.an k7 hnb;refine ⟨⟨b47.cells _ rfl,b47.cells _ rfl,trivial⟩,?_⟩;have n7:SL h7 h.size 3 1 Q H R ((rn (us.take i)++List.range j).map Nr):=SL.rj o6.num k7 hbx7 bT;have i7:∀ x,x∈I++[⟨dO us LB i e.1,p6,l6,c6,ja us LB i e.2⟩]->SL h7 h.size 64 2 x.p x.l x.c (x.x.ah.map dp):=fun x L=>by
    rcases ar9.1 L with L | L
    ·exact SL.rj (o6.fC x L) k7 hbx7 bT
    ·rw [ai9.1 L];exact SL.rj (s6.mono ad) k7 hbx7 bT
   have z7:=k7.size;refine gh (vs:=Nr j) uO T8 rfl ad ad (FB _) rfl rfl n7 ad ad ad ?_;intro p8 c8 h8 s8 k8 hp8;have hbx8:=SL.zL n7;have e7:Ext h h7:=Ch.trans (C.trans e26) k7 (fun q hq hl=>by have:=(U.out.cB hq).1; omega);have e8:Ext h h8:=Ch.trans e7 k8 (fun q hq hl=>by have:=(n7.cB hq).1; omega);refine aG (cs:=SC) ((p7,G+1,c7),(p8,H+1,c8),((j+1:Nat):Int),()) (u.bj.length-(j+1)) rfl ad (as9 (fun V=>[Value.slice p7 (G+1) c7,.slice p8 (H+1) c8,Value.int .i64 V]) hwj)
    ⟨j+1,I++[⟨dO us LB i e.1,p6,l6,c6,ja us LB i e.2⟩],_,rfl,rfl,ad,e8,⟨?_,?_,fun x L=>SL.rj (i7 x L) k8 hbx8 bT⟩,?_,rfl⟩
   ·have:SL h7 h.size 116 3 p7 (G+1) c7 ((I++[(⟨dO us LB i e.1,p6,l6,c6,ja us LB i e.2⟩:cV)]).map A0):=by rw [ao9]; exact s7
    exact SL.rj this k8 hbx8 bT
   ·rw [fs9,<- ay9,ao9];exact s8
   ·rw [htj,ao9,ao9,D,ay9] <;> rfl
  ·have:j=u.bj.length:=ad
   subst this;rw [bj9] at D;refine aG (cs:=SC) ((p16,G,l18),(Q,H,R),((i+1:Nat):Int),()) (us.length-(i+1)) rfl ad (as9 (fun V=>[Value.slice p16 G l18,.slice Q H R,Value.int .i64 V]) hwt)
    ⟨i+1,I,_,rfl,rfl,ad,C,U,?_,?_⟩
   ·rw [D,P,Ta,hti]
   ·rw [P,LK]
 ·have:i=us.length:=ad
  subst this;rw [bj9] at A N;have z1:=e1.size;have e01:=e0.trans e1;have pr1:=pr.an e1;have b11:=b1.an e1 aj;have hkm:ms.map fJ=(fg (dR us LB us)).map fJ:=by rw [A,qv]
  have hml:ms.length=(eJ 0 us).length:=by
   have:=as9 List.length A
   rw [ab9] at this;rw [this];unfold dR;rw [ab9]
  have hnm:(aX ms).Nodup:=by
   have:aX ms=(dR us LB us).map (·.1):=by
    rw [<- A,bf9] <;> rfl
   rw [this];exact hnd
  have hmem:∀ e,e∈ms->fJ e∈dR us LB us:=fun e J=>by
   rw [<- A];exact an9.2 ⟨e,J,rfl⟩
  have E:∀ e,e∈ms->ue S e.x:=fun e J=>by
   have h1:=hmem e J;have h2:=hSd _ h1;unfold dR at h1;obtain ⟨q,hq,hqe⟩:=an9.1 h1;have L:e.x=ja us LB q.1 q.2.2:=(as9 (·.2) hqe).symm;obtain ⟨n,hn,hn1,hn2⟩:=wM us 0 q hq;have hqn:q.1=n:=ad
   have hew:=hE n us[n] (ad9 hn) q.2 hn2;exact ⟨by rw [L]; exact Lo _ _ _ _,by rw [L]; exact Gg hew.1.num,h2⟩
  have ve:uV h1 p9 l10 ms:=⟨by have:=N.out.1; rwa [ab9] at this,fun i hi=>by
   obtain ⟨f,ha,hc⟩:=SL.cells N.out (i:=i) (by rw [ab9]; exact hi);rw [am9] at hc;exact ⟨f,ha,hc⟩,fun e J=>(N.fC e J).NF⟩
  refine aK (Mw (c:=l11) (B:=h.size) z1 ve (fun e J i hi=>(N.fC e J).cB hi) hnm ad hS E) ?_;rintro w h2 ⟨C,hw⟩;rw [Gs hkm] at hw;cases hf:dQ (fg (dR us LB us)) with
  | some i0 =>
   rw [hf] at hw;subst hw;refine ⟨((none,0,0),(i0:Int),(24:Int),()),rfl,ao ?_⟩;refine cj rfl ?_;have hi0:i0<(eJ 0 us).length:=by
    have h1:=hf;unfold dQ at h1;rw [bd9] at h1;obtain ⟨h2,_⟩:=h1
    have:(fg (dR us LB us)).length=(eJ 0 us).length:=by unfold fg dR; rw [ab9,ab9]
    omega
   exact SJ (lv:=2) (i0:=i0) rfl h0g (e01.trans C) (b11.an C aj) (v.an (e01.trans C)) hmany (N.num.bK C aj) ad (ad9 hi0) fun h' e'=>hk1 h' i0 _ hf (ad9 hi0) e'
  | none =>
   rw [hf] at hw;obtain ⟨p',l',c',ns,rfl,on⟩:=hw;refine ⟨((p',l',c'),(0:Int),(0:Int),()),rfl,ao ?_⟩;refine cg rfl ?_;have hin:∀ m,m∈ns->∃ e,e∈ms/\m.name=e.name/\m.x=U2 (cG ms) ms.length e.x:=fun m hm=>by
    obtain ⟨j,hj,rfl⟩:=bg9 hm;have hj':j<ms.length:=by rw [<- on.len]; exact hj
    obtain ⟨h1,h2⟩:=on.eq j ms[j] ns[j] (ad9 hj') (ad9 hj);exact ⟨ms[j],al9 hj',h1,h2⟩
   have vn:uV h2 p' l' ns:=⟨by have:=on.out.1; rwa [ab9] at this,fun i hi=>by
    obtain ⟨f,ha,hc⟩:=SL.cells on.out (i:=i) (by rw [ab9]; exact hi);rw [am9] at hc;exact ⟨f,ha,hc⟩,on.fC⟩
   have hkn:ns.map fJ=(dR us LB us).map (fun y=>(y.1,fq (fg (dR us LB us)) y.1)):=by
    rw [<- A,bf9,A];apply fo9
    ·rw [ab9,ab9,on.len]
    ·intro j h1' Y;rw [ab9] at h1' Y;rw [am9,am9];obtain ⟨h1,h2⟩:=on.eq j ms[j] ns[j] (ad9 Y) (ad9 h1');have h3:=Tu hnm (fun e J=>(E e J).num) (al9 Y);unfold fJ;rw [h1,h2,h3];show _=(ms[j].name,fq (fg (dR us LB us)) ms[j].name);rw [KR hkm]
   have z2:=C.size;refine TW (lv:=2) (S:=S) rfl hga h0g (e01.trans C) (b11.an C aj) (pr1.an C) (v.an (Ch.refl _ _)) sz hL vn (fun i hi=>by have:=(on.out.cB hi).1; omega) (fun e J i hi=>by have:=(on.low e J i hi).1; omega) (by rw [on.len]; omega) hS (fun e J=>by
    obtain ⟨d,hd,_,L⟩:=hin e J;rw [L];exact ue.it E (E d hd) _) hW ?_
   intro h' st sd tw dw e' pr' t' d' i1 i2;exact hk0 h' _ st sd tw dw ns hf hkn e' pr' t' d' i1 i2
theorem Be (u:cv):∀ (l:List cv) (n:Nat),cy n (l++[u])=cy n l++Hv (n+l.length) u
 | [],n=>by simp [cy]
 | y::l,n=>by
  simp only [List.cons_append,cy,List.length_cons];rw [Be u l (n+1),show n+1+l.length=n+(l.length+1) from ad,ay9]
def BT (us:List cv) (i:Nat):(cy 0 (us.take i)).length<=(cy 0 us).length:=by
 have c:∀ (a b:List cv) (n:Nat),(cy n a).length<=(cy n (a++b)).length:=by
  intro a
  induction a with
  | nil=>intro b n; simp [cy]
  | cons u a d =>
   intro b n;simp only [List.cons_append,cy,List.length_append]
   have:=d b (n+1)
   omega
 have:=c (us.take i) (us.drop i) 0
 rwa [ce9] at this
structure Px (us:List cv) (S:List Xaa):Prop where
 sz:Ng us
 eK:(cy 0 us).length<=2^39
 bj:∀ n u,us[n]?=some u->EqW us n u
 items:∀ n u,us[n]?=some u->Xp us (cy 0 us) S n u
 nd:((dR us (cy 0 us) us).map (·.1)).Nodup
 len:(eJ 0 us).length<=2^20
 names:S.length<=2^30
 fC:∀ y,y∈dR us (cy 0 us) us->∀ t,t∈y.2.ah->t.1∈S
def DZ (us:List cv) (su:bU) (w:Xab) (h':Hp):Prop :=
 if (fS us).rD≠0 then w=.tuple #[.pointer none,RY (fS us)]
 else (∃ i q,dQ (fg (dR us (cy 0 us) us))=some i/\(eJ 0 us)[i]?=some q/\w=.tuple #[.pointer none,RY ⟨24,q.1,q.2.1⟩]) \/
  ∃ g b' lb st sd tw dw ms,dQ (fg (dR us (cy 0 us) us))=none/\w=.tuple #[.pointer (some ⟨g,0,none⟩),RY ⟨0,0,dW⟩]/\ms.map fJ=(dR us (cy 0 us) us).map (fun y=>(y.1,fq (fg (dR us (cy 0 us) us)) y.1)) /\
   DG h' g su lb st sd (cy 0 us)/\wo h' b' st tw/\wo h' b' sd dw/\zK us (cy 0 us) ms (·.text) us.length tw/\zK us (cy 0 us) ms (·.data) us.length dw
def C0 {su:bU} {us:List cv} {S:List Xaa} (v:xA O su.p su.l us) (M:(fS us).rD=0->Px us S):HC Xaz 24 #[.slice su.p su.l su.c] O fun w h'=>Ext O h'/\DZ us su w h':=by
 refine bd (args:=[.slice su.p su.l su.c]) mixed Tryz.func24 ax (oz su.p su.l su.c) ?_;unfold kE aY bh bt aI eG bP bn bq aF bG bg cm aQ cY;have hll:=v.len;refine br ?_;intro h1 N I z1;refine aK (JI (c:=su.c) (v.an I)) ?_;rintro _ h2 ⟨rfl,r⟩;refine ⟨(((fS us).rD:Int),((fS us).unit:Int),(fS us).name,()),rfl,ao ?_⟩;have b12:=N.an r aj;have e02:=I.trans r;refine br ?_;intro h3 P Q z3;refine bR P ?_;intro h4 f R z4;have f:bC h4 h2.size 91 [vI ((fS us).rD:Int),vI ((fS us).unit:Int),.string (fS us).name]:=f;have j:Ext h2 h4:=bY Q R;have e04:=e02.trans j;have b14:=b12.an j aj;have z2:=r.size;refine az f (((fS us).rD:Int),()) (ao ?_);refine aw ?_ ?_<;>intro g
 ·have g:(fS us).rD≠0:=by
   intro U;rw [U] at g;cases g
  refine az f (((fS us).rD:Int),((fS us).unit:Int),(fS us).name,()) (ao ?_);refine ⟨⟨f.cells _ rfl,trivial⟩,?_⟩;refine bR b14 ?_;intro s a V W;have a:bC s O.size 91 [vI ((fS us).rD:Int),vI ((fS us).unit:Int),.string (fS us).name]:=a;refine az a (((fS us).rD:Int),((fS us).unit:Int),(fS us).name,()) ?_;refine ⟨bY e04 V,?_⟩;unfold DZ;rw [ag9 g] <;> rfl
 ·have g:(fS us).rD=0:=by
   have:(((fS us).rD:Nat):Int)=0:=by simpa using g
   omega
  have C:=M g;refine br ?_;intro s a X W;have a:bC s h4.size 45 [su.v,nu.v,nu.v,nu.v]:=a;have v4:=v.an e04;have hmany:=C.sz.many;refine aT (cs:=cI) (fun y k h'=>∃ (i:Nat) (lb:bU),y.1=(i:Int)/\k=us.length-i/\i<=us.length/\Ext h4 h'/\DG h' h4.size su lb nu nu (cy 0 (us.take i))) ((0:Int),()) us.length rfl
   ⟨0,nu,rfl,rfl,ad,X,⟨a,SL.nil _ _ _ _⟩⟩ ?_
  rintro ⟨n8,⟨⟩⟩ k h6 ⟨i,lb,hi,rfl,Y,o,pr⟩;simp only at hi;subst hi;refine ao ?_;have hw:=ic i;refine aR ?_ ?_<;>intro q
  ·have b:i<us.length:=ad
   have m:us.take (i+1)=us.take i++[us[i]]:=ae9 b;have t:(us.take i).length=i:=by rw [az9]; omega
   obtain ⟨J,sa,sb,sc,sd,n,d,x⟩:=v4.cells i b;have hum:=al9 b;generalize us[i]=u at m d x hum;have h1t:=C.sz.text u hum;have h1d:=C.sz.data u hum;have hlt:=BT us i;have hlb:=C.eK;have hl1:=sy i 0 u.text 0;have K:∀ {h':Hp},Ext h4 h'->aH h' (J.add (i*4)) 0 [.slice sa.p sa.l sa.c]/\aH h' ((J.add (i*4)).add 1) 0 [.slice sb.p sb.l sb.c]:=fun e=>⟨⟨(aM e aj _ _ d).1,trivial⟩,⟨by rw [add_add]; exact (aM e aj _ _ d).2.1,trivial⟩⟩
   refine bS n ?_;rw [cr i];refine ay ((sa.p,sa.l,sa.c),()) (K o).1 (ao ?_);refine aK (FQ (c:=sa.c) (aq9 _) o pr x.text ad i 0) ?_;rintro _ h7 ⟨rfl,L,z7,Z,A⟩;refine ⟨(),rfl,ao ?_⟩;refine bS n ?_;refine ay ((sb.p,sb.l,sb.c),()) (K L).2 (ao ?_);refine aK (FQ (c:=sb.c) (aq9 _) L A x.data (by rw [af9]; omega) i 1) ?_;rintro _ h8 ⟨rfl,e8,z8,B,D⟩;refine ⟨(),rfl,ao ?_⟩;refine aG (cs:=cI) (((i+1:Nat):Int),()) (us.length-(i+1)) rfl ad (as9 (fun z=>[Value.int .i64 z]) hw) ⟨i+1,B,rfl,rfl,ad,e8,?_⟩;rw [m,Be,t,bu9];unfold Hv;rw [<- ay9];exact D
  ·have:i=us.length:=ad
   subst this;rw [bj9] at pr;have e06:=e04.trans o;refine TL (h0:=O) (S:=S) (by have:=e04.size; omega) (aq9 _) e06 (b14.an o aj) pr v C.sz (by have:=C.eK; omega) C.bj C.items C.nd C.len C.names C.fC (fun h' i q E hq F=>⟨F,?_⟩) (fun h' b' st sd tw dw ms E G F H t' d' i1 i2=>⟨F,?_⟩)
   ·unfold DZ;rw [ac9 ad];exact .inl ⟨i,q,E,hq,rfl⟩
   ·unfold DZ;rw [ac9 ad];exact .inr ⟨_,b',lb,st,sd,tw,dw,ms,E,rfl,G,H,t',d',i1,i2⟩
def LQ {us:List cv} (A:oT us H) {n:Nat} (hn:n<us.length) (x:bM):H.bad n x=mR us n x:=by
 unfold LW.bad mR
 have:(fun t:Xaa × Nat=>(H.own n t.1).isNone)=fun t=>(jQ us n t.1).isNone:=by
  funext t
  rw [A.own hn]
  all_goals (cases jQ us n t.1 <;> rfl)
 rw [this]
def yn (w:LW) (n:Nat) (u:cv):sB w n u=(cR u).findSome? (w.bad n):=by
 unfold sB LW.zX cR;rw [fg9,fg9,List.findSome?_map,List.findSome?_map,List.findSome?_map,Option.or_assoc] <;> rfl
theorem FP {us:List cv} {n:Nat}:∀ (l:List bM),(∀ x,x∈l->∀ t,t∈x.ah->¬ t.1.data.toList=[])->((rE us n l).data.toList=[]↔l.findSome? (mR us n)=none)/\∀ s,l.findSome? (mR us n)=some s->rE us n l=s
 | [],_=>by
  refine ⟨⟨fun _=>rfl,fun _=>rfl⟩,fun s c=>by cases c⟩
 | x::l,h=>by
  obtain ⟨d,f⟩:=FP l fun y g=>h y (ap9 _ g)
  have hx:=h x aj;have b:rE us n (x::l)=if (ee us n x).data.toList=[] then rE us n l else ee us n x:=by
   unfold rE;rw [bq9,fd9]
   by_cases e:(ee us n x).data.toList=[]
   ·rw [ag9 e];simp [e]
   ·rw [ac9 e];simp [e]
  rw [List.findSome?_cons];cases a:mR us n x with
  | none =>
   have:ee us n x=⟨#[]⟩:=by unfold ee; rw [a]; rfl
   rw [b,ag9 (by rw [this])];exact ⟨d,f⟩
  | some s =>
   have h1:ee us n x=s:=by unfold ee; rw [a]; rfl
   have h2:¬ s.data.toList=[]:=by
    unfold mR at a;obtain ⟨t,ht,rfl⟩:=et9.1 a;exact hx t (List.mem_of_find?_eq_some ht)
   rw [b,ac9 (by rw [h1]; exact h2),h1];refine ⟨⟨fun k=>absurd k h2,fun k=>by cases k⟩,fun r i=>by cases i; rfl⟩
def WX {us:List cv} (A:oT us H) (a:∀ u,u∈us->∀ x,x∈cR u->∀ t,t∈x.ah->¬ t.1.data.toList=[]) {n:Nat} (hn:n<us.length):Ck us n=(sB H n us[n]).map fun s=>(n,s):=by
 have c:H.bad n=mR us n:=funext fun x=>LQ A hn x
 obtain ⟨h1,h2⟩:=FP (us:=us) (n:=n) (cR us[n]) (a _ (al9 hn));unfold Ck;rw [ad9 hn,dk9,yn,c];cases b:(cR us[n]).findSome? (mR us n) with
 | none=>rw [ag9 (h1.2 b)]; rfl
 | some s =>
  rw [b] at h1;have h2:=h2 s b;rw [ac9 (fun k=>by cases h1.1 k),h2] <;> rfl
theorem Ka {us:List cv} {w:LW} (A:oT us w) (b:∀ u,u∈us->∀ x,x∈cR u->∀ t,t∈x.ah->¬ t.1.data.toList=[]):∀ (k n:Nat),us.length-n=k->n<=us.length->(∀ j,j<n->Ck us j=none)->PK us=fO w n (us.drop n)
 | 0,n,hk,hn,c=>by
  have:n=us.length:=ad
  subst this;rw [de9];exact ka _ _ c
 | k+1,n,hk,hn,c=>by
  have a:n<us.length:=ad
  rw [BH w us n a];have hu:=WX A b a;cases d:sB w n us[n] with
  | some s =>
   rw [d] at hu;exact kq _ _ _ n a c hu
  | none =>
   rw [d] at hu;refine Ka A b k (n+1) ad a fun j f=>?_
   by_cases e:j=n
   ·subst e; exact hu
   ·exact c j ad
def Sy (g:Good Y):∀ t,t∈Y.ah->¬ t.1.data.toList=[]:=by
 intro t ht e;have h:=g.Ku t ht;rw [e] at h;cases h
def Td (g:Good Y):∀ t,t∈Y.ah->t.1.size<=32:=by
 intro t ht;have h:=g.Ku t ht;unfold cE at h;simp only [Bool.and_eq_true] at h
 have:=ah9 h.1.1.1.2
 simpa using this
def FC (us:List cv):Except Fl LP->Prop
 | .error f=>f.rD≠0/\(fS us=f\/((fS us).rD=0/\(us.length<=64/\∃ w,oT us w/\fO w 0 us=none)/\∃ i q,dQ (fg (dR us (cy 0 us) us))=some i/\(eJ 0 us)[i]?=some q/\f=⟨24,q.1,q.2.1⟩))
 | .ok P=>(fS us).rD=0/\us.length<=64/\P.us=us/\P.D=om P.w us/\oT us P.w/\fO P.w 0 us=none/\lZ (om P.w us)=none/\dQ (fg (dR us (cy 0 us) us))=none
def UD {D:List (Xaa × bM)} {i:Nat} (h:lZ D=some i):i<D.length:=by
 unfold lZ at h;rw [bd9] at h;exact h.1
def Bw {us:List cv} (sm:∀ u,u∈us->∀ x,x∈cR u->x.num<4294967296/\∀ t,t∈x.ah->t.2<4294967296):FC us (mP us):=by
 unfold mP
 by_cases h0:us.length=0
 ·rw [ag9 h0];refine ⟨aj,.inl ?_⟩;unfold fS;rw [ag9 h0]
 rw [ac9 h0]
 by_cases b:64<us.length
 ·rw [ag9 b];refine ⟨aj,.inl ?_⟩;unfold fS;rw [ac9 h0,ag9 b]
 rw [ac9 b];have a:fS us=match us.findIdx? fun u=>decide (fz u≠0) with
  | some n=>⟨31,n,dW⟩
  | none=>match FL us with
   | some q=>⟨22,q.1,q.2⟩
   | none=>match PK us with
    | some q=>⟨23,q.1,q.2⟩
    | none=>⟨0,0,dW⟩:=by
  unfold fS;rw [ac9 h0,ac9 b] <;> rfl
 cases e:us.findIdx? fun u=>decide (fz u≠0) with
 | some n =>
  rw [e] at a;exact ⟨aj,.inl a⟩
 | none =>
  rw [e] at a;have f:∀ u,u∈us->fz u=0:=by
   intro u hu;rw [ca9] at e
   have:=av9 (e u hu)
   omega
  have i0:=UY f;have g:∀ s,(nU 0 us UR).gl s=none:=by
   have p:∀ (n sec:Nat) (l:List cC) (i:Nat) (w:LW),(je n sec i l w).gl=w.gl:=by
    intro n sec l
    induction l with
    | nil=>intro i w; rfl
    | cons x l d =>
     intro i w;rw [je,d];unfold jT;split <;> rfl
   have y:∀ (n:Nat) (l:List sS) (w:LW),(l.foldl (vP n) w).gl=w.gl:=by
    intro n l
    induction l with
    | nil=>intro w; rfl
    | cons x l d=>intro w; rw [bt9,d]; rfl
   have z:∀ (l:List cv) (n:Nat) (w:LW),(nU n l w).gl=w.gl:=by
    intro l
    induction l with
    | nil=>intro n w; rfl
    | cons u l d =>
     intro n w;rw [nU,d];unfold He;rw [y,p,p]
   intro s;rw [z] <;> rfl
  have hm:=Ga us us.length 0 (nU 0 us UR) ad (em9 _) (fun s=>by rw [g]; rfl) (fun j h=>absurd h ad);rw [List.drop_zero] at hm;simp only;cases k:lr 0 us (nU 0 us UR) with
  | error q =>
   rw [k] at hm;have hm:FL us=some q:=hm;rw [hm] at a;exact ⟨aj,.inl a⟩
  | ok w =>
   rw [k] at hm;obtain ⟨B,C⟩:FL us=none/\∀ s,w.gl s=Sq us s:=hm
   rw [B] at a;have A:oT us w:=⟨f,i0.meet k,C⟩
   have m:∀ u,u∈us->∀ x,x∈cR u->∀ t,t∈x.ah->¬ t.1.data.toList=[]:=fun u hu x D=>Sy (BW (f u hu) (sm u hu) x D)
   have hu:=Ka A m us.length 0 ad (em9 _) (fun j h=>absurd h ad);rw [List.drop_zero] at hu;rw [hu] at a;cases c:fO w 0 us with
   | some q =>
    rw [c] at a;simp only [c];exact ⟨aj,.inl a⟩
   | none =>
    rw [c] at a;have r:(fS us).rD=0:=by rw [a]
    have hcy:=A.X7 c;cases hc:lZ (om w us) with
    | some i =>
     have hi:=UD hc;have hi:i<(eJ 0 us).length:=by unfold om at hi; rwa [ab9] at hi
     simp only [c,hc];refine ⟨aj,.inr ⟨r,⟨ad,w,A,c⟩,i,(eJ 0 us)[i],by rw [<- hcy,hc],ad9 hi,?_⟩⟩;have o:((eJ 0 us).map fun q=>(q.1,q.2.1)).getD i (0,dW)=((eJ 0 us)[i].1,(eJ 0 us)[i].2.1):=by
      rw [cf9,ci9,ad9 hi] <;> rfl
     rw [o]
    | none =>
     simp only [c,hc];exact ⟨r,ad,rfl,rfl,A,c,hc,by rw [<- hcy,hc]⟩
def E6 (us:List cv):List Xaa:=((cy 0 us).map Ao++(eJ 0 us).map jy).map (R3 (cy 0 us))
def G' {us:List cv} (sm:H7 us) (j:us.length<=64) (A:oT us H) (D:fO H 0 us=none):Px us (E6 us):=by
 have r:Fw us:=⟨A.right,j⟩
 have F:∀ u,u∈us->∀ x,x∈cR u->Good x:=fun u b=>BW (A.right u b) (sm.num u b)
 have l:∀ n u,us[n]?=some u->∀ x,x∈cR u->H.bad n x=none:=by
  intro n u b x c;have hn:=(ax9.1 b).1;have h1:=j1 us 0 D n hn;have h:us[n]=u:=(ax9.1 b).2;rw [bu9,h,yn,cx9] at h1;exact h1 x c
 have i:∀ n u,us[n]?=some u->∀ x,x∈cR u->∀ t,t∈x.ah->∃ o,jQ us n t.1=some o:=by
  intro n u b x c t ht;obtain ⟨k,hk⟩:=Bv (l n u b x c) t ht;rw [A.own (ax9.1 b).1] at hk;obtain ⟨o,B,_⟩:=et9.1 hk;exact ⟨o,B⟩
 have d:∀ n u,us[n]?=some u->∀ x,x∈cR u->Rf us n x:=by
  intro n u b x c;have hm:=cp9 b;have g:=F u hm x c;refine ⟨g.nf,g.num,?_,i n u b x c,fun t ht=>?_⟩
  ·have:=sm.len hm c
   omega
  ·have:=Td g t ht
   omega
 have C:∀ n u,us[n]?=some u->∀ x,x∈cR u->∀ t,t∈x.ah->dO us (cy 0 us) n t.1∈E6 us:=by
  intro n u b x c t ht;obtain ⟨o,B⟩:=i n u b x c t ht;unfold dO;rw [B,Option.getD_some];exact bc9 (f:=R3 (cy 0 us)) (a:=(o,t.1)) (ar9.2 (Fo A.right B))
 have m:∀ u:cv,∀ x,x∈u.text->x.e∈cR u:=fun u x c=>bh9 _ (bh9 _ (bc9 c))
 have s:∀ u:cv,∀ x,x∈u.data->x.e∈cR u:=fun u x c=>bh9 _ (br9 _ (bc9 c))
 have z:∀ u:cv,∀ e,e∈u.bj->e.2∈cR u:=fun u e h=>br9 _ (bc9 h)
 refine ⟨Ng.of j A.right,?_,fun n u b e h=>⟨d n u b _ (z u e h),?_,?_⟩,fun n u b=>⟨fun x c=>⟨d n u b _ (m u x c),C n u b _ (m u x c)⟩,fun x c=>⟨d n u b _ (s u x c),C n u b _ (s u x c)⟩⟩,?_,?_,?_,?_⟩
 ·have:=r.eK; omega
 ·exact ⟨n,D7 b (br9 _ (bc9 h))⟩
 ·have h1:=(A9 (A.right u (cp9 b))).2;unfold xr at h1;simp only [Bool.and_eq_true] at h1;have h2:=(uN h1.1.2 e h).1;unfold cE at h2;simp only [Bool.and_eq_true] at h2;have h3:=ah9 h2.1.1.1.2;have J:e.1.size<=32:=by simpa using h3
  omega
 ·rw [Nz];exact (A.two D).symm.WO
 ·have:=r.eqs; omega
 ·unfold E6;rw [ab9,af9,ab9,ab9];have h1:=r.eK;have h2:=r.eqs;omega
 ·intro y E t ht;unfold dR at E;obtain ⟨q,G,rfl⟩:=an9.1 E;obtain ⟨u,b,h⟩:=Al G;obtain ⟨p,I,e⟩:=GW ht;rw [e];exact C q.1 u b _ (z u q.2 h) p I
theorem iA {h:Hp} {a:Xax}:∀ (n:Nat) (b:List Xab) (i:Nat),aH h a i b->aH h a (i+n) (b.drop n)
 | 0,b,i,hc=>hc
 | n+1,[],i,hc=>trivial
 | n+1,v::b,i,hc=>by
  have:=iA n b (i+1) hc.2
  rw [show i+1+n=i+(n+1) from ad] at this;exact this
theorem jx {h:Hp} {a:Xax}:∀ (b:List Xab) (o i:Nat),aH h a (o+i) b->aH h (a.add o) i b
 | [],_,_,_=>trivial
 | v::b,o,i,h1=>⟨by have:=h1.1; rw [add_add]; exact this,jx b o (i+1) h1.2⟩
theorem fe {h:Hp} {a:Xax}:∀ (n:Nat) (b:List Xab) (i:Nat),aH h a i b->aH h a i (b.take n)
 | 0,b,i,hc=>trivial
 | n+1,[],i,hc=>trivial
 | n+1,v::b,i,hc=>⟨hc.1,fe n b (i+1) hc.2⟩
def _root_.Go.Sx.rW.sQ {h':Hp} {a j l c m d sz:Nat} {ms:List cV} {xs:List (List Xab)} (o:rW O a U l c ms) (t:SL O j e sz b m d xs) (k:Ch (aJ b) O h') (h1:e≠116) (h2:e≠64):rW h' a U l c ms :=
 ⟨o.out.bK k (fun i hi f=>wy t o.out h1 i f hi),fun m f=>(o.fC m f).bK k (fun i hi g=>wy t (o.fC m f) h2 i g hi),o.ap,o.dj⟩
def rT (of:Xaa->Option bM) (x:cC):cC:={ x with e:=dz of x.e }
def VG (c:Xac) (b:Nat) (d:Xac) (e f r:Nat) (k:T):T :=
 T.loop [aQ] [vI (0:Int)] <| fun (a:Int) =>
     bt a b
     (T.need (eS a b) <|
     T.bf c <| fun (g:Xax) =>
     T.af ((g.add (aI a 10)).add 7) [.slice 64,.int .u32] <| fun (h:Xac) (i j:Nat) (l:Int) =>
     bP 38 [.agg #[.slice h i j,aF l],.slice d e f] false [(true,[.slice 64,.int .u32])] <| fun (m:Xac) (n o:Nat) (p:Int) =>
     T.need (eS a b) <|
     T.bf c <| fun (q:Xax) =>
     T.aD ((q.add (aI a 10)).add 7) [.slice m n o,aF p] <|
     T.again r [vI (bq (a+(1:Int)))])
     k
structure No (h:Hp) (b:Nat) (p:Xac) (l c:Nat) (ms:List cV):Prop where
 own:rW h b p l c ms
 ok:EqsOk ms
 het:∀ e,e∈ms->e.x.ah.length<=2^20
 XK:(ms.flatMap (·.x.ah)).length<=2^39
 len:ms.length<=2^20
def No.ext {h':Hp} {b l c:Nat} {ms:List cV} (s:No O b U l c ms) (k:Ext O h'):No h' b U l c ms:=⟨s.own.an k aj,s.ok,s.het,s.XK,s.len⟩
def No.sQ {h h':Hp} {b a:Nat} {p q:Xac} {l c m d sz:Nat} {e:TypeId} {ms:List cV} {xs:List (List Xab)} (o:No h b p l c ms) (t:SL h a e sz q m d xs) (k:Ch (aJ q) h h') (h1:e≠116) (h2:e≠64):No h' b p l c ms :=
 ⟨o.own.sQ t k h1 h2,o.ok,o.het,o.XK,o.len⟩
def Kb (ws:List (bU × cC)):Prop:=∀ u,u∈ws->u.2.e.ah.length<=2^20/\u.2.e.num<4294967296/\∀ t,t∈u.2.e.ah->t.1.size<=maxLen
def UE {L:Lp} {K:Xab->Hp->Prop} {h:Hp} {b N Q:Nat} {S:Nat->kV} {w:Xac} {x n X:Nat} {k:T} {ms:List cV} (R:X=L.length) (s:lU h b N S) {j:Nat} (C:j<N) (t:No h Q w x n ms) (ok:Kb (S j).ws) (Y:(S j).ws.length<=2^20)
  (hk:∀ h' f J,lU h' b N f->(∀ i,i≠j->f i=S i)->(f j).s=(S j).s->(f j).ws.map (·.2)=(S j).ws.map (fun u=>rT (cG ms) u.2)->Ch (aJ (S j).s.p) h h'->No h' Q w x n ms->k (L++[J]) K h') :
  VG (S j).s.p (S j).s.l w x n X k L K h:=by
 subst R;unfold VG bt aI bP bq eS aF aQ;have U:(S j).s.l=(S j).ws.length:=by have:=(s.sec j C).out.1; rwa [ab9] at this
 generalize D:(S j).ws=ws at *;generalize hl:(S j).s.l=l at *;subst U;refine aT (cs:=cI) (fun y Z h'=>∃ (i:Nat) (f:Nat->kV),y.1=(i:Int)/\i<=ws.length/\Z=ws.length-i/\lU h' b N f/\(∀ i,i≠j->f i=S i)/\(f j).s=(S j).s/\(f j).ws.length=ws.length/\(∀ m,(B:m<ws.length)->(E:m<(f j).ws.length)->if m<i then (f j).ws[m].2=rT (cG ms) ws[m].2 else (f j).ws[m]=ws[m])/\Ch (aJ (S j).s.p) h h'/\No h' Q w x n ms) ((0:Int),()) ws.length rfl
  ⟨0,S,rfl,ad,ad,s,fun _ _=>rfl,rfl,by rw [D],fun m B E=>by rw [ac9 ad]; simp only [D],Ch.refl _ _,t⟩ ?_
 clear s t;rintro ⟨n58,⟨⟩⟩ Z h1 ⟨i,f,hi,hil,rfl,s,so,A,sl,V,k1,t⟩;simp only at hi;subst hi;refine ao ?_;refine aR ?_ ?_<;>intro q
 ·have F:i<ws.length:=ad
  have g:i<(f j).ws.length:=ad
  have sj:=s.sec j C;have hwi:=V i F g;rw [ac9 ad] at hwi;have okw:=ok ws[i] (al9 F);have hin:=sj.fC _ (al9 g);obtain ⟨a,G,hc⟩:=sj.out.cells (i:=i) (by simpa using g);rw [am9,hwi] at hc;rw [hwi] at hin;rw [A] at G;generalize hu:ws[i]=u at okw hin hc;refine bS G ?_;rw [cr i];refine ay ((u.1.p,u.1.l,u.1.c),(u.2.e.num:Int),()) (fe 2 [_,_,_] 0 (jx _ 7 0 (iA 7 _ 0 hc))) (ao ?_);refine aK (OT (c:=u.1.c) (d:=n) (xP hin) (Ec t.own) t.ok t.het t.XK t.len okw.1 okw.2.2) ?_;rintro _ h2 ⟨⟨p',l',c',rfl,s2⟩,W⟩;rw [zj (eP _ _) (jl okw.2.1)] at s2 ⊢;refine ⟨((p',l',c'),((dz (cG ms) u.2.e).num:Int),()),rfl,ao ?_⟩;refine bS G ?_;have s':=s.ext W;have sj':=s'.sec j C;have so2:=sj'.out;refine SL.part (P:=Xaz) so2 (i:=i) (by rw [ab9]; exact g) (o:=7) aj (by simp [dr]) (by rw [A]; exact G) ?_;intro h3 s3 O z3;have H:((f j).ws.map ub).set i (lK (((f j).ws.map ub)[i]'(by rw [ab9]; exact g)) 7 [.slice p' l' c',.int .u32 ((dz (cG ms) u.2.e).num:Int)])=((f j).ws.set i (⟨p',l',c'⟩,rT (cG ms) u.2)).map ub:=by
   rw [fc9,am9,hwi,hu] <;> rfl
  rw [H] at s3;have sp:=s'.put C g (q:=(⟨p',l',c'⟩,rT (cG ms) u.2)) (s2.mono (by have:=s.sec j C; exact show b<=h1.size from (by have:=(sj.out.cB (i:=a.block) (by rw [A,G]; simp [aJ])); omega))) s3 O;have hw:=ic i;rw [hw];rw [A] at O;refine aG (cs:=cI) (((i+1:Nat):Int),()) (ws.length-(i+1)) (by rw [bi9 (aq9 _),ex9]; rfl) ad rfl ?_;refine ⟨i+1,_,rfl,ad,rfl,sp,fun m B=>?_,?_,?_,fun m B E=>?_,(k1.trans (W.mono aj) (fun i hi _=>hi)).trans O (fun i hi _=>hi),(t.ext W).sQ so2 (by rw [A]; exact O) bT bT⟩
  ·unfold lN;rw [ac9 B];exact so m B
  ·unfold lN;rw [ag9 rfl];exact A
  ·unfold lN;rw [ag9 rfl,cy9];exact sl
  ·have e1:(lN f j ⟨(f j).s,(f j).ws.set i (⟨p',l',c'⟩,rT (cG ms) u.2)⟩ j).ws=(f j).ws.set i (⟨p',l',c'⟩,rT (cG ms) u.2):=by
    unfold lN;rw [ag9 rfl]
   simp only [e1]
   by_cases I:m=i
   ·subst I;rw [ag9 ad,List.getElem_set_self,hu]
   ·have r:m<(f j).ws.length:=ad
    have:=V m B r
    rw [List.getElem_set_ne (Ne.symm I)]
    by_cases z:m<i
    ·rw [ag9 z] at this;rw [ag9 ad];exact this
    ·rw [ac9 z] at this;rw [ac9 ad];exact this
 ·have hi:i=ws.length:=ad
  subst hi;refine hk h1 f _ s so A ?_ k1 t;refine fo9 (by rw [ab9,ab9]; exact sl) fun m M r=>?_
  rw [ab9] at M r
  have:=V m r M
  rw [ag9 r] at this;rw [am9,am9];exact this
structure rC (h:Hp) (B:Nat) (w:LW) (usl lb:bU) (sp:Int) (N M:Nat) (S:Nat->kV):Prop where
 box:RX h (B+3) usl lb B (B+1) (B+2) sp
 maps:LM h B (B+1) (B+2) w
 qW:SL h (B+4) 157 4 lb.p lb.l lb.c (w.lb.map QV)
 un:SL h (B+4) 70 4 usl.p usl.l usl.c (nE S N)
 yq:lU h (B+4) M S
section
variable {h h':Hp} {B N M:Nat} {w:LW} {usl lb:bU} {sp:Int} {S:Nat->kV}
def rC.nH {ws:List Nat} (s:rC h B w usl lb sp N M S) (k:Ch ws h h') (b:∀ i,i∈ws->i<B):rC h' B w usl lb sp N M S :=
 ⟨s.box.an k (fun a=>by have:=b _ a; omega),s.maps.an k (fun a=>by have:=b _ a; omega) (fun a=>by have:=b _ a; omega) (fun a=>by have:=b _ a; omega),
  s.qW.bK k (fun i hi a=>by have:=(s.qW.cB hi).1; have:=b _ a; omega),s.un.bK k (fun i hi a=>by have:=(s.un.cB hi).1; have:=b _ a; omega),s.yq.nH k (fun i hi=>by have:=b _ hi; omega)⟩
def rC.ext (s:rC h B w usl lb sp N M S) (k:Ext h h'):rC h' B w usl lb sp N M S:=s.nH k aj
def rC.lt (s:rC h B w usl lb sp N M S):B+4<=h.size:=by have:=s.box.lt; omega
def rC.sQ {c sz:Nat} {e:TypeId} {q:Xac} {m d:Nat} {xs:List (List Xab)} (s:rC h B w usl lb sp N M S) (t:SL h c e sz q m d xs) (k:Ch (aJ q) h h') (j:B+4<=c) (h1:e≠157) (h2:e≠70) (f:e≠55) (g:e≠64):rC h' B w usl lb sp N M S:=by
 have b:∀ i,i∈aJ q->B+4<=i:=fun i hi=>by have:=(t.cB hi).1; omega
 exact ⟨s.box.an k (fun a=>by have:=b _ a; omega),s.maps.an k (fun a=>by have:=b _ a; omega) (fun a=>by have:=b _ a; omega) (fun a=>by have:=b _ a; omega),
  s.qW.bK k (fun i hi a=>wy t s.qW h1 i a hi),s.un.bK k (fun i hi a=>wy t s.un h2 i a hi),s.yq.sQ t k f g⟩
def rC.ZV {S':Nat->kV} {j:Nat} (s:rC h B w usl lb sp N M S) (d:j<M) (e:lU h' (B+4) M S') (c:∀ i,(S' i).s=(S i).s) (k:Ch (aJ (S j).s.p) h h'):rC h' B w usl lb sp N M S':=by
 have t:=(s.yq.sec j d).out;have b:∀ i,i∈aJ (S j).s.p->B+4<=i:=fun i hi=>(t.cB hi).1
 have f:nE S' N=nE S N:=by
  unfold nE;apply ck9;intro i _;unfold y6;rw [c,c]
 exact ⟨s.box.an k (fun a=>by have:=b _ a; omega),s.maps.an k (fun a=>by have:=b _ a; omega) (fun a=>by have:=b _ a; omega) (fun a=>by have:=b _ a; omega),
  s.qW.bK k (fun i hi a=>wy t s.qW bT i a hi),by rw [f]; exact s.un.bK k (fun i hi a=>wy t s.un bT i a hi),e⟩
end
def D8 (of:Xaa->Option bM) (S a:Nat->kV) (m:Nat):Prop:=∀ k,(a k).s=(S k).s/\if k<m then (a k).ws.map (·.2)=(S k).ws.map (fun u=>rT of u.2) else a k=S k
def D8.step {of:Xaa->Option bM} {S c e:Nat->kV} {m:Nat} (d:D8 of S c m) (h1:∀ i,i≠m->e i=c i) (h2:(e m).s=(c m).s) (g:(e m).ws.map (·.2)=(c m).ws.map (fun u=>rT of u.2)):D8 of S e (m+1):=by
 intro k;obtain ⟨f,a⟩:=d k
 by_cases hk:k=m
 ·subst hk;rw [ac9 ad] at a;rw [ag9 ad];exact ⟨h2.trans f,by rw [g,a]⟩
 ·rw [h1 k hk];refine ⟨f,?_⟩
  by_cases b:k<m
  ·rw [ag9 b] at a;rw [ag9 ad];exact a
  ·rw [ac9 b] at a;rw [ac9 ad];exact a
def Wt (J K:Xax) (f:Xac) (g h:Nat):T :=
    (T.af K [.slice 70] <| fun (i:Xac) (d L:Nat) =>
    T.loop [aQ] [vI (0:Int)] <| fun (a:Int) =>
    bt a d
    (T.need (eS a d) <|
    T.bf i <| fun (j:Xax) =>
    T.af (j.add (aI a 4)) [.slice 55,.slice 55,.slice 116,.slice 9] <| fun (k:Xac) (l m:Nat) (n:Xac) (o p:Nat) (q:Xac) (r s:Nat) (t:Xac) (u w:Nat) =>
    T.new [bg,bg,bg,bg] 70 <| fun (c:Xax) =>
    T.aD c [.slice k l m,.slice n o p,.slice q r s,.slice t u w] <|
    T.af c [.slice 55] <| fun (x:Xac) (y z:Nat) =>
    T.af (c.add 1) [.slice 55] <| fun (A:Xac) (B C:Nat) =>
    bQ (Instr.buildSlice 43 2 #[(0,.slice x y z),(1,.slice A B C)]) false [cY] <| fun (D:Xac) (e M:Nat) =>
    T.loop [aQ] [vI (0:Int)] <| fun (b:Int) =>
    bt b e
     (T.need (eS b e) <|
     T.bf D <| fun (E:Xax) =>
     T.af (E.add (aI b 1)) [.slice 55] <| fun (F:Xac) (G N:Nat) =>
     VG F G f g h 4 (T.again 3 [vI (bq (b+(1:Int)))]))
     (T.again 2 [vI (bq (a+(1:Int)))]))
    (T.aD J [vI (0:Int),vI (0:Int),cm] <|
    T.af J [.int .i64,.int .i64,.string] <| fun (H I:Int) (Vr:Xaa) =>
    bG #[.pointer (some K),.agg #[vI H,vI I,.string Vr]]))
def Tx {J0 J1:List Xab->Hp->Prop} {h0 h:Hp} {A B N R:Nat} {usl lb:bU} {sp:Int} {S:Nat->kV} {f g:Nat} {ms:List cV}
  (hA:h0.size<=A) (hAB:A<B) (e0:Ext h0 h) (r:bC h A 77 [vI 0,vI 0,.string ⟨#[]⟩]) (s:rC h B H usl lb sp N (2*N) S) (t:No h R U f g ms) (hN:N<=2^20)
  (ok:∀ j,j<2*N->Kb (S j).ws/\(S j).ws.length<=2^20)
  (hk:∀ h' u,Ext h0 h'->rC h' B H usl lb sp N (2*N) u->D8 (cG ms) S u (2*N)->Z (.tuple #[ptr (B+3),.agg #[vI 0,vI 0,.string ⟨#[]⟩]]) h') :
  Wt ⟨A,0,none⟩ ⟨B+3,0,none⟩ U f g [J0,J1] Z h:=by
 unfold Wt bt aI bQ bq eS bG bg cm aQ cY;refine az s.box ((usl.p,usl.l,usl.c),()) (ao ?_);have X:usl.l=N:=by have:=s.un.1; rwa [jW] at this
 rw [X];refine aT (cs:=cI) (fun y G h'=>∃ (n:Nat) (u:Nat->kV),y.1=(n:Int)/\n<=N/\G=N-n/\Ext h0 h'/\bC h' A 77 [vI 0,vI 0,.string ⟨#[]⟩]/\rC h' B H usl lb sp N (2*N) u/\D8 (cG ms) S u (2*n)/\No h' R U f g ms) ((0:Int),()) N rfl
  ⟨0,S,rfl,ad,ad,e0,r,s,fun k=>⟨rfl,by rw [ac9 ad]⟩,t⟩ ?_
 clear s t r e0;rintro ⟨n29,⟨⟩⟩ G h1 ⟨n,z,hn,hnN,rfl,Y,r,s,d,t⟩;simp only at hn;subst hn;refine ao ?_;refine aR ?_ ?_<;>intro q
 ·have hlt:n<N:=ad
  obtain ⟨a,ha,hc⟩:=s.un.cells (i:=n) (by rw [jW]; exact hlt);rw [DY] at hc;refine bS ha ?_;rw [cr n];generalize C:(z (2*n)).s=e;generalize D:(z (2*n+1)).s=b;have hc:aH h1 (a.add (n*4)) 0 [e.v,b.v,nu.v,nu.v]:=by rw [<- C,<- D]; exact hc
  refine ay ((e.p,e.l,e.c),(b.p,b.l,b.c),(none,0,0),(none,0,0),()) hc (ao ?_);refine br ?_;intro h2 m e2 z2;refine bR m ?_;intro h3 I k3 z3;have I:bC h3 h1.size 70 [e.v,b.v,nu.v,nu.v]:=I;have M:Ext h1 h3:=bY e2 k3;refine az I ((e.p,e.l,e.c),()) (ao ?_);rw [aE];refine az I ((b.p,b.l,b.c),()) (ao ?_);refine nS RU ZB ad ad (Q9 e.p e.l e.c b.p b.l b.c) ?_;intro h4 b4 e4 z4;have b4:bC h4 h3.size 46 [e.v,b.v]:=b4;have e14:=M.trans e4;have O:∀ k,k<2->([e.v,b.v]:List Xab).drop k=(S (2*n+k)).s.v::([e.v,b.v]:List Xab).drop (k+1):=by
   intro k hk;have h0:∀ k,(z k).s=(S k).s:=fun k=>(d k).1
   have:k=0\/k=1:=ad
   rcases this with rfl | rfl
   ·rw [<- h0]; show [e.v,b.v]=(z (2*n)).s.v::[b.v]; rw [C]
   ·rw [<- h0]; show [b.v]=(z (2*n+1)).s.v::[]; rw [D]
  have hb3:∀ j,j<2*N->h3.size∉aJ (S j).s.p:=by
   intro j F V;rw [<- (d j).1] at V
   have:=((s.yq.sec j F).out.cB V).2
   have:=M.size
   omega
  refine aT (cs:=cI) (fun y G h'=>∃ (j:Nat) (u:Nat->kV),y.1=(j:Int)/\j<=2/\G=2-j/\Ext h0 h'/\bC h' A 77 [vI 0,vI 0,.string ⟨#[]⟩]/\rC h' B H usl lb sp N (2*N) u/\D8 (cG ms) S u (2*n+j)/\No h' R U f g ms/\bC h' h3.size 46 [e.v,b.v]) ((0:Int),()) 2 rfl
   ⟨0,z,rfl,ad,ad,Y.trans e14,r.an e14 aj,s.ext e14,d,t.ext e14,b4⟩ ?_
  clear s t r d C D hc ha I;rintro ⟨n53,⟨⟩⟩ G h5 ⟨j,P,F,Q,rfl,e5,r,s,d,t,b5⟩;simp only at F;subst F;refine ao ?_;refine aR ?_ ?_<;>intro q
  ·have Q:j<2:=ad
   refine bS rfl ?_;rw [cr j,aE];have hsj:=(d (2*n+j)).1;have E:P (2*n+j)=S (2*n+j):=by
    have:=(d (2*n+j)).2
    rwa [ac9 ad] at this
   refine bI b5 (((S (2*n+j)).s.p,(S (2*n+j)).s.l,(S (2*n+j)).s.c),()) (by
    have:=O j Q
    rw [show 0+j*1=j from ad,this];rfl) ?_
   refine ao ?_;rw [<- E];have o:2*n+j<2*N:=ad
   have okj:=ok _ o;rw [<- E] at okj;have key:=fun (L:Lp) (hL:4=L.length)=>@UE L Z h5 (B+4) (2*N) R P U f g 4 (T.again 3 [vI (IntKind.wrap .i64 ((j:Int)+(1:Int)))]) ms hL s.yq (2*n+j) o t okj.1 okj.2
   refine key _ ?_ ?_
   ·rfl
   clear key;intro h6 S3 J s6 so ss sw W sv6;have hw:=ic j;rw [hw];have hss:∀ i,(S3 i).s=(P i).s:=by
    intro i
    by_cases hi:i=2*n+j
    ·rw [hi]; exact ss
    ·rw [so i hi]
   have x:∀ i,i∈aJ (P (2*n+j)).s.p->B+4<=i:=fun i hi=>((s.yq.sec _ o).out.cB hi).1
   have z0:=Y.size;refine aG (cs:=cI) (((j+1:Nat):Int),()) (2-(j+1)) rfl ad rfl ?_;refine ⟨j+1,S3,rfl,ad,rfl,Ch.trans e5 W (fun i hi hl=>by have:=x i hi; omega),r.an W (fun V=>by have:=x _ V; omega),s.ZV o s6 hss W,d.step so ss sw,sv6,b5.an W (by rw [E]; exact hb3 _ o)⟩
  ·have F:j=2:=ad
   subst F;have hw:=ic n;rw [hw];refine aG (cs:=cI) (((n+1:Nat):Int),()) (N-(n+1)) rfl ad rfl ?_;exact ⟨n+1,P,rfl,ad,rfl,e5,r,s,d,t⟩
 ·have hn:n=N:=ad
  subst hn;refine bR r ?_;intro h2 m k2 z2;have m:bC h2 A 77 [vI 0,vI 0,.string ⟨#[]⟩]:=m;refine az m ((0:Int),(0:Int),(⟨#[]⟩:Xaa),()) ?_;exact hk h2 z (bY Y k2) (s.nH k2 (by simp; omega)) d
def Gj (k:Ky):List Xab:=[vI (k.1:Int),.string k.2]
def W9:Tryz.prog.underlying 112=some (.slice 121):=ax
def kyZ:(Tryz.prog.info? 121).map (fun i=>(i.zero,i.size,i.bytes))=some (some (.agg #[vI 0,.string ⟨#[]⟩]),2,24):=ax
def VZ (n:Int) (s:Xaa):Instr.fill (fun j=>some (j*2,2)) ((Array.range (1*2)).map ((Value.agg #[vI 0,.string ⟨#[]⟩]).cells[· % (Value.agg #[vI 0,.string ⟨#[]⟩]).cells.size]!)) [(0,.agg #[vI n,.string s])]=some ([vI n,.string s]:List Xab).toArray:=ax
def C2 {b x sz:Nat} {p:Xac} {l c:Nat} {xs:List (List Xab)} {ys:List Xab} (s:SL O b e sz p l c xs) (t:bC O x h ys) (d:e≠h):x∉aJ p:=fun f=>by
 obtain ⟨zs,a⟩:=SL.zL s x f;unfold bC at a t;rw [a] at t;simp only [Option.some.injEq,Obj.cells.injEq] at t;exact d t.2.1
def Kd (rD unit:Nat) (s:Xaa):Xab:=.tuple #[.pointer none,.agg #[vI (rD:Int),vI (unit:Int),.string s]]
def BS (h h':Hp):Prop:=∀ x e xs,e≠116->e≠121->bC h x e xs->bC h' x e xs
def BS.ext {h' h2:Hp} (k:BS O h') (e:Ext h' h2):BS O h2:=fun x t xs h1 h2 b=>(k x t xs h1 h2 b).an e aj
abbrev Re:List ep:=[(false,[.pointer 0]),(false,[.slice 0]),(false,[.slice 0]),(false,[.int .i64])]
def WZ (a1 a7:Xax) (c:Int) (s:Xac) (j:Nat) (t u:Xac) (w x:Nat) (y:Xac) (z A:Nat) (k:Xac->Xac->Nat->Nat->Xac->Nat->Nat->T):T :=
    T.loop [(false,[.pointer 0]),cY,cY,aQ] [.pointer t,.slice u w x,.slice y z A,vI (0:Int)] <| fun (l m:Xac) (n o:Nat) (p:Xac) (q r:Nat) (d:Int) =>
    bt d j
     (T.need (eS d j) <|
     T.bf s <| fun (B:Xax) =>
     T.af (B.add (aI d 3)) [.string,.slice 64,.int .u32] <| fun (C:Xaa) (D:Xac) (E F:Nat) (G:Int) =>
     T.new [cm,bg,aF (0:Int)] 116 <| fun (a:Xax) =>
     T.aD a [.string C,.slice D E F,aF G] <|
     T.af (a.add 1) [.slice 64,.int .u32] <| fun (H:Xac) (I J:Nat) (K:Int) =>
     bP 34 [.pointer (some a7),vI c,.agg #[.slice H I J,aF K]] true [(true,[.slice 64,.int .u32]),(false,[.string]),cn] <| fun (L:Xac) (M N:Nat) (O:Int) (P:Xaa) (Q:Bool) =>
     T.new [bg,aF (0:Int)] 53 <| fun (b:Xax) =>
     T.aD b [.slice L M N,aF O] <|
     cond (!Q)
     (T.aD a1 [vI (23:Int),vI c,.string P] <|
     T.af a1 [.int .i64,.int .i64,.string] <| fun (R S:Int) (U:Xaa) =>
     bG #[.pointer none,.agg #[vI R,vI S,.string U]])
     (T.af a [.string] <| fun (e:Xaa) =>
     T.af b [.slice 64,.int .u32] <| fun (f:Xac) (g h:Nat) (i:Int) =>
     bP 35 [.pointer (some a7),.agg #[vI c,.string e]] false [(false,[.string])] <| fun (ZD:Xaa) =>
     T.bi [(b,[.slice f g h,aF i]),(a,[.string e])] <|
     bQ (Instr.buildSlice 67 1 #[(0,.agg #[.string ZD,.slice f g h,aF i])]) false [cY] <| fun (V:Xac) (W X:Nat) =>
     T.bi [(b,[.slice f g h,aF i]),(a,[.string e])] <|
     bQ (Builtin.append_ #[67,67] 67 #[.slice m n o,.slice V W X]) false [cY] <| fun (Y:Xac) (Z l92:Nat) =>
     T.bi [(b,[.slice f g h,aF i]),(a,[.string e])] <|
     T.af a [.string] <| fun (s93:Xaa) =>
     bQ (Instr.buildSlice 112 1 #[(0,.agg #[vI c,.string s93])]) false [cY] <| fun (p94:Xac) (l95 l96:Nat) =>
     bQ (Builtin.append_ #[112,112] 112 #[.slice p q r,.slice p94 l95 l96]) false [cY] <| fun (p97:Xac) (l98 l99:Nat) =>
     T.again 2 [.pointer l,.slice Y Z l92,.slice p97 l98 l99,vI (bq (d+(1:Int)))]))
     (k l m n o p q r)
structure D4 (h:Hp) (b:Nat) (e k:bU) (D:List (Xaa × bM)) (ks:List Ky):Prop where
 eq:∃ ms,rW h b e.p e.l e.c ms/\ms.map fJ=D
 ky:SL h b 121 2 k.p k.l k.c (ks.map Gj)
variable {i j:bU}
def D4.ext {h':Hp} {b:Nat} {D:List (Xaa × bM)} {ks:List Ky} (s:D4 O b i j D ks) (x:Ext O h'):D4 h' b i j D ks:=by
 obtain ⟨⟨ms,o,a⟩,y⟩:=s;exact ⟨⟨ms,o.an x aj,a⟩,y.an x aj⟩
def TM {L:Lp} {K:Xab->Hp->Prop} {h0 h:Hp} {A B N M n:Nat} {w:LW} {usl lb:bU} {sp:Int} {S:Nat->kV} {p52:Xac} {l53:Nat} {es:List sS} {O P:bU} {D:List (Xaa × bM)} {ks:List Ky}
  {k:Xac->Xac->Nat->Nat->Xac->Nat->Nat->T} {F:Xac}
  (hL:2=L.length) (pw:eM h0) (hA:h0.size<=A) (hAB:A<B) (e0:Ext h0 h) (ba:bC h A 77 [vI 0,vI 0,.string ⟨#[]⟩]) (s:rC h B w usl lb sp N M S) (Kx:Q3 w) (es0:D4 h (B+4) O P D ks)
  (v:Ob.uV h0 p52 l53 es) (ge:∀ e,e∈es->Gl e.2) (hl:es.length<=2^20) (hD:D.length<=2^20) (hks:ks.length<=2^20)
  (hbad:∀ h' q,Ext h0 h'->(es.findSome? fun e=>w.bad n e.2)=some q->K (Kd 23 n q) h')
  (hk:∀ h' f g J,Ext h0 h'->bC h' A 77 [vI 0,vI 0,.string ⟨#[]⟩]->rC h' B w usl lb sp N M S->D4 h' (B+4) f g (D++es.map fun e=>(w.word (n,e.1),w.lin n e.2)) (ks++es.map fun e=>(n,e.1)) ->
   BS h h'->(es.findSome? fun e=>w.bad n e.2)=none->k F f.p f.l f.c g.p g.l g.c (L++[J]) K h') :
  WZ ⟨A,0,none⟩ ⟨B+3,0,none⟩ (n:Int) p52 l53 F O.p O.l O.c P.p P.l P.c k L K h:=by
 unfold WZ bt aI bP bQ bq eS aF bG bg cm aQ cn cY;have hl53:=v.len
 refine aT (cs:=Re) (fun y m' h'=>∃ (i:Nat) (f g:bU),y.1=F/\y.2.1=(f.p,f.l,f.c)/\y.2.2.1=(g.p,g.l,g.c)/\y.2.2.2.1=(i:Int)/\i<=es.length/\m'=es.length-i/\Ext h0 h'/\bC h' A 77 [vI 0,vI 0,.string ⟨#[]⟩]/\rC h' B w usl lb sp N M S /\
   D4 h' (B+4) f g (D++(es.take i).map fun e=>(w.word (n,e.1),w.lin n e.2)) (ks++(es.take i).map fun e=>(n,e.1))/\BS h h'/\∀ j,(d:j<i)->(V:j<es.length)->w.bad n es[j].2=none)
  (F,(O.p,O.l,O.c),(P.p,P.l,P.c),(0:Int),()) es.length rfl ⟨0,O,P,rfl,rfl,rfl,rfl,ad,ad,e0,ba,s,by simpa using es0,fun x e xs _ _ b=>b,by intro j d; omega⟩ ?_
 clear e0 ba s es0;rintro ⟨p55,⟨p56,l57,l58⟩,⟨p59,l60,l61⟩,n62,⟨⟩⟩ m' h1 ⟨i,o,G,hy1,hy2,hy3,hy4,hil,rfl,W,ba,s,X,ke,Y⟩;simp only [Prod.mk.injEq] at hy1 hy2 hy3 hy4;obtain ⟨rfl,rfl,rfl⟩:=hy2;obtain ⟨rfl,rfl,rfl⟩:=hy3;subst hy1 hy4;refine ao ?_;refine aR ?_ ?_<;>intro q
 ·have H:i<es.length:=ad
  obtain ⟨aa,pp,ll,cc,haa,hc0,va0,hsz⟩:=v.cells i H;have gxi:=ge es[i] (al9 H);have Z:es.take (i+1)=es.take i++[es[i]]:=ae9 H;have hfs:∀ q,w.bad n es[i].2=some q->(es.findSome? fun e=>w.bad n e.2)=some q:=by
   intro q hq;have hsp:es=es.take i++es[i]::es.drop (i+1):=by rw [<- aw9 H,ce9]
   have hnone:((es.take i).findSome? fun e=>w.bad n e.2)=none:=by
    rw [cx9];intro x V;obtain ⟨j,d,rfl⟩:=bg9 V;rw [az9] at d;rw [List.getElem_take];exact Y j ad ad
   generalize hz:es[i]=z at hsp hq;rw [hsp,fg9,hnone,List.findSome?_cons,hq] <;> rfl
  have hnx:w.bad n es[i].2=none->∀ j,(d:j<i+1)->(V:j<es.length)->w.bad n es[j].2=none:=by
   intro hn j d V
   by_cases hji:j=i
   ·subst hji; exact hn
   ·exact Y j ad V
  generalize es[i]=x at hc0 va0 hsz gxi Z hfs hnx;refine bS haa ?_;rw [cr i];refine ay (x.1,(pp,ll,cc),(x.2.num:Int),()) (aM W aj _ _ hc0) (ao ?_);refine br ?_;intro h2 b2' e2 z2;refine bR b2' ?_;intro h3 b3 k3 z3;have b3:bC h3 h1.size 116 [.string x.1,.slice pp ll cc,.int .u32 (x.2.num:Int)]:=b3;have u:Ext h1 h3:=bY e2 k3;have e03:=W.trans u;have s3:=s.ext u;rw [aE];refine az b3 ((pp,ll,cc),(x.2.num:Int),()) (ao ?_);refine aK (yZ (c:=cc) (pw.an e03 aj) s3.box s3.maps Kx n (va0.an e03).vw gxi) ?_;rintro _ h4 ⟨e4,hq⟩;have z1:=W.size;have l1:=s.lt;have q3:=b3.lt;cases hb:w.bad n x.2 with
  | some t =>
   rw [hb] at hq;subst hq;refine ⟨((none,0,0),(0:Int),t,false,()),rfl,ao ?_⟩;refine br ?_;intro h5 b5' e5 z5;refine bR b5' ?_;intro h6 b6 k6 z6;refine cj rfl ?_;have r:Ext h4 h6:=bY e5 k6;have e16:=(u.trans e4).trans r;refine bR (ba.an e16 aj) ?_;intro h7 b7 k7 z7;have b7:bC h7 A 77 [vI 23,vI (n:Int),.string t]:=b7;refine az b7 ((23:Int),(n:Int),t,()) ?_;exact hbad h7 t (bY (W.trans e16) k7) (hfs t hb)
  | none =>
   rw [hb] at hq;obtain ⟨Q,R,U,rfl,s7⟩:=hq;refine ⟨((Q,R,U),((w.lin n x.2).num:Int),(⟨#[]⟩:Xaa),true,()),rfl,ao ?_⟩;refine br ?_;intro h5 b5' e5 z5;refine bR b5' ?_;intro h6 b6 k6 z6;have b6:bC h6 h4.size 53 [.slice Q R U,.int .u32 ((w.lin n x.2).num:Int)]:=b6;have r:Ext h4 h6:=bY e5 k6;have e16:=(u.trans e4).trans r;refine cg rfl ?_;have b36:=b3.an (e4.trans r) aj;refine az b36 (x.1,()) (ao ?_);refine az b6 ((Q,R,U),((w.lin n x.2).num:Int),()) (ao ?_);have s6:=s.ext e16;refine aK (Dh (pw.an (W.trans e16) aj) s6.box s6.maps Kx n x.1) ?_;rintro _ h8 ⟨rfl,e8⟩;refine ⟨(w.word (n,x.1),()),rfl,ao ?_⟩;have e18:=e16.trans e8;have b68:=b6.an e8 aj;have b38:=b36.an e8 aj;have hst:∀ h',Ext h8 h'->T.B7 h' [(⟨h4.size,0,none⟩,[.slice Q R U,.int .u32 ((w.lin n x.2).num:Int)]),(⟨h1.size,0,none⟩,[.string x.1])]:=fun h' e=>⟨(b68.an e aj).cells _ rfl,(b38.an e aj).cells _ rfl,trivial⟩
   refine ⟨hst h8 (Ch.refl _ _),?_⟩;obtain ⟨⟨ms,o1,hms⟩,y1⟩:=X;have o8:=o1.an e18 aj;have y8:=y1.an e18 aj;have hml:ms.length=D.length+i:=by
    have:=as9 List.length hms
    rw [ab9,af9,ab9,az9,dc9 hil] at this;exact this
   have hel:o.l=ms.length:=by have:=o1.out.1; rwa [ab9] at this
   have hkl:G.l=ks.length+i:=by
    have:=y1.1
    rw [ab9,af9,ab9,az9,dc9 hil] at this;exact this
   have z18:=e18.size;have z4:=e4.size;have z46:=r.size;have z8:=e8.size;have z13:=u.size;refine gR (vs:=A0 ⟨w.word (n,x.1),Q,R,U,w.lin n x.2⟩) Du MP rfl ad ad (IS _ Q R U _) rfl rfl o8.out ad ad ad hst ?_;intro p9 c9 h9 s9 I hp9;have C:∀ j,h1.size<=j->j∉aJ o.p:=fun j d hm=>by have:=(o1.out.cB hm).2; omega
   have b69:=b68.an I (C _ ad);have b39:=b38.an I (C _ ad);refine ⟨⟨b69.cells _ rfl,b39.cells _ rfl,trivial⟩,?_⟩;have ZW:SL h8 (B+4) 64 2 Q R U ((w.lin n x.2).ah.map dp):=(s7.an (r.trans e8) aj).mono ad;have o9:rW h9 (B+4) p9 (o.l+1) c9 (ms++[⟨w.word (n,x.1),Q,R,U,w.lin n x.2⟩]):=by
    refine o8.push ZW (fun j d=>?_) (by rw [ao9]; exact s9) I (fun j d=>?_)
    ·have hj3:=(s7.cB d).1;refine ⟨fun y hy m hm=>?_,C _ ad⟩
     have:=((o1.fC y hy).cB hm).2
     omega
    ·rcases hp9 with rfl | ⟨a,rfl,ha⟩
     ·exact .inl d
     ·simp [aJ] at d;subst d;exact .inr ha
   have y9:=y8.bK I (fun j d hm=>wy o8.out y8 bT j hm d);have g9:=(s.ext e18).sQ o8.out I (aq9 _) bT bT bT bT;have ba8:=ba.an e18 aj;have ba9:=ba8.an I (C2 o8.out ba8 bT);have z9:=I.size;have ke8:BS h h8:=ke.ext e18;have ke9:BS h h9:=fun x e xs h1 h2 b=>by
    have b8:=ke8 x e xs h1 h2 b;exact b8.an I (C2 o8.out b8 (Ne.symm h1))
   have e09:Ext h0 h9:=Ch.trans (W.trans e18) I (fun j d hl=>by have:=(o8.out.cB d).1; omega);refine az b39 (x.1,()) (ao ?_);refine gh (vs:=Gj (n,x.1)) W9 kyZ rfl ad ad (VZ _ _) rfl rfl y9 ad ad ad ?_;intro p10 c10 h10 s10 E hp10;have hw:=ic i;rw [hw];refine aG (cs:=Re) (p55,(p9,o.l+1,c9),(p10,G.l+1,c10),((i+1:Nat):Int),()) (es.length-(i+1)) (by rw [bi9 ad,<- hL,ex9]; rfl) ad rfl ?_;refine ⟨i+1,⟨p9,o.l+1,c9⟩,⟨p10,G.l+1,c10⟩,rfl,rfl,rfl,rfl,ad,rfl,Ch.trans e09 E (fun j d hl=>by have:=(y9.cB d).1; omega),ba9.an E (C2 y9 ba9 bT),
    g9.sQ y9 E (aq9 _) bT bT bT bT,⟨⟨_,o9.sQ y9 E bT bT,?_⟩,?_⟩,?_,hnx hb⟩
   ·rw [Z,ao9,hms,ao9,<- ay9] <;> rfl
   ·have he:(ks++(es.take (i+1)).map fun e=>(n,e.1)).map Gj=(ks++(es.take i).map fun e=>(n,e.1)).map Gj++[Gj (n,x.1)]:=by
     rw [Z]
     simp
    rw [he];exact s10
   ·intro x e xs h1 h2 b;have b9:=ke9 x e xs h1 h2 b;exact b9.an E (C2 y9 b9 (Ne.symm h2))
 ·have hi:i=es.length:=ad
  subst hi;rw [bv9 (aq9 _)] at X;refine hk h1 o G _ W ba s X ke ?_;rw [cx9];intro x V;obtain ⟨j,d,rfl⟩:=bg9 V;exact Y j d d
end Go.Sx.Lk
