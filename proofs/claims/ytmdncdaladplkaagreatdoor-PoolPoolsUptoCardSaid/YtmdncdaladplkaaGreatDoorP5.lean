/- Contracts over heaps, part 5. Condition: as each statement says. -/
import Derived.Test.YtmdncdaladplkaaGreatDoorP4
import Derived.Test.YtmdncdaladplkaaGreatDoorBtG
set_option linter.all false
set_option maxRecDepth 100000
set_option maxHeartbeats 4000000
namespace Go.Sx.Lk
open Go.Proofs Go.Sx.Ob
variable {es:List cT} {ga:Nat}
def qE (n sec:Nat):Nat->List cz->List Lb
 | _,[]=>[]
 | i,x::l=>(if x.kind=1 then [⟨n,sec,i,x.name⟩] else [])++qE n sec (i+1) l
def Hq (n:Nat) (u:cg):List Lb:=qE n 0 0 u.text++qE n 1 0 u.data
def cm:Nat->List cg->List Lb
 | _,[]=>[]
 | n,u::us=>Hq n u++cm (n+1) us
def Ah (x:Lb):Ky:=(x.u,x.n)
def jo (q:Nat × sO):Ky:=(q.1,q.2.1)
def nX (l:List Ky) (k:Ky):Option Nat:=l.findIdx? fun x=>decide (x=k)
variable {d:Ky}
def pd {l:List Ky} :nX l d=none↔d∉l:=by
 unfold nX;rw [bu9];constructor
 ·intro h hk
  have:=h d hk
  simp at this
 ·intro h x a;exact aj9 fun e=>h (e▸a)
def jN {l:List Ky} {k:Ky} {i:Nat} (h:nX l k=some i):∃ hi:i<l.length,l[i]=k:=by
 unfold nX at h;rw [be9] at h;obtain ⟨h1,h2,_⟩:=h;exact ⟨h1,ah9 h2⟩
def Cf {l:List Ky} (h:d∈l):∃ i,nX l d=some i:=by
 cases hk:nX l d with
 | some i=>exact ⟨i,rfl⟩
 | none=>exact absurd h (pd.1 hk)
def Dy {l:List Ky} (hn:d∉l):nX (l++[d])=tR (nX l) d l.length:=by
 funext k
 unfold tR
 by_cases hk:k=d
 ·subst hk;rw [af9 rfl];have h0:=pd.2 hn;unfold nX at h0 ⊢;rw [dz9,h0]
  simp
 ·rw [ac9 hk];unfold nX;rw [dz9]
  have:decide (d=k)=false:=aj9 fun e=>hk e.symm
  simp [List.findIdx?_cons,this]
structure WI (w:LW) (L:List Lb) (E:List Ky):Prop where
 lb:w.lb=L
 num:w.num=nX (L.map Ah)
 sG:w.sG=nX E
 ne:w.ne=E.length
theorem WI.Uv {w:LW} {L:List Lb} {E:List Ky} (i0:WI w L E) {n sec:Nat}:∀ (l:List cz) (i:Nat) {w:LW} {L:List Lb} (i0:WI w L E) (hn:(eG l).Nodup) (a:∀ s,s∈eG l->(n,s)∉L.map Ah),WI (iV n sec i l w) (L++qE n sec i l) E
 | [],i,w,L,i0,hn,a=>by simpa [iV,qE] using i0
 | x::l,i,w,L,i0,hn,a=>by
  rw [tO] at hn a;rw [iV,qE,<- bb9]
  by_cases hk:x.kind=1
  ·simp only [hk,if_true,List.singleton_append,List.nodup_cons,List.mem_cons] at hn a;have hx:=a x.name (.inl rfl);refine WI.Uv i0 l (i+1) ?_ hn.2 (fun s b=>?_)
   ·unfold jO;rw [af9 hk,af9 hk];refine ⟨by show w.lb++_=_; rw [i0.lb],?_,i0.sG,i0.ne⟩;show tR w.num (n,x.name) w.lb.length=_;rw [ao9,List.map_singleton];show _=nX (L.map Ah++[(n,x.name)]);rw [Dy hx,i0.num,i0.lb,ab9]
   ·rw [af9 hk,ao9,as9];rintro (h | h)
    ·exact a s (.inr b) h
    ·have:(n,s)=(n,x.name):=by simpa [Ah] using h
     have:s=x.name:=(dr9 this).2
     exact hn.1 (this▸b)
  ·simp only [hk,if_false,List.nil_append] at hn a;rw [ac9 hk,bz9];refine WI.Uv i0 l (i+1) ?_ hn a;unfold jO;rw [ac9 hk];exact i0
theorem WI.eqs {L:List Lb} {n:Nat}:∀ (l:List sO) {w:LW} {E:List Ky} (i0:WI w L E) (hn:(l.map (·.1)).Nodup) (a:∀ s,s∈l.map (·.1)->(n,s)∉E),WI (l.foldl (vL n) w) L (E++l.map fun e=>(n,e.1))
 | [],w,E,i0,hn,a=>by simpa using i0
 | x::l,w,E,i0,hn,a=>by
  simp only [List.map_cons,List.nodup_cons,List.mem_cons] at hn a;have hx:=a x.1 (.inl rfl);rw [br9,bo9,show E++(n,x.1)::l.map (fun e=>(n,e.1))=(E++[(n,x.1)])++l.map fun e=>(n,e.1) from ai];refine WI.eqs l ?_ hn.2 (fun s b=>?_)
  ·refine ⟨i0.lb,i0.num,?_,?_⟩
   ·show tR w.sG (n,x.1) w.ne=_;rw [Dy hx,i0.sG,i0.ne]
   ·show (if (w.sG (n,x.1)).isSome then w.ne else w.ne+1)=_;rw [i0.sG,pd.2 hx,ae9,i0.ne] <;> rfl
  ·rw [as9];rintro (h | h)
   ·exact a s (.inr b) h
   ·have:(n,s)=(n,x.1):=by simpa using h
    have:s=x.1:=(dr9 this).2
    exact hn.1 (this▸b)
theorem xx (n sec:Nat):∀ (l:List cz) (i:Nat),(qE n sec i l).map Ah=(eG l).map fun s=>(n,s)
 | [],i=>rfl
 | x::l,i=>by
  rw [qE,tO,ao9,ao9,xx n sec l (i+1)]
  by_cases hk:x.kind=1 <;> simp [hk,Ah]
variable {H:LW} {c:cg}
def WI.unt {L:List Lb} {E:List Ky} {n:Nat} (i0:WI H L E) (hn:(fN c).Nodup) (h1:∀ k,k∈L.map Ah->k.1<n) (h2:∀ k,k∈E->k.1<n):WI (G' n c H) (L++Hq n c) (E++c.bg.map fun e=>(n,e.1)):=by
 unfold fN at hn;rw [cq9,cq9] at hn;obtain ⟨⟨b,d,f⟩,g,j⟩:=hn;unfold G' Hq;rw [<- bb9];refine WI.eqs _ (WI.Uv i0 _ _ (WI.Uv i0 _ _ i0 b (fun s a h=>by have:=h1 _ h; simp at this)) d (fun s a h=>?_)) g (fun s a h=>by have:=h2 _ h; simp at this);rw [ao9,as9] at h;rcases h with h | h
 ·have:=h1 _ h; simp at this
 ·rw [xx] at h;obtain ⟨t,ht,i⟩:=an9.1 h
  have:t=s:=(dr9 i).2
  exact f t ht s a this
theorem WI.ye:∀ (us:List cg) (n:Nat) {w:LW} {L:List Lb} {E:List Ky} (i0:WI w L E) (hn:∀ u,u∈us->(fN u).Nodup) (h1:∀ k,k∈L.map Ah->k.1<n) (h2:∀ k,k∈E->k.1<n),WI (nU n us w) (L++cm n us) (E++(eF n us).map jo)
 | [],n,w,L,E,i0,hn,h1,h2=>by simpa [nU,cm,eF] using i0
 | u::us,n,w,L,E,i0,hn,h1,h2=>by
  rw [nU,cm,eF,ao9,<- bb9,<- bb9];have a:(u.bg.map fun e=>(n,e)).map jo=u.bg.map fun e=>(n,e.1):=by rw [bf9]; rfl
  rw [a];refine WI.ye us (n+1) (WI.unt i0 (hn u ai) h1 h2) (fun v hv=>hn v (by simp [hv])) (fun k hk=>?_) (fun k hk=>?_)
  ·rw [ao9,as9] at hk;rcases hk with hk | hk
   ·have:=h1 _ hk; omega
   ·unfold Hq at hk;rw [ao9,xx,xx,<- ao9] at hk;obtain ⟨s,_,rfl⟩:=an9.1 hk;show n<n+1;omega
  ·rcases as9.1 hk with hk | hk
   ·have:=h2 _ hk; omega
   ·obtain ⟨s,_,rfl⟩:=an9.1 hk;show n<n+1;omega
def xM (h:ft c=0):(fN c).Nodup:=by
 have h1:=(A0 h).2;rw [yi] at h1;unfold yg at h1;simp only [Bool.and_eq_true,decide_eq_true_eq] at h1;exact h1.2.2.2.1
def UJ {us:List cg} (a:∀ u,u∈us->ft u=0):WI (nU 0 us UE) (cm 0 us) ((eF 0 us).map jo):=by
 have:=WI.ye us 0 (w:=UE) (L:=[]) (E:=[]) ⟨rfl,rfl,rfl,rfl⟩ (fun u b=>xM (a u b)) ai ai
 simpa using this
def OL {n:Nat} {u:cg} {w:LW}:(G7 n u w).lb=w.lb/\(G7 n u w).num=w.num/\(G7 n u w).sG=w.sG/\(G7 n u w).ne=w.ne:=by
 have h:=QF n u.aS w;exact ⟨h.1,h.2.1,h.2.2.2.1,h.2.2.2.2⟩
theorem CR:∀ (us:List cg) (n:Nat) (w w':LW),ly n us w=.ok w'->w'.lb=w.lb/\w'.num=w.num/\w'.sG=w.sG/\w'.ne=w.ne
 | [],n,w,w',h=>by
  unfold ly at h;cases h;exact ⟨rfl,rfl,rfl,rfl⟩
 | u::us,n,w,w',h=>by
  rw [ly] at h;split at h
  ·cases h
  ·have h1:=CR us (n+1) _ w' h;have h2:=OL (n:=n) (u:=u) (w:=w);exact ⟨h1.1.trans h2.1,h1.2.1.trans h2.2.1,h1.2.2.1.trans h2.2.2.1,h1.2.2.2.trans h2.2.2.2⟩
def WI.meet {us:List cg} {n:Nat} {w':LW} {L:List Lb} {E:List Ky} (i0:WI H L E) (h:ly n us H=.ok w'):WI w' L E:=by
 have:=CR us n H w' h
 exact ⟨this.1.trans i0.lb,this.2.1.trans i0.num,this.2.2.1.trans i0.sG,this.2.2.2.trans i0.ne⟩
def WI.Ku {w:LW} {L:List Lb} {E:List Ky} (i0:WI w L E) (h1:L.length<=2^50) (h2:E.length<=2^50):QQ w:=by
 refine ⟨fun k i h=>?_,fun k i h=>?_⟩
 ·rw [i0.num] at h;obtain ⟨hi,_⟩:=jN h;rw [ab9] at hi;omega
 ·rw [i0.sG] at h;obtain ⟨hi,_⟩:=jN h;omega
def KJ (u:Nat):(Lib.decDigits u).foldl (fun a b=>a*10+(b.toNat-48)) 0=u:=by
 induction u using Nat.strongRecOn with
 | ind u c =>
  rw [Lib.decDigits];split
  ·next h =>
   have h1:(UInt8.ofNat (48+u)).toNat=48+u:=by rw [UInt8.toNat_ofNat']; omega
   simp only [List.foldl_cons,List.foldl_nil,h1];omega
  ·next h =>
   have h1:(UInt8.ofNat (48+u % 10)).toNat=48+u % 10:=by rw [UInt8.toNat_ofNat']; omega
   rw [cg9,c (u / 10) ad];simp only [List.foldl_cons,List.foldl_nil,h1];omega
def oB (n:Nat):lI n=⟨(Lib.decDigits n).toArray⟩:=by
 unfold lI;rw [Lib.itoa_nonneg]
def tF {m n:Nat} (h:lI m=lI n):m=n:=by
 rw [oB,oB] at h;have h1:Lib.decDigits m=Lib.decDigits n:=by
  have:=aq9 (fun b:Xaa=>b.data.toList) h
  simpa using this
 rw [<- KJ m,h1,KJ]
def ei (a b:Xaa):(a++b).data.toList=a.data.toList++b.data.toList:=by
 rw [ByteArray.data_append,Array.toList_append]
variable {V:Xaa}
def xg {b c:Xaa} (h:V++b=V++c):b=c:=by
 have h1:=aq9 (fun b:Xaa=>b.data.toList) h;simp only [ei] at h1;have h2:=List.append_cancel_left h1;cases b; cases c;simp only at h2
 congr 1
 exact Array.ext' h2
def word_inj {L:List Lb} {E:List Ky} (i0:WI H L E) {k k':Ky} (hk:k∈L.map Ah\/k∈E) (d:k'∈L.map Ah\/k'∈E) (h:H.word k=H.word k'):k=k':=by
 have c:∀ a b:Xaa,(⟨#[76]⟩:Xaa)++a≠(⟨#[69]⟩:Xaa)++b:=by
  intro a b e;have h1:=aq9 (fun b:Xaa=>b.data.toList) e;simp only [ei] at h1;simp at h1
 have l:∀ {k:Ky},k∈L.map Ah\/k∈E->H.num k=none->∃ i,H.sG k=some i/\∃ hi:i<E.length,E[i]=k:=by
  intro k hk hn;rw [i0.num] at hn
  have:=pd.1 hn
  have hk:k∈E:=hk.elim (fun h=>absurd h this) id;obtain ⟨i,hi⟩:=Cf hk;exact ⟨i,by rw [i0.sG]; exact hi,jN hi⟩
 unfold LW.word at h;cases h1:H.num k with
 | some i =>
  cases h2:H.num k' with
  | some j =>
   rw [h1,h2] at h
   have:=tF (xg h)
   subst this;rw [i0.num] at h1 h2;obtain ⟨a,m⟩:=jN h1;obtain ⟨b,n⟩:=jN h2;rw [<- m,<- n]
  | none =>
   rw [h1,h2] at h;exact absurd h (c _ _)
 | none =>
  obtain ⟨i,o,hi,f⟩:=l hk h1;cases h2:H.num k' with
  | some j =>
   rw [h1,h2] at h;exact absurd h.symm (c _ _)
  | none =>
   obtain ⟨j,p,q,g⟩:=l d h2;rw [h1,h2] at h;simp only [o,p,Option.getD_some] at h
   have:=tF (xg h)
   subst this;rw [<- f,<- g]
def Dp (b:QQ H) (k:Ky):(H.word k).size<=maxLen:=by
 have a:2000<=maxLen:=bQ
 unfold LW.word;cases h:H.num k with
 | some n =>
  have:=me (n:=n) (by have:=b.n _ _ h; omega)
  show (_++_:Xaa).size<=_;rw [ef9]
  have:(⟨#[76]⟩:Xaa).size=1:=rfl
  omega
 | none =>
  have h1:(H.sG k).getD 0<=2^60:=by
   cases h2:H.sG k with
   | none=>simp
   | some i=>have:=b.e _ _ h2; simp; omega
  have:=me h1
  show (_++_:Xaa).size<=_;rw [ef9]
  have:(⟨#[69]⟩:Xaa).size=1:=rfl
  omega
variable {Y:bJ}
def Bm {u:Nat} (h:H.bad u Y=none):∀ t,t∈Y.ah->∃ k,H.own u t.1=some k:=by
 unfold LW.bad at h;rw [Option.map_eq_none_iff,List.find?_eq_none] at h;intro t ht
 have:=h t ht
 cases a:H.own u t.1 with
 | none=>rw [a] at this; simp at this
 | some k=>exact ⟨k,rfl⟩
def D9 {u:Nat} (h:H.bad u Y=none):∀ t,t∈(H.lin u Y).ah->∃ p k,p∈Y.ah/\H.own u p.1=some k/\t.1=H.word k:=by
 intro t ht;have hb:=Bm h;rcases pY ht with ⟨p,b,c,a⟩ | ⟨p,y,v,b,a,hv,c⟩
 ·obtain ⟨k,hk⟩:=hb p b;rw [c] at hk;rw [hk] at a;cases a
 ·obtain ⟨k,hk⟩:=hb p b;rw [hk] at a;simp only [Option.map_some,Option.some.injEq] at a;subst a;refine ⟨p,k,b,hk,?_⟩;rw [<- c]
  have:v=(H.word k,1):=by simpa [mC] using hv
  rw [this]
def Ak {u:Nat} (h:H.bad u Y=none):(H.lin u Y).ah.length<=Y.ah.length:=by
 have a:Nf (H.lin u Y).ah:=eM _ _;have h1:((H.lin u Y).ah.map (·.1)).Nodup:=cp9.2 (a.1.imp fun h=>jT h);have h2:=kb ((H.lin u Y).ah.map (·.1)) (Y.ah.map fun t=>H.word ((H.own u t.1).getD (0,dS))) h1 (fun s b=>by
  obtain ⟨t,ht,rfl⟩:=an9.1 b;obtain ⟨p,k,c,hk,d⟩:=D9 h t ht;rw [d];refine an9.2 ⟨p,c,?_⟩;rw [hk];rfl)
 rwa [ab9,ab9] at h2
def P8 (b:QQ H) {u:Nat} (h:H.bad u Y=none):∀ t,t∈(H.lin u Y).ah->t.1.size<=maxLen:=by
 intro t ht;obtain ⟨p,k,_,_,a⟩:=D9 h t ht;rw [a];exact Dp b k
def xQ {n:Nat} (h:sq H n c=none):(∀ x,x∈c.text->H.bad n x.e=none)/\(∀ x,x∈c.data->H.bad n x.e=none)/\∀ e,e∈c.bg->H.bad n e.2=none:=by
 unfold sq at h;rw [Option.or_eq_none_iff,Option.or_eq_none_iff] at h;obtain ⟨h1,h2,a⟩:=h;unfold LW.zJ at h1 h2;rw [cw9] at h1 h2 a;exact ⟨h1,h2,a⟩
theorem jZ {w:LW}:∀ (us:List cg) (n:Nat),fK w n us=none->∀ i,(hi:i<us.length)->sq w (n+i) us[i]=none
 | [],n,h,i,hi=>absurd hi ai
 | u::us,n,h,i,hi=>by
  rw [fK] at h;cases a:sq w n u with
  | some s=>rw [a] at h; cases h
  | none =>
   rw [a] at h
   match i with
   | 0=>simpa using a
   | i+1 =>
    have:=jZ us (n+1) h i (by simpa using hi)
    rw [show n+1+i=n+(i+1) from ad] at this;simpa using this
theorem wG:∀ (us:List cg) (n:Nat) (q:Nat × sO),q∈eF n us->∃ i,∃ hi:i<us.length,q.1=n+i/\q.2∈us[i].bg
 | [],n,q,h=>by simp [eF] at h
 | u::us,n,q,h=>by
  rw [eF,as9] at h;rcases h with h | h
  ·obtain ⟨e,a,rfl⟩:=an9.1 h;exact ⟨0,ai,rfl,a⟩
  ·obtain ⟨i,hi,h1,h2⟩:=wG us (n+1) q h;exact ⟨i+1,by simpa using hi,ad,by simpa using h2⟩
def Al {us:List cg} (h:fK H 0 us=none) {q:Nat × sO} (a:q∈eF 0 us):H.bad q.1 q.2.2=none:=by
 obtain ⟨i,hi,h1,h2⟩:=wG us 0 q a
 have:=(xQ (jZ us 0 h i hi)).2.2 _ h2
 rw [h1];exact this
theorem Kq:∀ (us:List cg) (n:Nat),(∀ u,u∈us->u.bg.length<=8192)->(eF n us).length<=us.length*8192
 | [],n,h=>by simp [eF]
 | u::us,n,h=>by
  rw [eF,ae9,ab9,ck9];have h1:=Kq us (n+1) (fun v hv=>h v (by simp [hv]));have h2:=h u ai;omega
theorem xN:∀ (us:List cg) (n:Nat),(∀ u,u∈us->(u.bg.map (·.1)).Nodup)->((eF n us).map jo).Nodup
 | [],n,h=>by simp [eF]
 | u::us,n,h=>by
  rw [eF,ao9,cq9];refine ⟨?_,xN us (n+1) (fun v hv=>h v (by simp [hv])),?_⟩
  ·have:(u.bg.map fun e=>(n,e)).map jo=(u.bg.map (·.1)).map fun s=>(n,s):=by rw [bf9,bf9]; rfl
   rw [this,eb9,cp9];exact (eb9.1 (h u ai)).imp fun h e=>h (dr9 e).2
  ·intro a c b d e;obtain ⟨q,f,rfl⟩:=an9.1 c;obtain ⟨r,g,rfl⟩:=an9.1 d;obtain ⟨x,_,rfl⟩:=an9.1 f;obtain ⟨i,_,h1,_⟩:=wG us (n+1) r g
   have:n=r.1:=(dr9 e).1
   omega
theorem CG:∀ (us:List cg) (n:Nat),((eF n us).map fun q=>q.2.2.ah.length).sum<=((us.flatMap cO).flatMap (·.ah)).length
 | [],n=>by simp [eF]
 | u::us,n=>by
  rw [eF,ao9,List.sum_append,cd9,ds9,ae9];have h1:=CG us (n+1);have h2:((u.bg.map fun e=>(n,e)).map fun q=>q.2.2.ah.length).sum<=((cO u).flatMap (·.ah)).length:=by
   unfold cO;rw [ds9,ae9,bf9]
   have:∀ l:List sO,(l.map ((fun q:Nat × sO=>q.2.2.ah.length) ∘ fun e=>(n,e))).sum=((l.map (·.2)).flatMap (·.ah)).length:=by
    intro l
    induction l with
    | nil=>rfl
    | cons e l a=>rw [bo9,cr9,bo9,cd9,ae9,a]; rfl
   rw [this];omega
  omega
structure Fj (us:List cg):Prop where
 right:∀ u,u∈us->ft u=0
 many:us.length<=64
def Fj.bg {us:List cg} (r:Fj us) {u:cg} (a:u∈us):u.bg.length<=8192/\u.text.length+u.data.length<=8192:=by
 have h:=(A0 (r.right u a)).1;unfold wA at h;rw [Bool.or_eq_false_iff] at h;have h1:=ar9 h.1;have h2:=ar9 h.2;omega
def Fj.eqs {us:List cg} (r:Fj us):(eF 0 us).length<=2^19:=by
 have h1:=Kq us 0 (fun u a=>(r.bg a).1);have h2:=r.many;omega
theorem sf (n sec:Nat):∀ (l:List cz) (i:Nat),(qE n sec i l).length<=l.length
 | [],i=>by simp [qE]
 | x::l,i=>by
  have:=sf n sec l (i+1)
  rw [qE,ae9,ck9];split <;> simp <;> omega
theorem CX:∀ (us:List cg) (n:Nat),(∀ u,u∈us->u.text.length+u.data.length<=8192)->(cm n us).length<=us.length*8192
 | [],n,h=>by simp [cm]
 | u::us,n,h=>by
  rw [cm,ae9,ck9];have h1:=CX us (n+1) (fun v hv=>h v (by simp [hv]));have h2:=h u ai;have h3:=sf n 0 u.text 0;have h4:=sf n 1 u.data 0;unfold Hq;rw [ae9];omega
def Fj.eG {us:List cg} (r:Fj us):(cm 0 us).length<=2^19:=by
 have h1:=CX us 0 (fun u a=>(r.bg a).2);have h2:=r.many;omega
def Fj.Ku {us:List cg} (r:Fj us) {w:LW} (i0:WI w (cm 0 us) ((eF 0 us).map jo)):QQ w :=
 i0.Ku (by have:=r.eG; omega) (by rw [ab9]; have:=r.eqs; omega)
def VT {us:List cg} (r:Fj us) (sm:H3 us) (i0:WI H (cm 0 us) ((eF 0 us).map jo)) (m:fK H 0 us=none) (h:es.map fD=oo H us):uz es:=by
 have lb:=r.Ku i0;have hn:Sx.aU es=(eF 0 us).map fun q=>H.word (jo q):=by
  have:=aq9 (List.map (·.1)) h
  unfold oo at this;rw [bf9,bf9] at this;exact this
 have hl:es.length=(eF 0 us).length:=by
  have:=aq9 List.length h
  unfold oo at this;simpa using this
 have c:∀ e,e∈es->∃ q,q∈eF 0 us/\e.name=H.word (jo q)/\e.x=H.lin q.1 q.2.2:=by
  intro e d;have h1:fD e∈oo H us:=by rw [<- h]; exact bc9 d
  unfold oo at h1;obtain ⟨q,f,h2⟩:=an9.1 h1;exact ⟨q,f,(dr9 h2).1.symm,(dr9 h2).2.symm⟩
 have g:(es.flatMap (·.x.ah)).length<=2^20:=by
  have n:∀ l:List cT,(l.flatMap (·.x.ah)).length=((l.map fD).map (·.2.ah.length)).sum:=by
   intro l
   induction l with
   | nil=>rfl
   | cons e l i=>rw [cd9,ae9,bo9,bo9,cr9,i]; rfl
  rw [n,h];unfold oo;rw [bf9];have o:∀ l:List (Nat × sO),(∀ q,q∈l->H.bad q.1 q.2.2=none)->(l.map ((fun p:Xaa × bJ=>p.2.ah.length) ∘ fun q=>(H.word (q.1,q.2.1),H.lin q.1 q.2.2))).sum<=(l.map fun q=>q.2.2.ah.length).sum:=by
   intro l hl
   induction l with
   | nil=>simp
   | cons q l i =>
    rw [bo9,bo9,cr9,cr9];have h1:=i (fun p s=>hl p (by simp [s]));have h2:=Ak (hl q ai);have h3:((fun p:Xaa × bJ=>p.2.ah.length) ∘ fun q:Nat × sO=>(H.word (q.1,q.2.1),H.lin q.1 q.2.2)) q=(H.lin q.1 q.2.2).ah.length:=rfl;omega
  have h1:=o (eF 0 us) (fun q f=>Al m f);have h2:=CG us 0;have h3:=sm.ah;omega
 refine ⟨⟨?_,?_,?_,?_,?_⟩,g⟩
 ·rw [hn];have h1:=xN us 0 (fun u y=>by
   have:=xM (r.right u y)
   unfold fN at this;rw [cq9] at this;exact this.2.1)
  rw [eb9,cp9] at h1 ⊢;refine List.Pairwise.imp_of_mem ?_ h1;intro a b z j k e;exact k (word_inj i0 (.inr (bc9 z)) (.inr (bc9 j)) e)
 ·have:=r.eqs; omega
 ·intro e d;obtain ⟨q,_,h1,_⟩:=c e d;rw [h1];exact Dp lb _
 ·intro e d
  have:=ir (fun e:cT=>e.x.ah) d
  omega
 ·intro e d t ht;obtain ⟨q,f,_,h2⟩:=c e d;rw [h2] at ht;exact P8 lb (Al m f) t ht
def MW {ms:List cT} (o:uz es) (hc:∀ v,¬ kV (dA es) v) (g:ms.map (fun m=>(m.name,m.x))=es.map (fun e=>(e.name,fl es e.name))) (hl:es.length<=2^19) :
  EqsOk ms/\(∀ e,e∈ms->e.x.ah.length<=2^20)/\(ms.flatMap (·.x.ah)).length<=2^39/\ms.length<=2^20:=by
 have hn:Sx.aU ms=Sx.aU es:=by
  have:=aq9 (List.map (·.1)) g
  rw [bf9,bf9] at this;exact this
 have i:ms.length=es.length:=by
  have:=aq9 List.length g
  simpa using this
 have a:∀ e,e∈ms->e.name∈Sx.aU es/\e.x=fl es e.name:=by
  intro e b;have h1:(e.name,e.x)∈es.map (fun e=>(e.name,fl es e.name)):=by rw [<- g]; exact bc9 (f:=fun m:cT=>(m.name,m.x)) b
  obtain ⟨q,j,h2⟩:=an9.1 h1;have h3:=(dr9 h2).1;exact ⟨by rw [<- h3]; exact bc9 j,by rw [<- (dr9 h2).2,h3]⟩
 have c:∀ e,e∈ms->e.x.ah.length<=2^20:=fun e b=>by rw [(a e b).2]; exact o.Fo hc (a e b).1
 refine ⟨⟨by rw [hn]; exact o.nodup,ad,fun e b=>?_,fun e b=>by have:=c e b; omega,fun e b t ht=>?_⟩,c,?_,ad⟩
 ·exact o.names _ (a e b).1
 ·rw [(a e b).2] at ht;exact o.NA hc (a e b).1 t ht
 ·have k:∀ l:List cT,(∀ e,e∈l->e.x.ah.length<=2^20)->(l.flatMap (·.x.ah)).length<=l.length*2^20:=by
   intro l h
   induction l with
   | nil=>simp
   | cons e l n =>
    rw [cd9,ae9,ck9];have h1:=n (fun d p=>h d (by simp [p]));have h2:=h e ai;omega
  have:=k ms c
  omega
def WD (n:Int):Instr.fill (fun j=>some (j*1,1)) ((Array.range (1*1)).map ((Value.int .u8 0).cells[· % (Value.int .u8 0).cells.size]!)) [(0,.int .u8 n)]=some ([.int .u8 n]:List Xab).toArray:=av
def uY (n:Nat):Xaa:=⟨[UInt8.ofNat (48+n % 10)].toArray⟩
def eK (n:Nat):Xaa:=⟨(Lib.decDigits n).toArray⟩
def A8 {n:Nat} (h:n<10):eK n=uY n:=by
 unfold eK uY;rw [Lib.decDigits_one h,dw9 h]
def Ml {n:Nat} (h:¬ n<10) (s:Xaa):eK n++s=eK (n / 10)++(uY n++s):=by
 unfold eK uY
 conv=>lhs; rw [Lib.decDigits,dif_neg h]
 apply yR;rw [ei,ei,ei];simp [List.append_assoc]
variable {a:Lp} {Z:Xab->Hp->Prop}
def yD {h:Hp} {n:Nat} (hn:n<=2^60) {k:Xaa->T} (hk:∀ h',Ext h h'->k (uY n) a Z h') :
  T.ef Xaz (Instr.buildSlice 204 1 #[(0,.int .u8 (IntKind.wrap .u8 (IntKind.wrap .i64 ((48:Int)+(Int.tmod (n:Int) (10:Int))))))]) false [(false,[.slice 0])] (fun b c d =>
   T.ef Xaz (convert 204 9 (.slice b c d)) false [(false,[.string])] k) a Z h:=by
 have hw:=WR n;rw [hw];refine nS Rx byZ ad ad (WD _) ?_;intro h1 e f z1;have g:SL h1 h.size 5 1 (some ⟨h.size,0,none⟩) 1 1 (Qm [UInt8.ofNat (48+n % 10)]):=⟨rfl,by simp [Qm],h.size,[],[],rfl,au9 _,ad,by simpa [Qm] using e,ai⟩
 exact Pv g ai (hk h1 f)
def Aa (s:Xaa):((ByteArray.toList s)==([]:List UInt8))=decide (s.data.toList=[]):=by
 rw [ByteArray.toList_eq];cases h:s.data.toList <;> simp
variable {O:Hp}
def tH {n:Nat} (hn:n<=2^60):HC Xaz 73 #[vI (n:Int)] O fun w h'=>w=.string (eK n)/\Ext O h':=by
 refine aX (args:=[vI (n:Int)]) mixed Tryz.func73 av (nt n) ?_;unfold iW bd bR bn bZ aM;have c:∀ m,(uY m).size=1:=fun m=>rfl
 have a:∀ m s,¬ (uY m++s).data.toList=[]:=fun m s g=>by rw [ei] at g; simp [uY] at g
 refine aQ (cs:=VI) (fun y k h'=>∃ (m:Nat) (s:Xaa),y.1=(m:Int)/\y.2.1=s/\k=2*m+(if s.data.toList=[] then 1 else 0)/\m<=n/\s.size+m<=n+1/\Ext O h'/\((s=⟨#[]⟩/\m=n)\/(¬ s.data.toList=[]/\eK n=(if m=0 then ⟨#[]⟩ else eK m)++s))) ((n:Int),(⟨#[]⟩:Xaa),()) _ rfl
  ⟨n,⟨#[]⟩,rfl,rfl,rfl,au9 _,by show 0+n<=n+1; omega,Ch.refl _ _,.inl ⟨rfl,rfl⟩⟩ ?_
 rintro ⟨x,(s:Xaa),⟨⟩⟩ k h1 ⟨m,A,hi,d,rfl,p,t,i,b⟩;simp only at hi d;subst hi d;refine ak ?_;have e:IntKind.wrap .i64 (Int.tdiv (m:Int) 10)=((m / 10:Nat):Int):=by
  have:Int.tdiv (m:Int) 10=((m / 10:Nat):Int):=by rw [Int.tdiv_eq_ediv_of_nonneg ad]; omega
  rw [this,wrap_i64 ad ad]
 have j:∀ s:Xaa,(uY m++s).size=1+s.size:=fun s=>by rw [ef9,c]
 refine aK ?_ ?_<;>intro q
 ·have l:¬ m=0:=ad
  refine dy bQ ?_;refine yD ad ?_;intro h2 o;refine dy (by show ((((uY m).size+s.size:Nat)):Int)<=_; rw [c]; omega) (dy bQ ?_);have u:eK n=eK m++s:=by
   rcases b with ⟨rfl,rfl⟩ | ⟨_,b⟩
   ·apply yR;rw [ei]
    simp
   ·rw [b,ac9 l]
  refine aD (cs:=VI) (((m / 10:Nat):Int),uY m++s,()) (2*(m / 10)+0) rfl ad (aq9 (fun z=>[Value.int .i64 z,.string (uY m++s)]) e) ⟨m / 10,uY m++s,rfl,rfl,by rw [ac9 (a m s)],ad,by rw [j]; omega,i.trans o,.inr ⟨a m s,?_⟩⟩;rw [u]
  by_cases f:m<10
  ·rw [A8 f,af9 ad];apply yR;rw [ei,ei,ei]
   simp
  ·rw [Ml f,ac9 ad]
 ·have l:m=0:=ad
  subst l;rw [Aa];refine aK ?_ ?_<;>intro r
  ·rcases b with ⟨rfl,h0⟩ | ⟨g,_⟩
   ·subst h0;refine dy bQ ?_;refine yD ad ?_;intro h2 o;refine dy bQ (dy bQ ?_);refine aD (cs:=VI) (((0:Nat):Int),uY 0++⟨#[]⟩,()) 0 rfl ai rfl ⟨0,uY 0++⟨#[]⟩,rfl,rfl,by rw [ac9 (a 0 _)],ad,bQ,i.trans o,.inr ⟨a 0 _,?_⟩⟩;rw [A8 ad,af9 rfl];apply yR;rw [ei,ei]
    simp
   ·exact absurd r g
  ·rcases b with ⟨rfl,_⟩ | ⟨_,b⟩
   ·exact absurd rfl r
   ·refine ⟨?_,i⟩;rw [b,af9 rfl]
    congr 1
def mR (us:List cg) (n:Nat) (x:bJ):Option Xaa:=(x.ah.find? fun t=>(jL us n t.1).isNone).map (·.1)
def eb (us:List cg) (n:Nat) (x:bJ):Xaa:=(mR us n x).getD ⟨#[]⟩
def RY (o:Option Nat):decide (Ty o<0)=o.isNone:=by
 cases o with
 | none=>rfl
 | some k=>exact aj9 (by show ¬ ((k:Int)<0); omega)
variable {U b:Xac}
def He {l c:Nat} {us:List cg} (v:xt O U l us) (sz:M4 us) {n:Nat} (hn:n<us.length) {m d:Nat} (u:ik O b m Y.ah) (C:Y.ah.length<=2^60) :
  HC Xaz 99 #[.slice U l c,vI (n:Int),gU b m d Y] O fun w h'=>w=.string (eb us n Y)/\Ext O h':=by
 refine aX (args:=[.slice U l c,vI (n:Int),.agg #[.slice b m d,.int .u32 Y.num]]) mixed Tryz.func99 av (nY U l c n b m d Y.num) ?_;unfold jA aR aY bq aH cE aC bZ aM;have hll:=u.len;refine bm ?_;intro h1 D E z1;refine aQ (cs:=HV) (fun y k h'=>∃ i:Nat,y.2.1=(i:Int)/\k=Y.ah.length-i/\i<=Y.ah.length/\Ext O h'/\Ext h1 h'/\∀ j,j<i->(o:j<Y.ah.length)->(jL us n Y.ah[j].1).isNone=false) ((⟨#[]⟩:Xaa),(0:Int),()) Y.ah.length rfl
  ⟨0,rfl,rfl,ad,E,Ch.refl _ _,fun j o=>absurd o ad⟩ ?_
 rintro ⟨F,H,⟨⟩⟩ k h2 ⟨i,hi,rfl,G,f,z,s⟩;simp only at hi;subst hi;refine ak ?_;have b2:=D.aj z ai;refine aw b2 ((b,m,d),()) (ak ?_);refine aK ?_ ?_<;>intro g
 ·have A:i<Y.ah.length:=ad
  refine aw b2 ((b,m,d),()) (ak ?_);obtain ⟨a,rfl,hc⟩:=(u.aj f ai).cells i A;refine bK rfl ?_;rw [cr i];refine ar (Y.ah[i].1,()) ⟨hc.1,trivial⟩ (ak ?_);refine aE (GG (c:=c) (v.aj f) sz hn Y.ah[i].1) ?_;rintro _ I ⟨rfl,B⟩;refine ⟨(Ty (jL us n Y.ah[i].1),()),rfl,ak ?_⟩;rw [RY];refine ao ?_ ?_<;>intro r
  ·refine aw (b2.aj B ai) ((some a,m,d),()) (ak ?_);refine bK rfl ?_;refine ar (Y.ah[i].1,()) ⟨(aI B ai _ _ hc).1,trivial⟩ ?_;refine ⟨?_,f.trans B⟩;unfold eb mR;rw [lS (fun t:Xaa × Nat=>(jL us n t.1).isNone) Y.ah i A (fun j o=>s j o ad) r] <;> rfl
  ·refine aD (cs:=HV) (F,((i+1:Nat):Int),()) (Y.ah.length-(i+1)) rfl ad (by rw [wrap_i64 ad ad]; rfl) ?_;exact ⟨i+1,rfl,rfl,ad,f.trans B,z.trans B,fun j o C=>by
    by_cases e:j=i
    ·subst e; exact r
    ·exact s j ad C⟩
 ·have:i=Y.ah.length:=ad
  subst this;refine ⟨?_,f⟩;unfold eb mR;rw [oM (fun t:Xaa × Nat=>(jL us n t.1).isNone) Y.ah fun j o=>s j o o] <;> rfl
def Dt {P:Program} {h:Hp} {L:Lp} {K:Xab->Hp->Prop} {k:Xac->Nat->Nat->T} {t n e:TypeId} {z:Xab} {sz by':Nat} (ht:P.underlying t=some (.slice e)) (g:(P.info? e).map (fun i=>(i.zero,i.size,i.bytes))=some (some z,sz,by'))
  (o:z.cells.size=sz) {b:Nat} {p:Xac} {l c:Nat} {xs:List (List Xab)} (s:SL h b e sz p l c xs) {q:Xac} {m d:Nat} {ys:List (List Xab)} (j:(q=none/\ys=[])\/∃ a,q=some a/\aF h a 0 ys.flatten) (B:m=ys.length) (r:∀ y,y∈ys->y.length=sz) (u:ys.flatten.all dl=true)
  (w:(2*(l+m)+1024)*by'<=2^48) (x:l+m<=2^48) (C:b<=h.size)
  (hk:∀ p' c' h',SL h' b e sz p' (l+m) c' (xs++ys)->Ch (aG p) h h'->k p' (l+m) c' L K h') :
  T.ef P (Builtin.append_ #[t,t] n #[.slice p l c,.slice q m d]) false [(false,[.slice 0])] k L K h:=by
 obtain ⟨i,hi,D,rfl,rfl⟩:=pR g;refine dt ?_;rcases j with ⟨rfl,rfl⟩ | ⟨a,rfl,hc⟩
 ·have h0:m=0:=B;subst h0;have A:l<=c:=SL.Im s;simp [Builtin.append_,an,az ht,bY hi,cP hi,Builtin.lenOf,Builtin.firstCells,A];have f:∃ p' l' c',Value.slice p l c=.slice p' l' c'/\k p' l' c' L K h:=⟨p,l,c,rfl,by simpa using hk p c h (by simpa using s) (Ch.refl _ _)⟩
  cases p with
  | none=>exact f
  | some a=>exact f
 ·exact pG (P:=P) (K:=fun v h'=>∃ p l c,v=.slice p l c/\k p l c L K h') (ty:=n) (ys:=ys) ht hi D o s B r hc u w x C fun p' c' h' E k' _=>⟨p',_,c',rfl,hk p' c' h' E k'⟩
def rB (us:List cg) (n:Nat) (l:List bJ):Xaa:=((l.map (eb us n)).find? fun s=>!decide (s.data.toList=[])).getD ⟨#[]⟩
def JW {us:List cg} {n:Nat} {l:List bJ} {i:Nat} (hi:i<l.length) (h:∀ j,(a:j<i)->(eb us n (l[j]'ad)).data.toList=[]) (b:¬ (eb us n l[i]).data.toList=[]):rB us n l=eb us n l[i]:=by
 unfold rB;rw [lS (fun s:Xaa=>!decide (s.data.toList=[])) (l.map (eb us n)) i (by rw [ab9]; exact hi) (fun j a=>by rw [am9]; simp [h j a]) (by rw [am9]; simpa using b)];rw [am9] <;> rfl
def Lw {us:List cg} {n:Nat} {l:List bJ} (h:∀ j,(a:j<l.length)->(eb us n l[j]).data.toList=[]):rB us n l=⟨#[]⟩:=by
 unfold rB;rw [oM (fun s:Xaa=>!decide (s.data.toList=[])) (l.map (eb us n)) fun j a=>by
  rw [ab9] at a;rw [am9];simp [h j a]]
 rfl
def Ez {l c:Nat} {us:List cg} (v:xt O U l us) (sz:M4 us) {n:Nat} (hn:n<us.length) :
  HC Xaz 71 #[.slice U l c,vI (n:Int)] O fun w h'=>w=.string (rB us n (cO us[n]))/\Ext O h':=by
 refine aX (args:=[.slice U l c,vI (n:Int)]) mixed Tryz.func71 av (kS U l c n) ?_;unfold gK aR aY bq aH eE bd aC aZ bZ aM;have hll:=v.len;have hmany:=sz.many;obtain ⟨a,sa,sb,sc,sd,rfl,hc,va⟩:=v.cells n hn;have hm:=al9 hn;generalize us[n]=u at hc va hm;refine bK rfl ?_;rw [cr n];refine ar ((sa.p,sa.l,sa.c),(sb.p,sb.l,sb.c),(sc.p,sc.l,sc.c),(sd.p,sd.l,sd.c),()) hc (ak ?_);refine bm ?_;intro h1 b1 e1 z1;refine bP b1 ?_;intro h2 G k2 z2;have G:br h2 O.size 70 [sa.v,sb.v,sc.v,sd.v]:=G;have e2:Ext O h2:=bU e1 k2;refine aw G ((sa.p,sa.l,sa.c),()) (ak ?_);rw [ay];refine aw G ((sb.p,sb.l,sb.c),()) (ak ?_);have va2:=va.aj e2;obtain ⟨D,K,L,iwt⟩:=Es va2.text;obtain ⟨E,M,N,iwd⟩:=Es va2.data;have hlt:D.length=u.text.length:=by rw [<- K,ab9]
 have hld:E.length=u.data.length:=by rw [<- M,ab9]
 have h1t:=sz.text u hm;have h1d:=sz.data u hm;have h1e:=sz.bg u hm;have hlvt:=L.len;have hlvd:=N.len;refine SE (z:=.agg iz.toArray) (sz:=10) (by':=104) Ce Ga ?_;intro h3 s3 X;have z3:=X.size;have z2':=e2.size;have b3:=G.aj X ai;refine ⟨⟨b3.cells _ rfl,b3.cells _ rfl,trivial⟩,?_⟩;have F:∀ {O h':Hp} {q:Xac} {us:List (bI × cz)},Ext O h'->((q=none/\us.map tY=[])\/∃ a,q=some a/\aF O a 0 (us.map tY).flatten)->((q=none/\us.map tY=[])\/∃ a,q=some a/\aF h' a 0 (us.map tY).flatten):=by
  rintro O h' q us e (x | ⟨a,ha,hc⟩)
  ·exact .inl x
  ·exact .inr ⟨a,ha,aI e ai _ _ hc⟩
 refine Dt (z:=.agg iz.toArray) (sz:=10) (by':=104) Ce Ga rfl s3 (F X L.src) (by simpa using hlvt) (pa D) (pX D) ad ad ad ?_;intro p4 c4 h4 s4 k4;have Y:Ext h2 h4:=Ch.trans X k4 (fun j b hl=>by simp [aG] at b; omega);have b4:=G.aj Y ai;have z4:=Y.size;rw [dc9] at s4;refine ⟨⟨b4.cells _ rfl,trivial⟩,?_⟩;refine Dt (z:=.agg iz.toArray) (sz:=10) (by':=104) Ce Ga rfl s4 (F Y N.src) (by simpa using hlvd) (pa E) (pX E) ad ad ad ?_;intro p5 c5 h5 s5 k5;have Z:Ext h2 h5:=Ch.trans Y k5 (fun j b hl=>by have:=(s4.cw b).1; omega);have b5:=G.aj Z ai;rw [<- ao9] at s5;refine ⟨⟨b5.cells _ rfl,trivial⟩,?_⟩;have e05:=e2.trans Z;have hI:∀ w,w∈D++E->iM h5 w.1.p w.1.l w.2:=fun w Q=>by
  rcases as9.1 Q with Q | Q
  ·exact (iwt w Q).aj Z
  ·exact (iwd w Q).aj Z
 have hE:(D++E).map (fun w=>w.2.e)=u.text.map (·.e)++u.data.map (·.e):=by
  rw [ao9,<- K,<- M,bf9,bf9] <;> rfl
 have f:cO u=(D++E).map (fun w=>w.2.e)++u.bg.map (·.2):=by rw [hE]; rfl
 have hwl:(D++E).length=sa.l+sb.l:=by rw [ae9]; omega
 generalize D++E=W at s5 hI f hwl;clear hE;refine aQ (cs:=HV) (fun y k h'=>∃ i:Nat,y.2.1=(i:Int)/\k=W.length-i/\i<=W.length/\Ext h5 h'/\∀ j,j<i->(b:j<W.length)->(eb us n W[j].2.e).data.toList=[]) ((⟨#[]⟩:Xaa),(0:Int),()) W.length rfl
  ⟨0,rfl,rfl,ad,Ch.refl _ _,fun j b=>absurd b ad⟩ ?_
 rintro ⟨R,n32,⟨⟩⟩ k h6 ⟨i,hi,rfl,hle,I,B⟩;simp only at hi;subst hi;refine ak ?_;have s6:=s5.bF I ai;have e06:=e05.trans I;have b6:=b5.aj I ai;refine aK ?_ ?_<;>intro g
 ·have o:i<W.length:=ad
  obtain ⟨a6,rfl,H⟩:=SL.cells s6 (i:=i) (by rw [ab9]; exact o);rw [am9] at H;have hiw:=(hI _ (al9 o)).aj I;refine bK rfl ?_;rw [cr i];refine ar ((W[i].1.p,W[i].1.l,W[i].1.c),(W[i].2.e.num:Int),()) ⟨by rw [add_add]; exact H.2.2.2.2.2.2.2.1,by rw [add_add]; exact H.2.2.2.2.2.2.2.2.1,trivial⟩ ?_;refine ak ?_;refine aE (He (c:=c) (d:=W[i].1.c) (v.aj e06) sz hn hiw.lin.vw hiw.lin.many) ?_;rintro _ h7 ⟨rfl,J⟩;refine ⟨(eb us n W[i].2.e,()),rfl,ak ?_⟩;rw [Aa];refine ao ?_ ?_<;>intro r
  ·have r:¬ (eb us n W[i].2.e).data.toList=[]:=by simpa using r
   refine ⟨?_,e06.trans J⟩;rw [f,JW (i:=i) (by rw [ae9,ab9]; omega) (fun j b=>by
    rw [ca9 (by rw [ab9]; omega),am9];exact B j b ad) (by
    rw [ca9 (by rw [ab9]; omega),am9];exact r)]
   rw [ca9 (by rw [ab9]; omega),am9]
  ·have r:(eb us n W[i].2.e).data.toList=[]:=by simpa using r
   refine aD (cs:=HV) (R,((i+1:Nat):Int),()) (W.length-(i+1)) rfl ad (by rw [wrap_i64 ad ad]; rfl) ?_;exact ⟨i+1,rfl,rfl,ad,I.trans J,fun j b hx=>by
    by_cases e:j=i
    ·subst e; exact r
    ·exact B j ad hx⟩
 ·have hiW:i=W.length:=ad
  subst hiW;have veq:=va.bg;have hlq:=veq.len;refine aQ (cs:=HV) (fun y k h'=>∃ i:Nat,y.2.1=(i:Int)/\k=u.bg.length-i/\i<=u.bg.length/\Ext h5 h'/\∀ j,j<i->(b:j<u.bg.length)->(eb us n u.bg[j].2).data.toList=[]) (R,(0:Int),()) u.bg.length rfl
   ⟨0,rfl,rfl,ad,I,fun j b=>absurd b ad⟩ ?_
  rintro ⟨s33,n34,⟨⟩⟩ k h7 ⟨i,hi,rfl,hle,J,s⟩;simp only at hi;subst hi;refine ak ?_;have b7:=b5.aj J ai;have e07:=e05.trans J;rw [ay];refine aw b7 ((sc.p,sc.l,sc.c),()) (ak ?_);refine aK ?_ ?_<;>intro g
  ·have o:i<u.bg.length:=ad
   refine aw b7 ((sc.p,sc.l,sc.c),()) (ak ?_);obtain ⟨aq,q,m,d,haq,S,V,_⟩:=(veq.aj e07).cells i o;refine bK haq ?_;rw [cr i];refine ar ((q,m,d),(u.bg[i].2.num:Int),()) ⟨by rw [add_add]; exact S.2.1,by rw [add_add]; exact S.2.2.1,trivial⟩ ?_;refine ak ?_;refine aE (He (c:=c) (d:=d) (v.aj e07) sz hn V.vw V.many) ?_;rintro _ h8 ⟨rfl,e8⟩;refine ⟨(eb us n u.bg[i].2,()),rfl,ak ?_⟩;rw [Aa];have t:(W.map fun w=>w.2.e).length=W.length:=ab9 _;refine ao ?_ ?_<;>intro r
   ·have r:¬ (eb us n u.bg[i].2).data.toList=[]:=by simpa using r
    refine ⟨?_,e07.trans e8⟩;have A:∀ j (b:j<u.bg.length),((W.map fun w=>w.2.e)++u.bg.map (·.2))[W.length+j]'(by rw [ae9,ab9,ab9]; omega)=u.bg[j].2:=fun j b=>by
     rw [cs9 (by rw [t]; omega)];simp [t]
    rw [f,JW (i:=W.length+i) (by rw [ae9,ab9,ab9]; omega) (fun j b=>by
     by_cases C:j<W.length
     ·rw [ca9 (by rw [t]; omega),am9];exact B j ad C
     ·have:=A (j-W.length) ad
      simp only [show W.length+(j-W.length)=j from ad] at this;rw [this];exact s _ ad _) (by rw [A i o]; exact r),A i o]
   ·have r:(eb us n u.bg[i].2).data.toList=[]:=by simpa using r
    refine aD (cs:=HV) (s33,((i+1:Nat):Int),()) (u.bg.length-(i+1)) rfl ad (by rw [wrap_i64 ad ad]; rfl) ?_;exact ⟨i+1,rfl,rfl,ad,J.trans e8,fun j b hx=>by
     by_cases e:j=i
     ·subst e; exact r
     ·exact s j ad hx⟩
  ·have hie:i=u.bg.length:=ad
   subst hie;refine ⟨?_,e07⟩;rw [f,Lw fun j b=>by
    rw [ae9,ab9,ab9] at b
    by_cases C:j<W.length
    ·rw [ca9 (by rw [ab9]; omega),am9];exact B j C C
    ·rw [cs9 (by rw [ab9]; omega),am9];exact s _ (by simp; omega) _]
theorem kq {α:Type} (f:Nat->Option α) (x:α):∀ (n i:Nat),i<n->(∀ j,j<i->f j=none)->f i=some x->(List.range n).findSome? f=some x
 | 0,i,hi,_,_=>absurd hi ad
 | n+1,i,hi,h0,a=>by
  rw [fr9,fh9]
  by_cases h:i<n
  ·rw [kq f x n i h h0 a] <;> rfl
  ·have:i=n:=ad
   subst this;have hn:(List.range i).findSome? f=none:=by
    rw [cw9];intro j b;exact h0 j (du9.1 b)
   rw [hn];simp [a]
def j8 {α:Type} (f:Nat->Option α) (n:Nat) (h:∀ j,j<n->f j=none):(List.range n).findSome? f=none:=by
 rw [cw9];intro j a;exact h j (du9.1 a)
def zk (us:List cg) (i:Nat):Option (Nat × Xaa):=us[i]?.bind fun u=>(u.aS.find? fun s=>(us.take i).any fun v=>gw v.aS s).map fun s=>(i,s)
def FF (us:List cg):Option (Nat × Xaa):=(List.range us.length).findSome? (zk us)
def Ca (us:List cg) (i:Nat):Option (Nat × Xaa):=us[i]?.bind fun u=>if (rB us i (cO u)).data.toList=[] then none else some (i,rB us i (cO u))
def PA (us:List cg):Option (Nat × Xaa):=(List.range us.length).findSome? (Ca us)
def fO (us:List cg):Fl :=
 if us.length=0 then ⟨25,0,dS⟩
 else if 64<us.length then ⟨4,0,dS⟩
 else match us.findIdx? fun u=>decide (ft u≠0) with
 | some n=>⟨31,n,dS⟩
 | none=>match FF us with
  | some q=>⟨22,q.1,q.2⟩
  | none=>match PA us with
   | some q=>⟨23,q.1,q.2⟩
   | none=>⟨0,0,dS⟩
def RM (f:Fl):Xab:=.agg #[vI (f.rA:Int),vI (f.unit:Int),.string f.name]
variable {f g:Int}
def tq {h0 h:Hp} {d:Nat} (bx:br h d 91 [vI f,vI g,.string V]) (e0:Ext h0 h) (m:h0.size<=d) (c:Fl) (hk:∀ h',Ext h0 h'->Z (RM c) h') :
  T.ax ⟨d,0,none⟩ [vI (c.rA:Int),vI (c.unit:Int),.string c.name] (T.af ⟨d,0,none⟩ [.int .i64,.int .i64,.string] fun (i j:Int) (k:Xaa)=>T.ret (.agg #[vI i,vI j,.string k])) a Z h:=by
 refine bP bx ?_;intro h2 e l z2;have e:br h2 d 91 [vI (c.rA:Int),vI (c.unit:Int),.string c.name]:=e;refine aw e ((c.rA:Int),(c.unit:Int),c.name,()) ?_;exact hk h2 (bU e0 l)
def M4.of {us:List cg} (a:us.length<=64) (c:∀ u,u∈us->ft u=0):M4 us:=by
 have r:Fj us:=⟨c,a⟩
 refine ⟨ad,fun u b=>?_,fun u b=>?_,fun u b=>?_⟩ <;> have:=r.bg b <;> omega
def JD {l c:Nat} {us:List cg} (v:xt O U l us):HC Xaz 43 #[.slice U l c] O fun w h'=>w=RM (fO us)/\Ext O h':=by
 refine aX (args:=[.slice U l c]) mixed Tryz.func43 av (mG U l c) ?_;unfold iL aR aY bq aH aT cE eE bZ aM;have hll:=v.len;refine bm ?_;intro h1 N L z1;refine ao ?_ ?_<;>intro g
 ·have g:l=0:=by have:(l:Int)=0:=(by simpa using g); omega
  refine tq N L (au9 _) ⟨25,0,dS⟩ fun h' m=>⟨?_,m⟩
  unfold fO;rw [af9 ad]
 have n:¬ us.length=0:=by
  intro hh
  have:l=0:=ad
  subst this;cases g
 refine ao ?_ ?_<;>intro g64
 ·have g64:=ah9 g64;refine tq N L (au9 _) ⟨4,0,dS⟩ fun h' m=>⟨?_,m⟩
  unfold fO;rw [ac9 n,af9 ad]
 have g64:=ar9 g64;have A:¬ 64<us.length:=ad
 refine aQ (cs:=cF) (fun y k h'=>∃ i:Nat,y.1=(i:Int)/\k=us.length-i/\i<=us.length/\Ext h1 h'/\∀ j,j<i->(d:j<us.length)->ft us[j]=0) ((0:Int),()) us.length rfl
  ⟨0,rfl,rfl,ad,Ch.refl _ _,fun j d=>absurd d ad⟩ ?_
 rintro ⟨n2,⟨⟩⟩ k h2 ⟨i,hi,rfl,hle,e2,hr⟩;simp only at hi;subst hi;refine ak ?_;have b2:=N.aj e2 ai;have e02:=L.trans e2;refine ao ?_ ?_<;>intro q
 ·have q:=ah9 q;have P:i<us.length:=ad
  obtain ⟨a,sa,sb,sc,sd,rfl,hc,va⟩:=(v.aj e02).cells i P;refine bK rfl ?_;rw [cr i];refine ar ((sa.p,sa.l,sa.c),(sb.p,sb.l,sb.c),(sc.p,sc.l,sc.c),(sd.p,sd.l,sd.c),()) hc (ak ?_);refine aE (Me va) ?_;rintro _ h3 ⟨rfl,M⟩;refine ⟨(((ft us[i]:Nat):Int),()),rfl,ak ?_⟩;refine ao ?_ ?_<;>intro r
  ·have r:¬ ft us[i]=0:=by
    intro hh;rw [hh] at r;cases r
   refine tq (b2.aj M ai) (e02.trans M) (au9 _) ⟨31,i,dS⟩ fun h' m=>⟨?_,m⟩
   unfold fO;rw [ac9 n,ac9 A,show us.findIdx? (fun u=>decide (ft u≠0))=some i from by
    rw [be9];exact ⟨P,ai9 r,fun j d=>by simp [hr j d ad]⟩]
  ·have r:ft us[i]=0:=by
    have:((ft us[i]:Nat):Int)=0:=by simpa using r
    omega
   refine aD (cs:=cF) (((i+1:Nat):Int),()) (us.length-(i+1)) rfl ad (by rw [wrap_i64 ad ad]; rfl) ?_;exact ⟨i+1,rfl,rfl,ad,e2.trans M,fun j d Q=>by
    by_cases e:j=i
    ·subst e; exact r
    ·exact hr j ad Q⟩
 have q:=ar9 q;have hR:∀ u,u∈us->ft u=0:=fun u hu=>by
  obtain ⟨j,d,rfl⟩:=bg9 hu;exact hr j ad d
 have sz:=M4.of ad hR;have F:us.findIdx? (fun u=>decide (ft u≠0))=none:=by
  rw [bu9];intro u hu;rw [hR u hu];decide
 clear hr;refine aQ (cs:=cF) (fun y k h'=>∃ i:Nat,y.1=(i:Int)/\k=us.length-i/\i<=us.length/\Ext h1 h'/\∀ j,j<i->zk us j=none) ((0:Int),()) us.length rfl
  ⟨0,rfl,rfl,ad,e2,fun j d=>absurd d ad⟩ ?_
 rintro ⟨n3,⟨⟩⟩ k h3 ⟨i3,hi,rfl,hle3,M,G⟩;simp only at hi;subst hi;refine ak ?_;have hw3:=hY i3;refine ao ?_ ?_<;>intro q3
 ·have q3:=ah9 q3;have o:i3<us.length:=ad
  have t:us[i3]?=some us[i3]:=ad9 o;obtain ⟨a3,sa,sb,sc,sd,rfl,R,B⟩:=v.cells i3 o;generalize us[i3]=u at t R B;have hgm:=B.aS.many;have hgl:=B.aS.len;refine aQ (cs:=cF) (fun y k h'=>∃ i:Nat,y.1=(i:Int)/\k=u.aS.length-i/\i<=u.aS.length/\Ext h1 h'/\∀ j,j<i->(d:j<u.aS.length)->((us.take i3).any fun v=>gw v.aS u.aS[j])=false) ((0:Int),()) u.aS.length rfl
   ⟨0,rfl,rfl,ad,M,fun j d=>absurd d ad⟩ ?_
  rintro ⟨n4,⟨⟩⟩ k h4 ⟨b,hi,rfl,S,H,I⟩;simp only at hi;subst hi;refine ak ?_;have hw4:=hY b;have e04:=L.trans H;have C:∀ {h':Hp},Ext O h'->aF h' ((a3.add (i3*4)).add 3) 0 [.slice sd.p sd.l sd.c]:=fun e=>⟨by rw [add_add]; exact (aI e ai _ _ R).2.2.2.1,trivial⟩
  refine bK rfl ?_;rw [cr i3];refine ar ((sd.p,sd.l,sd.c),()) (C e04) (ak ?_);refine aK ?_ ?_<;>intro q4
  ·have f:b<u.aS.length:=ad
   have hsg:u.aS[b]?=some u.aS[b]:=ad9 f;obtain ⟨ag,V,W,_⟩:=B.aS.cells b f;refine aQ (cs:=cF) (fun y k h'=>∃ i:Nat,y.1=(i:Int)/\k=i3-i/\i<=i3/\Ext h1 h'/\∀ j,j<i->(d:j<us.length)->gw us[j].aS u.aS[b]=false) ((0:Int),()) i3 rfl
    ⟨0,rfl,rfl,ad,H,fun j d=>absurd d ad⟩ ?_
   rintro ⟨n9,⟨⟩⟩ k h5 ⟨x,hi,rfl,hle5,E,X⟩;simp only at hi;subst hi;refine ak ?_;have hw5:=hY x;have e05:=L.trans E;have b5:=N.aj E ai;refine aK ?_ ?_<;>intro q5
   ·have Y:x<us.length:=ad
    obtain ⟨a5,ta,tb,tc,td,ha5,hc5,J⟩:=(v.aj e05).cells x Y;refine bK ha5 ?_;rw [cr x];refine ar ((td.p,td.l,td.c),()) ⟨by rw [add_add]; exact hc5.2.2.2.1,trivial⟩ ?_;refine ak ?_;refine bK rfl ?_;refine ar ((sd.p,sd.l,sd.c),()) (C e05) (ak ?_);refine bK V ?_;rw [cr b];refine ar (u.aS[b],()) (aI e05 ai _ _ W) (ak ?_);refine aJ (K4 J.aS.len (fun j d=>by
     obtain ⟨a,ha,hc,_⟩:=J.aS.cells j d;exact ⟨a,ha,hc⟩) (by have:=J.aS.many; omega) u.aS[b]) ?_
    refine ⟨⟨C e05,trivial⟩,?_⟩;refine ao ?_ ?_<;>intro r
    ·refine bK rfl ?_;refine ar ((sd.p,sd.l,sd.c),()) (C e05) (ak ?_);refine bK V ?_;refine ar (u.aS[b],()) (aI e05 ai _ _ W) (ak ?_);refine tq b5 e05 (au9 _) ⟨22,i3,u.aS[b]⟩ fun h' m=>⟨?_,m⟩
     have hda:zk us i3=some (i3,u.aS[b]):=by
      unfold zk;rw [t,dk9,lS (fun s=>(us.take i3).any fun v=>gw v.aS s) u.aS b f (fun j d=>I j d ad) (by
       rw [dy9];exact ⟨us[x],List.mem_take_iff_getElem.2 ⟨x,ad,rfl⟩,r⟩)]
      rfl
     unfold fO FF;rw [ac9 n,ac9 A,F,kq _ _ _ i3 o G hda]
    ·refine aD (cs:=cF) (((x+1:Nat):Int),()) (i3-(x+1)) rfl ad (aq9 (fun z=>[Value.int .i64 z]) hw5) ⟨x+1,rfl,rfl,ad,E,fun j d Q=>?_⟩
     by_cases e:j=x
     ·subst e; exact r
     ·exact X j ad Q
   ·have:x=i3:=ad
    subst this;refine aD (cs:=cF) (((b+1:Nat):Int),()) (u.aS.length-(b+1)) rfl ad (aq9 (fun z=>[Value.int .i64 z]) hw4) ⟨b+1,rfl,rfl,ad,E,fun j d Q=>?_⟩
    by_cases e:j=b
    ·subst e;rw [List.any_eq_false];intro w hw;obtain ⟨j5,hj5,rfl⟩:=List.mem_take_iff_getElem.1 hw;rw [X j5 ad ad]
     simp
    ·exact I j ad Q
  ·have:b=u.aS.length:=ad
   subst this;refine aD (cs:=cF) (((i3+1:Nat):Int),()) (us.length-(i3+1)) rfl ad (aq9 (fun z=>[Value.int .i64 z]) hw3) ⟨i3+1,rfl,rfl,ad,H,fun j d=>?_⟩
   by_cases e:j=i3
   ·subst e;unfold zk;rw [t,dk9,oM _ u.aS fun j d=>I j d d] <;> rfl
   ·exact G j ad
 have q3:=ar9 q3;have Z:FF us=none:=j8 _ _ fun j d=>G j ad
 refine aQ (cs:=cF) (fun y k h'=>∃ i:Nat,y.1=(i:Int)/\k=us.length-i/\i<=us.length/\Ext h1 h'/\∀ j,j<i->Ca us j=none) ((0:Int),()) us.length rfl
  ⟨0,rfl,rfl,ad,M,fun j d=>absurd d ad⟩ ?_
 rintro ⟨n4,⟨⟩⟩ k h4 ⟨b,hi,rfl,S,H,K⟩;simp only at hi;subst hi;refine ak ?_;have hw4:=hY b;have e04:=L.trans H;have b4:=N.aj H ai;refine aK ?_ ?_<;>intro q4
 ·have f:b<us.length:=ad
  have t:us[b]?=some us[b]:=ad9 f;refine aE (Ez (c:=c) (v.aj e04) sz f) ?_;rintro _ h5 ⟨rfl,E⟩;refine ⟨(rB us b (cO us[b]),()),rfl,ak ?_⟩;rw [Aa];have D:Ca us b=if (rB us b (cO us[b])).data.toList=[] then none else some (b,rB us b (cO us[b])):=by
   unfold Ca;rw [t,dk9]
  refine ao ?_ ?_<;>intro r
  ·have r:¬ (rB us b (cO us[b])).data.toList=[]:=by simpa using r
   rw [ac9 r] at D;refine tq (b4.aj E ai) (e04.trans E) (au9 _) ⟨23,b,rB us b (cO us[b])⟩ fun h' m=>⟨?_,m⟩
   unfold fO PA;rw [ac9 n,ac9 A,F,Z,kq _ _ _ b f K D]
  ·have r:(rB us b (cO us[b])).data.toList=[]:=by simpa using r
   rw [af9 r] at D;refine aD (cs:=cF) (((b+1:Nat):Int),()) (us.length-(b+1)) rfl ad (aq9 (fun z=>[Value.int .i64 z]) hw4) ⟨b+1,rfl,rfl,ad,H.trans E,fun j d=>?_⟩
   by_cases e:j=b
   ·subst e; exact D
   ·exact K j ad
 ·refine tq b4 e04 (au9 _) ⟨0,0,dS⟩ fun h' m=>⟨?_,m⟩
  unfold fO PA;rw [ac9 n,ac9 A,F,Z,j8 _ _ fun j d=>K j ad]
theorem QY (n:Nat):∀ (l:List Xaa) (w:LW) (s:Xaa),(l.foldl (wb n) w).gl s=if gw l s=true then some n else w.gl s
 | [],w,s=>by simp [gw]
 | a::l,w,s=>by
  rw [br9,QY n l (wb n w a) s];have h1:gw (a::l) s=(decide (a=s) || gw l s):=by unfold gw; rw [List.any_cons]
  have h2:(wb n w a).gl s=if a=s then some n else w.gl s:=by
   show dO w.gl a n s=_;unfold dO
   by_cases h:s=a
   ·rw [af9 h,af9 h.symm]
   ·rw [ac9 h,ac9 fun e=>h e.symm]
  rw [h1,h2]
  by_cases b:a=s <;> by_cases hl:gw l s=true <;> simp [b,hl]
def Sa (us:List cg) (s:Xaa):Option Nat:=us.findIdx? fun u=>gw u.aS s
def QD (us:List cg) (s:Xaa):(Sa us s).isSome=us.any fun u=>gw u.aS s:=by
 unfold Sa;rw [List.findIdx?_isSome]
theorem F7 (us:List cg):∀ (k n:Nat) (w:LW),us.length-n=k->n<=us.length->(∀ s,w.gl s=Sa (us.take n) s)->(∀ j,j<n->zk us j=none) ->
  match ly n (us.drop n) w with
  | .error q=>FF us=some q
  | .ok w'=>FF us=none/\∀ s,w'.gl s=Sa us s
 | 0,n,w,hk,hn,c,d=>by
  have:n=us.length:=ad
  subst this;rw [de9];rw [bl9] at c;exact ⟨j8 _ _ d,c⟩
 | k+1,n,w,hk,hn,c,d=>by
  have a:n<us.length:=ad
  rw [aw9 a];unfold ly;have f:us[n]?=some us[n]:=ad9 a;have o:(fun g=>(w.gl g).isSome)=fun g=>(us.take n).any fun v=>gw v.aS g:=by
   funext g
   rw [c,QD]
  have b:zk us n=(us[n].aS.find? fun g=>(w.gl g).isSome).map fun s=>(n,s):=by
   unfold zk;rw [f,dk9,o]
  cases h:us[n].aS.find? fun g=>(w.gl g).isSome with
  | some g =>
   rw [h] at b;exact kq _ _ _ n a d b
  | none =>
   rw [h] at b;refine F7 us k (n+1) (G7 n us[n] w) ad a (fun s=>?_) (fun j t=>?_)
   ·unfold G7;rw [QY,ag9 a];unfold Sa;rw [dz9];have h0:=c s;unfold Sa at h0;rw [<- h0]
    by_cases hi:gw us[n].aS s=true
    ·rw [af9 hi];have p:s∈us[n].aS:=by
      unfold gw at hi;obtain ⟨x,i,l⟩:=dy9.1 hi;rw [<- ah9 l]; exact i
     have:=List.find?_eq_none.1 h s p
     have m:w.gl s=none:=by
      cases r:w.gl s with
      | none=>rfl
      | some q=>rw [r] at this; exact absurd rfl this
     rw [m];simp [List.findIdx?_cons,hi,List.length_take];omega
    ·rw [ac9 hi];cases w.gl s <;> simp [List.findIdx?_cons,hi]
   ·by_cases e:j=n
    ·subst e; exact b
    ·exact d j ad
theorem ym (s:Xaa) (n:Nat):∀ (us:List cg) (m:Nat),(n,s)∈(cm m us).map Ah↔∃ u,m<=n/\us[n-m]?=some u/\(s∈eG u.text\/s∈eG u.data)
 | [],m=>by simp [cm]
 | u::us,m=>by
  rw [cm,ao9,as9,ym s n us (m+1)];unfold Hq;rw [ao9,xx,xx,as9,an9,an9];constructor
  ·rintro ((⟨x,b,c⟩ | ⟨x,b,c⟩) | ⟨v,h1,h2,a⟩)
   ·cases c;exact ⟨u,au9 _,ai,.inl b⟩
   ·cases c;exact ⟨u,au9 _,ai,.inr b⟩
   ·refine ⟨v,ad,?_,a⟩;rw [show n-m=(n-(m+1))+1 from ad];exact h2
  ·rintro ⟨v,h1,h2,a⟩
   by_cases e:n=m
   ·subst e;rw [fc9] at h2;cases h2;rcases a with a | a
    ·exact .inl (.inl ⟨s,a,rfl⟩)
    ·exact .inl (.inr ⟨s,a,rfl⟩)
   ·refine .inr ⟨v,ad,?_,a⟩;rw [show n-m=(n-(m+1))+1 from ad] at h2;exact h2
theorem AV (s:Xaa) (n:Nat):∀ (us:List cg) (m:Nat),(n,s)∈(eF m us).map jo↔∃ u,m<=n/\us[n-m]?=some u/\s∈u.bg.map (·.1)
 | [],m=>by simp [eF]
 | u::us,m=>by
  rw [eF,ao9,as9,AV s n us (m+1),bf9];constructor
  ·rintro (h | ⟨v,h1,h2,a⟩)
   ·obtain ⟨e,c,b⟩:=an9.1 h;cases b;exact ⟨u,au9 _,ai,an9.2 ⟨e,c,rfl⟩⟩
   ·refine ⟨v,ad,?_,a⟩;rw [show n-m=(n-(m+1))+1 from ad];exact h2
  ·rintro ⟨v,h1,h2,a⟩
   by_cases e:n=m
   ·subst e;rw [fc9] at h2;cases h2;obtain ⟨x,d,rfl⟩:=an9.1 a;exact .inl (an9.2 ⟨x,d,rfl⟩)
   ·refine .inr ⟨v,ad,?_,a⟩;rw [show n-m=(n-(m+1))+1 from ad] at h2;exact h2
def y6 (l:List Ky) (k:Ky):(nX l k).isSome=true↔k∈l:=by
 constructor
 ·intro h;apply ew9;intro hk;rw [pd.2 hk] at h;cases h
 ·intro h;obtain ⟨i,hi⟩:=Cf h;rw [hi] <;> rfl
def SU {us:List cg} (i0:WI H (cm 0 us) ((eF 0 us).map jo)) {n:Nat} {u:cg} (a:us[n]?=some u) (s:Xaa):H.has (n,s)=true↔s∈fN u:=by
 unfold LW.has;rw [i0.num,i0.sG,Bool.or_eq_true,y6,y6,ym,AV];unfold fN;rw [as9,as9];simp only [Nat.sub_zero,Nat.zero_le,true_and];constructor
 ·rintro (⟨v,hv,h⟩ | ⟨v,hv,h⟩)
  ·rw [a] at hv; cases hv; exact .inl h
  ·rw [a] at hv; cases hv; exact .inr h
 ·rintro (h | h)
  ·exact .inl ⟨u,a,h⟩
  ·exact .inr ⟨u,a,h⟩
def Of {us:List cg} (i0:WI H (cm 0 us) ((eF 0 us).map jo)) (a:∀ s,H.gl s=Sa us s) {n:Nat} (hn:n<us.length) (s:Xaa):H.own n s=(jL us n s).map fun o=>(o,s):=by
 have hu:=ad9 hn;have h1:=SU i0 hu s;have h2:gw (fN us[n]) s=true↔s∈fN us[n]:=by
  unfold gw;rw [dy9];constructor
  ·rintro ⟨x,b,c⟩;rw [<- ah9 c]; exact b
  ·intro h;exact ⟨s,h,ai9 rfl⟩
 unfold LW.own jL;rw [hu,fq9,a s]
 by_cases h:s∈fN us[n]
 ·rw [af9 (h1.2 h),af9 (by rw [h2.2 h])] <;> rfl
 ·rw [ac9 fun x=>h (h1.1 x),ac9 fun x=>h (h2.1 (ay9 x))] <;> rfl
theorem DC (n sec:Nat) (x:cz):∀ (l:List cz) (i:Nat),qE n sec i (l++[x])=qE n sec i l++if x.kind=1 then [⟨n,sec,i+l.length,x.name⟩] else []
 | [],i=>by simp [qE]
 | y::l,i=>by
  simp only [List.cons_append,qE,List.length_cons];rw [DC n sec x l (i+1),show i+1+l.length=i+(l.length+1) from ad,bb9]
structure Dv (h:Hp) (g:Nat) (su lb st sd:bI) (L:List Lb):Prop where
 box:br h g 45 [su.v,lb.v,st.v,sd.v]
 qW:SL h (g+1) 178 4 lb.p lb.l lb.c (L.map QH)
def Dv.aj {h h':Hp} {g:Nat} {su lb st sd:bI} {L:List Lb} (s:Dv h g su lb st sd L) (e:Ext h h'):Dv h' g su lb st sd L:=⟨s.box.aj e ai,s.qW.bF e ai⟩
def Wk:Tryz.prog.underlying 42=some (.slice 178):=av
def Yx:(Tryz.prog.info? 178).map (fun i=>(i.zero,i.size,i.bytes))=some (some (.agg #[vI 0,vI 0,vI 0,.string ⟨#[]⟩]),4,40):=av
def FK {h0:Hp} {g:Nat} {su lb st sd:bI} {L:List Lb} (N:h0.size<=g) (e0:Ext h0 O) (s:Dv O g su lb st sd L) {l c:Nat} {xs:List cz} (v:FD h0 U l xs) (P:L.length+xs.length<=2^40) (n sec:Nat) :
  HC Xaz 44 #[.pointer (some ⟨g,0,none⟩),vI (n:Int),vI (sec:Int),.slice U l c] O fun w h'=>w=.tuple #[]/\Ext h0 h'/\O.size<=h'.size/\∃ f,Dv h' g su f st sd (L++qE n sec 0 xs):=by
 refine aX (args:=[.pointer (some ⟨g,0,none⟩),vI (n:Int),vI (sec:Int),.slice U l c]) mixed Tryz.func44 av (iQ (some ⟨g,0,none⟩) n sec U l c) ?_;unfold fw aR aY bq aH bd bj aM;have hll:=v.len;refine aQ (cs:=cF) (fun y k h'=>∃ (i:Nat) (f:bI),y.1=(i:Int)/\k=xs.length-i/\i<=xs.length/\Ext h0 h'/\O.size<=h'.size/\Dv h' g su f st sd (L++qE n sec 0 (xs.take i))) ((0:Int),()) xs.length rfl
  ⟨0,lb,rfl,rfl,ad,e0,au9 _,by simpa [qE] using s⟩ ?_
 rintro ⟨Q,⟨⟩⟩ k h1 ⟨i,b,hi,rfl,I,t,z1,d⟩;simp only at hi;subst hi;refine ak ?_;have hw:=hY i;refine aK ?_ ?_<;>intro q
 ·have u:i<xs.length:=ad
  have B:xs.take (i+1)=xs.take i++[xs[i]]:=ag9 u;have hsn:=DC n sec xs[i] (xs.take i) 0;rw [<- B,az9,db9 ad,bv9] at hsn;obtain ⟨a,pp,R,S,rfl,hc,_⟩:=v.cells i u;generalize xs[i]=x at hc hsn;refine bK rfl ?_;rw [cr i];refine ar (x.kind,()) ⟨(aI t ai _ _ hc).1,trivial⟩ (ak ?_);refine ao ?_ ?_<;>intro r
  ·have r:x.kind=1:=by simpa using r
   rw [af9 r] at hsn;refine bf rfl ?_;rw [ay];refine aw d.box ((b.p,b.l,b.c),()) (ak ?_);have m:∀ {h':Hp},Ext h0 h'->aF h' ((a.add (i*10)).add 1) 0 [.string x.name]:=fun e=>⟨by rw [add_add]; exact (aI e ai _ _ hc).2.1,trivial⟩
   refine bK rfl ?_;refine ar (x.name,()) (m t) (ak ?_);have C:b.l=(L++qE n sec 0 (xs.take i)).length:=by have:=d.qW.1; rwa [ab9] at this
   have hla:=sf n sec (xs.take i) 0;rw [ae9] at C;rw [az9] at hla;have hgs:=d.box.lt;refine gz (vs:=QH ⟨n,sec,i,x.name⟩) Wk Yx rfl ad ad (OF _ _ _ _) rfl rfl d.qW ad ad ad (fun h' e=>⟨m (t.trans e),(d.box.aj e ai).cells _ rfl,trivial⟩) ?_;intro p' c' h2 F D J;have A:∀ j,j∈aG b.p->h0.size<=j/\g<j:=fun j o=>by have:=(d.qW.cw o).1; omega
   have G:Ext h0 h2:=Ch.trans t D (fun j o hl=>by have:=A j o; omega);have b2:=d.box.aj D (fun o=>by have:=A _ o; omega);have z2:=D.size;refine ⟨⟨m G,trivial⟩,bf rfl ?_⟩;rw [ay];refine bP b2 ?_;intro h3 E H z3;have E:br h3 g 45 [su.v,(⟨p',b.l+1,c'⟩:bI).v,st.v,sd.v]:=E;have K:Ext h0 h3:=bU G H;refine aD (cs:=cF) (((i+1:Nat):Int),()) (xs.length-(i+1)) rfl ad (aq9 (fun z=>[Value.int .i64 z]) hw) ⟨i+1,⟨p',b.l+1,c'⟩,rfl,rfl,ad,K,ad,E,?_⟩;rw [hsn,<- bb9,ao9];exact F.bF H (fun j o M=>by have:=(F.cw o).1; simp at M; omega)
  ·have r:¬ x.kind=1:=by simpa using r
   rw [ac9 r,bz9] at hsn;refine aD (cs:=cF) (((i+1:Nat):Int),()) (xs.length-(i+1)) rfl ad (aq9 (fun z=>[Value.int .i64 z]) hw) ⟨i+1,b,rfl,rfl,ad,t,z1,by rw [hsn]; exact d⟩
 ·have:i=xs.length:=ad
  subst this;rw [bl9] at d;exact ⟨rfl,t,z1,b,d⟩
def Ib (u:Nat):Lib.nDigits u<=u+1:=by
 induction u using Nat.strongRecOn with
 | _ u a =>
  rw [Lib.nDigits];split
  ·omega
  ·have:=a (u / 10) ad
   omega
def Dj (n:Nat):(eK n).size<=n+1:=by
 have:(eK n).size=(Lib.decDigits n).length:=rfl
 rw [this,Lib.decDigits_length];exact Ib n
def WO (L:List Lb) (o:Nat) (s:Xaa):Option Nat:=L.findIdx? fun x=>decide (x.u=o) && decide (x.n=s)
def yG (L:List Lb) (o:Nat) (s:Xaa):Xaa:=match WO L o s with
 | some i=>⟨#[76]⟩++eK i
 | none=>((⟨#[69]⟩++eK o)++⟨#[95]⟩)++s
def dK (us:List cg) (L:List Lb) (n:Nat) (s:Xaa):Xaa:=yG L ((jL us n s).getD 0) s
def Ul {us:List cg} {n o:Nat} (h:jL us n V=some o):o<us.length:=by
 unfold jL at h;split at h
 ·rename_i a;cases h;cases b:us[n]? with
  | none=>rw [b] at a; cases a
  | some u=>exact (ax9.1 b).1
 ·rw [be9] at h;exact h.1
def VG {L:List Lb} {o i:Nat} (hi:i<L.length) (h:∀ j,(a:j<i)->¬ ((L[j]'ad).u=o/\(L[j]'ad).n=V)) (h1:L[i].u=o) (h2:L[i].n=V):WO L o V=some i:=by
 unfold WO;rw [be9];refine ⟨hi,by simp [h1,h2],fun j a=>?_⟩
 have:=h j a
 simpa using this
def Nk {L:List Lb} {o:Nat} (h:∀ j,(a:j<L.length)->¬ (L[j].u=o/\L[j].n=V)):WO L o V=none:=by
 unfold WO;rw [bu9];intro x b;obtain ⟨j,a,rfl⟩:=bg9 b
 have:=h j a
 simpa using this
def Kt {g:Nat} {su lb st sd:bI} {L:List Lb} (s:Dv O g su lb st sd L) {us:List cg} (v:xt O su.p su.l us) (sz:M4 us) {n:Nat} (hn:n<us.length) (M:L.length<=2^40) {a:Xaa} {o:Nat} (A:jL us n a=some o) (N:a.size<=2^60) :
  HC Xaz 45 #[.pointer (some ⟨g,0,none⟩),vI (n:Int),.string a] O fun w h'=>w=.string (dK us L n a)/\Ext O h':=by
 refine aX (args:=[.pointer (some ⟨g,0,none⟩),vI (n:Int),.string a]) mixed Tryz.func45 av (ji (some ⟨g,0,none⟩) n a) ?_;unfold fB aR aY bq aH cE eE bZ aM;have hol:=Ul A;have hmany:=sz.many;refine bf rfl ?_;refine aw s.box ((su.p,su.l,su.c),()) (ak ?_);refine aE (GG (c:=su.c) v sz hn a) ?_;rintro _ h1 ⟨rfl,B⟩;rw [A];refine ⟨((o:Int),()),rfl,ak ?_⟩;have s1:=s.aj B;have C:dK us L n a=yG L o a:=by unfold dK; rw [A]; rfl
 rw [C];have H:lb.l=L.length:=by have:=s.qW.1; rwa [ab9] at this
 refine aQ (cs:=HV) (fun y k h'=>∃ i:Nat,y.2.1=(i:Int)/\k=L.length-i/\i<=L.length/\h'=h1/\∀ j,j<i->(d:j<L.length)->¬ (L[j].u=o/\L[j].n=a)) ((⟨#[]⟩:Xaa),(0:Int),()) L.length rfl
  ⟨0,rfl,rfl,ad,rfl,fun j d=>absurd d ad⟩ ?_
 rintro ⟨D,P,⟨⟩⟩ k h2 ⟨i,hi,rfl,I,rfl,f⟩;simp only at hi;subst hi;refine ak ?_;have hw:=hY i;refine bf rfl ?_;rw [ay];refine aw s1.box ((lb.p,lb.l,lb.c),()) (ak ?_);refine aK ?_ ?_<;>intro q
 ·have m:i<L.length:=ad
  refine bf rfl ?_;rw [ay];refine aw s1.box ((lb.p,lb.l,lb.c),()) (ak ?_);obtain ⟨Q,x,hc⟩:=SL.cells s1.qW (i:=i) (by rw [ab9]; exact m);rw [am9] at hc;refine bK x ?_;rw [cr i];refine ar ((L[i].u:Int),()) ⟨hc.1,trivial⟩ (ak ?_);have b:¬ (L[i].u=o/\L[i].n=a)->T.again 0 [.string D,vI (IntKind.wrap .i64 ((i:Int)+1))] [Jl (fun (y:qH (flat [(false,[TypeDesc.string]),(false,[TypeDesc.int .i64])])) k h'=>∃ i:Nat,y.2.1=(i:Int)/\k=L.length-i/\i<=L.length/\h'=h2/\∀ j,j<i->(d:j<L.length)->¬ (L[j].u=o/\L[j].n=a)) (L.length-i)] (fun w h'=>w=.string (yG L o a)/\Ext O h') h2:=by
   intro E;refine aD (cs:=HV) (D,((i+1:Nat):Int),()) (L.length-(i+1)) rfl ad (aq9 (fun z=>[Value.string D,Value.int .i64 z]) hw) ⟨i+1,rfl,rfl,ad,rfl,fun j d J=>?_⟩
   by_cases e:j=i
   ·subst e; exact E
   ·exact f j ad J
  refine ao ?_ ?_<;>intro r
  ·have r:L[i].u=o:=by
    have:((L[i].u:Nat):Int)=(o:Int):=by simpa using r
    omega
   refine bf rfl ?_;rw [ay];refine aw s1.box ((lb.p,lb.l,lb.c),()) (ak ?_);refine bK x ?_;refine ar (L[i].n,()) ⟨by rw [add_add]; exact hc.2.2.2.1,trivial⟩ ?_;refine ak ?_;rw [rG];refine aK ?_ ?_<;>intro t
   ·refine aE (tH (n:=i) ad) ?_;rintro _ K ⟨rfl,F⟩;refine ⟨(eK i,()),rfl,ak ?_⟩
    have:=Dj i
    refine dy ad ?_;refine ⟨?_,B.trans F⟩;unfold yG;rw [VG m (fun j d=>f j d ad) r t]
   ·exact b fun G=>t G.2
  ·refine b fun G=>?_
   rw [G.1] at r;simp at r
 ·have:i=L.length:=ad
  subst this;refine aE (tH (n:=o) ad) ?_;rintro _ K ⟨rfl,F⟩;refine ⟨(eK o,()),rfl,ak ?_⟩;have hd:=Dj o;have h1:(⟨#[69]⟩++eK o:Xaa).size=1+(eK o).size:=ef9 ..;have h2:((⟨#[69]⟩++eK o)++⟨#[95]⟩:Xaa).size=(⟨#[69]⟩++eK o:Xaa).size+1:=ef9 ..;refine dy ad (dy (by rw [h1]; omega) (dy (by rw [h2,h1]; omega) ?_));refine ⟨?_,B.trans F⟩;unfold yG;rw [Nk fun j d=>f j d d]
def vl (f:Xaa->Xaa) (s:Xaa):Option bJ:=some (mC (f s))
def iR (us:List cg) (L:List Lb) (n:Nat) (x:bJ):bJ:=dr (vl (dK us L n)) x
def T7 (s:Xaa):Nf (mC s).ah:=⟨by simp [mC],by simp [mC]⟩
def KW {f:Xaa->Xaa}:∀ s y,vl f s=some y->Nf y.ah:=by
 intro s y a;cases a;exact T7 _
def Wi (f:Xaa->Xaa) {t:Xaa × Nat} (h:t.2≠0/\t.2<4294967296):JN (vl f) t=⟨[(f t.1,t.2)],0⟩:=by
 unfold JN vl vG mC fo;simp only [List.filterMap_cons,List.filterMap_nil,Nat.one_mul,Nat.zero_mul,Nat.zero_mod];rw [dw9 h.2,ac9 h.1]
def Gi {g:Nat} {su lb st sd:bI} {L:List Lb} (s:Dv O g su lb st sd L) {us:List cg} (v:xt O su.p su.l us) (sz:M4 us) {n:Nat} (hn:n<us.length) (hL:L.length<=2^40) {m d:Nat} (u:ik O U m Y.ah)
  (V:Nf Y.ah) (J:Y.num<4294967296) (hlx:Y.ah.length<=2^30) (ho:∀ t,t∈Y.ah->∃ o,jL us n t.1=some o) (hs:∀ t,t∈Y.ah->t.1.size<=2^60) :
  HC Xaz 46 #[.pointer (some ⟨g,0,none⟩),vI (n:Int),gU U m d Y] O fun w h'=>Ext O h'/\∃ p' l' c',w=gU p' l' c' (iR us L n Y)/\SL h' O.size 64 2 p' l' c' ((iR us L n Y).ah.map df):=by
 refine aX (args:=[.pointer (some ⟨g,0,none⟩),vI (n:Int),.agg #[.slice U m d,.int .u32 Y.num]]) mixed Tryz.func46 av (iP (some ⟨g,0,none⟩) n U m d Y.num) ?_;unfold fp aR aY bq aH eE bM bd aC aZ aM;have hmm:=u.len;refine bm ?_;intro h1 b1 e1 z1;refine bm ?_;intro h2 b2 e2 z2;have b1:=b1.aj e2 ai;rw [ay];refine aw b1 ((Y.num:Int),()) (ak ?_);refine bm ?_;intro h3 b3 e3 z3;refine bP b3 ?_;intro h4 P k4 z4;have P:br h4 h2.size 53 [.slice none 0 0,.int .u32 (Y.num:Int)]:=P;have B:Ext h2 h4:=bU e3 k4;have b1:=b1.aj B ai;have b2:=b2.aj B ai;have e04:=(e1.trans e2).trans B;have hb4:=P.lt;have hz04:=e04.size;refine aQ (cs:=cF) (fun y w h'=>∃ (i:Nat) (U:Xac) (m d:Nat),y.1=(i:Int)/\i<=Y.ah.length/\w=Y.ah.length-i/\Ch [h2.size] h4 h'/\br h' h2.size 53 [.slice U m d,.int .u32 (((Y.ah.take i).foldl (gb (vl (dK us L n))) ⟨[],Y.num⟩).num:Int)] /\
  SL h' h4.size 64 2 U m d (((Y.ah.take i).foldl (gb (vl (dK us L n))) ⟨[],Y.num⟩).ah.map df)) ((0:Int),()) Y.ah.length rfl ⟨0,none,0,0,rfl,ad,ad,Ch.refl _ _,P,SL.nil _ _ _ _⟩ ?_
 rintro ⟨n8,⟨⟩⟩ w h5 ⟨i,D,E,F,hi,hile,rfl,K,G,H⟩;simp only at hi;subst hi;refine ak ?_;have b15:=b1.aj K (by simp; omega);have hz5:=K.size;have f:Ext O h5:=bU e04 K;have u5:=u.aj f ai;refine aw b15 ((U,m,d),()) (ak ?_);have hw:=hY i;have hacc:=CD (of:=vl (dK us L n)) KW V J i;have W:((Y.ah.take i).foldl (gb (vl (dK us L n))) ⟨[],Y.num⟩).ah.length<=Y.ah.length:=by
  rw [hacc]
  have:=AX (eM (vl (dK us L n)) ⟨Y.ah.take i,Y.num⟩) (S:=Y.ah.map fun t=>dK us L n t.1) (fun t ht=>by
   obtain ⟨u',X,O | ⟨y,w,hy,hw,he⟩⟩:=AW ht
   ·cases O.1
   ·cases hy;simp [mC] at hw;subst hw;rw [<- he];exact an9.2 ⟨u',cy9 X,rfl⟩)
  rwa [ab9] at this
 refine aK ?_ ?_<;>intro g1
 ·have b:i<Y.ah.length:=ad
  have c:(Y.ah.take (i+1)).foldl (gb (vl (dK us L n))) ⟨[],Y.num⟩=gb (vl (dK us L n)) ((Y.ah.take i).foldl (gb (vl (dK us L n))) ⟨[],Y.num⟩) Y.ah[i]:=by
   rw [ag9 b,cg9] <;> rfl
  obtain ⟨a,rfl,hc⟩:=u5.cells i b;have htm:=al9 b;generalize Y.ah[i]=t at hc c htm;generalize hA:(Y.ah.take i).foldl (gb (vl (dK us L n))) ⟨[],Y.num⟩=A at G H W c hacc;obtain ⟨c1,c2⟩:=da hc;obtain ⟨o,Z⟩:=ho t htm;refine aw G ((D,E,F),(A.num:Int),()) (ak ?_);refine aw b15 ((some a,m,d),()) (ak ?_);refine bK rfl ?_;rw [cr i];refine ar (t.1,()) c1 (ak ?_);refine aw b15 ((some a,m,d),()) (ak ?_);refine bK rfl ?_;refine ar ((t.2:Int),()) c2 (ak ?_);refine aE (Kt (s.aj f) (v.aj f) sz hn hL Z (hs t htm)) ?_;rintro _ h6 ⟨rfl,e6⟩;refine ⟨(dK us L n t.1,()),rfl,ak ?_⟩;have C:∀ {h':Hp},Ext h5 h'->aF h' (a.add (i*2)) 0 [.string t.1]/\aF h' ((a.add (i*2)).add 1) 0 [.int .u32 (t.2:Int)]/\aF h' ⟨O.size,0,none⟩ 0 [.slice (some a) m d]/\aF h' ⟨h2.size,0,none⟩ 0 [.slice D E F,.int .u32 (A.num:Int)]:=fun e =>
   ⟨aI e ai _ _ c1,aI e ai _ _ c2,(b15.aj e ai).cells _ rfl,(G.aj e ai).cells _ rfl⟩
  obtain ⟨Q,M,r,R⟩:=C e6;refine ⟨⟨M,r,r,R,trivial⟩,?_⟩;refine nS I6 ul ad ad (IS _ _) ?_;intro h7 I e7 z7;obtain ⟨Q,M,r,R⟩:=C (e6.trans e7);refine ⟨⟨M,r,Q,r,R,trivial⟩,?_⟩;have e57:=e6.trans e7;have z57:=e57.size;refine aE (Gw (x:=A) (y:=⟨[(dK us L n t.1,t.2)],0⟩) (d:=1) (H.bF e57 ai).Nt (X7 I) (fun j k=>by have:=(H.cw k).2; omega) (fun j k=>by simp [aG] at k; have:=I.lt; omega) (by show A.ah.length+1<=_; omega)) ?_;rintro _ h8 ⟨e8,p',l',c',rfl,s8⟩;refine ⟨((p',l',c'),((j1 A ⟨[(dK us L n t.1,t.2)],0⟩).num:Int),()),rfl,ak ?_⟩;have e58:=e57.trans e8;obtain ⟨Q,M,r,R⟩:=C e58;refine ⟨⟨M,r,Q,r,trivial⟩,?_⟩;refine bP (G.aj e58 ai) ?_;intro h9 b9 k9 z9;have b9:br h9 h2.size 53 [.slice p' l' c',.int .u32 ((j1 A ⟨[(dK us L n t.1,t.2)],0⟩).num:Int)]:=b9;have N:gb (vl (dK us L n)) A t=j1 A ⟨[(dK us L n t.1,t.2)],0⟩:=by
   unfold gb;rw [Wi _ (V.2 t htm)]
  rw [N] at c;refine aD (cs:=cF) (((i+1:Nat):Int),()) (Y.ah.length-(i+1)) rfl ad (aq9 (fun z=>[Value.int .i64 z]) hw) ⟨i+1,p',l',c',rfl,ad,rfl,Ch.trans (Ch.trans K e58 ai) k9 (fun j k _=>k),by rw [c]; exact b9,?_⟩;rw [c];exact (s8.bF k9 (fun j k=>by have:=(s8.cw k).1; simp; omega)).mono ad
 ·have hi:i=Y.ah.length:=ad
  subst hi;rw [bl9,Fk KW V J] at G H;refine aw G ((D,E,F),((iR us L n Y).num:Int),()) (ak ?_);refine bP (b2.aj K (by simp; omega)) ?_;intro h7 I k7 z7;have I:br h7 h1.size 53 [.slice D E F,.int .u32 ((iR us L n Y).num:Int)]:=I;refine aw I ((D,E,F),((iR us L n Y).num:Int),()) ?_;exact ⟨bU f k7,D,E,F,rfl,(H.bF k7 (fun j k=>by have:=(H.cw k).1; simp; omega)).mono ad⟩
structure Q5 (us:List cg) (n:Nat) (x:bJ):Prop where
 nf:Nf x.ah
 num:x.num<4294967296
 len:x.ah.length<=2^30
 own:∀ t,t∈x.ah->∃ o,jL us n t.1=some o
 sz:∀ t,t∈x.ah->t.1.size<=2^60
def Ll (us:List cg) (L:List Lb) (n:Nat) (x:bJ):Nf (iR us L n x).ah:=eM _ _
def Gb {us:List cg} {L:List Lb} {n:Nat} (h:Y.num<4294967296):(iR us L n Y).num<4294967296:=tK _ _ _ h
def GQ {us:List cg} {L:List Lb} {n:Nat} {t:Xaa × Nat} (ht:t∈(iR us L n Y).ah):∃ u,u∈Y.ah/\t.1=dK us L n u.1:=by
 obtain ⟨c,a,h | ⟨y,w,d,b,e⟩⟩:=AW ht
 ·cases h.1
 ·cases d;simp [mC] at b;subst b;exact ⟨c,a,e.symm⟩
def xK (us:List cg) (L:List Lb) (es:List cT) (n:Nat) (x:cz):cz:={ x with e:=dr (cD es) (iR us L n x.e) }
structure Zs (h0 h':Hp) (p:Xac) (l c:Nat) (ws:List (bI × cz)):Prop where
 out:SL h' h0.size 55 10 p l c (ws.map tY)
 fx:∀ w,w∈ws->ik h' w.1.p w.1.l w.2.e.ah
 low:∀ w,w∈ws->w.2.e.ah≠[]->∀ i,i∈aG w.1.p->i<h'.size/\i∉aG p
def LH {a:Xax} {v:Xab} (hc:gS O a=some v):a.block<O.size:=by
 unfold gS at hc;cases b:O[a.block]? with
 | none=>simp [b] at hc
 | some o=>exact eP b
def R9 {l:Nat} {us:dm} (v:ik O U l us) (h0:us≠[]):∀ i,i∈aG U->i<O.size:=by
 intro i hi;cases us with
 | nil=>exact absurd rfl h0
 | cons u us =>
  obtain ⟨a,rfl,hc⟩:=v.cells 0 ai
  have:i=a.block:=by simpa [aG] using hi
  subst this
  have:=LH hc.1
  rwa [iF,iF] at this
def LU {ws:List Nat} {h':Hp} {l:Nat} {us:dm} (v:ik O U l us) (k:Ch ws O h') (a:us≠[]->∀ i,i∈aG U->i∉ws):ik h' U l us:=by
 by_cases h0:us=[]
 ·subst h0;exact ⟨v.len,fun i hi=>absurd hi ai⟩
 ·exact v.aj k (a h0)
def DG {g:Nat} {su lb st sd:bI} {L:List Lb} (s:Dv O g su lb st sd L) {us:List cg} (v:xt O su.p su.l us) (sz:M4 us) {n:Nat} (hn:n<us.length) (hL:L.length<=2^40) {l c:Nat} {xs:List cz} (vi:FD O U l xs)
  (hxl:xs.length<=2^20) (hxs:∀ x,x∈xs->Q5 us n x.e)
  {m d:Nat} (ve:uS O b m es) (hb:∀ e,e∈es->∀ i,i∈aG e.p->i<O.size) (hm:es.length<=2^40) {S:List Xaa} (hS:S.length<=2^30) (R:∀ e,e∈es->ua S e.x) (hSw:∀ x,x∈xs->∀ t,t∈x.e.ah->dK us L n t.1∈S) :
  HC Xaz 48 #[.pointer (some ⟨g,0,none⟩),vI (n:Int),.slice U l c,.slice b m d] O fun w h'=>Ext O h'/\∃ p' l' c' ws,w=.slice p' l' c'/\Ws h' O.size p' l' c' ws/\ws.map (·.2)=xs.map (xK us L es n):=by
 refine aX (args:=[.pointer (some ⟨g,0,none⟩),vI (n:Int),.slice U l c,.slice b m d]) mixed Tryz.func48 av (iy (some ⟨g,0,none⟩) n U l c b m d) ?_;unfold fe aR aY bq aH bM bd aC aM;obtain ⟨N,V,vd,hit⟩:=Es vi;have hl0:N.length=xs.length:=by rw [<- V,ab9]
 have hll:=vd.len;refine qI (e:=55) (z:=.agg iz.toArray) (sz:=10) (by':=104) Ce Ga rfl vd.src (by simpa using hll) (pa N) (pX N) ad ad ?_;intro p1 c1 h1 s1 e1;have B:∀ w,w∈N->w.2.e.ah≠[]->∀ i,i∈aG w.1.p->i<O.size:=fun w E h0=>R9 (hit w E).lin.vw h0
 refine aQ (cs:=cF) (fun y k h'=>∃ (i:Nat) (ws:List (bI × cz)),y.1=(i:Int)/\k=xs.length-i/\i<=xs.length/\Ext O h'/\Zs O h' p1 l c1 ws/\ws.length=xs.length/\(∀ j w,j<i->ws[j]?=some w->SL h' O.size 64 2 w.1.p w.1.l w.1.c (w.2.e.ah.map df))/\∀ j x w,xs[j]?=some x->ws[j]?=some w->w.2=if j<i then xK us L es n x else x) ((0:Int),()) xs.length rfl
  ⟨0,N,rfl,rfl,ad,e1,⟨s1,fun w E=>(hit w E).lin.vw.aj e1 ai,fun w E h0 i hi=>⟨by have:=B w E h0 i hi; have:=e1.size; omega,fun W=>by have:=(s1.cw W).1; have:=B w E h0 i hi; omega⟩⟩,hl0,fun j w u=>absurd u ad,fun j x w hx E=>by
   rw [ac9 ad]
   have:(N.map (·.2))[j]?=some w.2:=by rw [ch9,E]; rfl
   rw [V,hx] at this;exact (ay9 this).symm⟩ ?_
 rintro ⟨n10,⟨⟩⟩ k h2 ⟨i,ws,hi,rfl,hle,Q,F,X,G,u⟩;simp only at hi;subst hi;refine ak ?_;have hwi:=hY i;refine aK ?_ ?_<;>intro r
 ·have Y:i<xs.length:=ad
  have A:i<ws.length:=ad
  obtain ⟨a,rfl,hc⟩:=SL.cells F.out (i:=i) (by rw [ab9]; exact A);rw [am9] at hc;have H:xs[i]?=some xs[i]:=ad9 Y;have C:ws[i]?=some ws[i]:=ad9 A;have hwx:=u i _ _ H C;rw [ac9 ad] at hwx;have hxm:=al9 Y;have hwm:=al9 A;have vw:=F.fx _ hwm;have lw:=F.low _ hwm;generalize ws[i]=w at hc C hwx hwm vw lw;generalize xs[i]=x at H hwx hxm;subst hwx;have hsw:=hxs w.2 hxm;refine bK rfl ?_;rw [cr i];refine ar ((w.1.p,w.1.l,w.1.c),(w.2.e.num:Int),()) ⟨by rw [add_add]; exact hc.2.2.2.2.2.2.2.1,by rw [add_add]; exact hc.2.2.2.2.2.2.2.2.1,trivial⟩ ?_;refine ak ?_;have z2:=Q.size;refine aE (Gi (d:=w.1.c) (s.aj Q) (v.aj Q) sz hn hL vw hsw.nf hsw.num hsw.len hsw.own hsw.sz) ?_;rintro _ h3 ⟨e3,p3,l3,c3,rfl,s3⟩;refine ⟨((p3,l3,c3),((iR us L n w.2.e).num:Int),()),rfl,ak ?_⟩;have z3:=e3.size;refine aE (KM (c:=c3) (d:=d) s3.Nt (ve.aj (Q.trans e3)) (fun j u=>(s3.cw u).2) (fun e Z j u=>by have:=hb e Z j u; omega) hm (Ll _ _ _ _) (Gb hsw.num) (fun e Z=>(R e Z).nf) hS (fun t ht=>by
   obtain ⟨u',hu',he'⟩:=GQ ht;rw [he'];exact hSw w.2 hxm u' hu') fun e Z=>(R e Z).fx) ?_
  rintro _ h4 ⟨e4,p4,l4,c4,rfl,s4⟩;refine ⟨((p4,l4,c4),((dr (cD es) (iR us L n w.2.e)).num:Int),()),rfl,ak ?_⟩;have z4:=e4.size;have e24:=e3.trans e4;refine bK rfl ?_;have so:=F.out.bF e24 ai;refine SL.part (P:=Xaz) so (i:=i) (by rw [ab9]; exact A) (vs:=[.slice p4 l4 c4,.int .u32 ((dr (cD es) (iR us L n w.2.e)).num:Int)]) (o:=7) ai (by simp [dl]) rfl ?_;intro h6 s6 k6 z6;have hse:(ws.map tY).set i (lN ((ws.map tY)[i]'(by rw [ab9]; exact A)) 7 [.slice p4 l4 c4,.int .u32 ((dr (cD es) (iR us L n w.2.e)).num:Int)])=(ws.set i (⟨p4,l4,c4⟩,xK us L es n w.2)).map tY:=by
   rw [fd9]
   congr 1
   rw [am9]
   have:ws[i]=w:=(ax9.1 C).2
   rw [this] <;> rfl
  rw [hse] at s6;have I:∀ j,j∈aG (some a)->O.size<=j/\j<h2.size:=fun j u=>F.out.cw u
  have e6:Ext O h6:=Ch.trans (Q.trans e24) k6 (fun j u hl=>by have:=I j u; omega);refine aD (cs:=cF) (((i+1:Nat):Int),()) (xs.length-(i+1)) rfl ad (aq9 (fun z=>[Value.int .i64 z]) hwi) ⟨i+1,_,rfl,rfl,ad,e6,⟨s6,fun w' f=>?_,fun w' f h0' j J=>?_⟩,by rw [cx9]; exact X,fun j w' J f=>?_,fun j x' w' K f=>?_⟩
  ·rcases di9 f with f | rfl
   ·exact LU ((F.fx w' f).aj e24 ai) k6 (fun h0 j u=>(F.low w' f h0 j u).2)
   ·exact (s4.bF k6 (fun j u W=>by have:=(s4.cw u).1; have:=I j W; omega)).Nt
  ·rcases di9 f with f | rfl
   ·obtain ⟨h1,h2⟩:=F.low w' f h0' j J;exact ⟨ad,h2⟩
   ·obtain ⟨h1,h2⟩:=s4.cw J;exact ⟨ad,fun W=>by have:=I j W; omega⟩
  ·have hbx:∀ b,b∈aG (some a)->∃ ys,br h4 b 55 ys:=SL.zu so
   by_cases D:i=j
   ·subst D;rw [eq9 A] at f;cases f;exact (SL.kN s4 k6 hbx bQ).mono ad
   ·rw [dq9 D] at f;exact SL.kN ((G j w' ad f).bF e24 ai) k6 hbx bQ
  ·by_cases D:i=j
   ·subst D;rw [eq9 A] at f;cases f;rw [H] at K;cases K;rw [af9 ad]
   ·rw [dq9 D] at f;have h2:=u j x' w' K f;rw [h2]
    by_cases hj2:j<i
    ·rw [af9 hj2,af9 ad]
    ·rw [ac9 hj2,ac9 ad]
 ·have:i=xs.length:=ad
  subst this;refine ⟨Q,p1,l,c1,ws,rfl,⟨F.out,fun w E=>?_,fun _ _=>trivial⟩,?_⟩
  ·obtain ⟨j,hj1,rfl⟩:=bg9 E;exact G j _ ad (ad9 hj1)
  apply fp9
  ·rw [ab9,ab9,X]
  ·intro j h1' M;rw [am9,am9];rw [ab9] at h1' M
   have:=u j _ _ (ad9 M) (ad9 h1')
   rw [this,af9 M]
def YO:Tryz.prog.underlying 43=some (.slice 46):=av
def ZK:(Tryz.prog.info? 46).map (fun i=>(i.zero,i.size,i.bytes))=some (some (.slice none 0 0),1,24):=av
def Ud (p:Xac) (l c:Nat):Instr.fill (fun j=>some (j*1,1)) ((Array.range (1*1)).map ((Value.slice none 0 0).cells[· % (Value.slice none 0 0).cells.size]!)) [(0,.slice p l c)]=some ([.slice p l c]:List Xab).toArray:=av
structure we (h:Hp) (b:Nat) (st:bI) (tw:List (bI × List (bI × cz))):Prop where
 sl:SL h b 46 1 st.p st.l st.c (tw.map fun x=>[x.1.v])
 fx:∀ x,x∈tw->Ws h b x.1.p x.1.l x.1.c x.2
variable {e h:TypeId}
def Pa {W:List Nat} {h':Hp} {b l c:Nat} {ws:List (bI × cz)} (s:Ws O b U l c ws) (k:Ch W O h') (a:∀ i,i∈W->∃ ys,br O i e ys) (h1:55≠e) (h2:64≠e):Ws h' b U l c ws :=
 ⟨SL.kN s.sl k a h1,fun u d=>SL.kN (s.own u d) k a h2,s.ok⟩
def FI {b b' l c:Nat} {ws:List (bI × cz)} (s:Ws O b U l c ws) (a:b'<=b):Ws O b' U l c ws:=⟨s.sl.mono a,fun u d=>(s.own u d).mono a,s.ok⟩
def we.aj {W:List Nat} {h':Hp} {b:Nat} {st:bI} {tw:List (bI × List (bI × cz))} (s:we O b st tw) (k:Ch W O h') {e':TypeId} (a:∀ i,i∈W->∃ ys,br O i e' ys) (c:∀ i,i∈aG st.p->i∉W) (h1:55≠e') (h2:64≠e'):we h' b st tw :=
 ⟨s.sl.bF k c,fun x d=>Pa (s.fx x d) k a h1 h2⟩
def we.ext {h':Hp} {b:Nat} {st:bI} {tw:List (bI × List (bI × cz))} (s:we O b st tw) (k:Ext O h'):we h' b st tw:=s.aj (e':=0) k ai ai bQ bQ
def we.nil (h:Hp) (b:Nat):we h b nv []:=⟨SL.nil _ _ _ _,ai⟩
def we.push {h:Hp} {b:Nat} {st:bI} {tw:List (bI × List (bI × cz))} (s:we h b st tw) {x:bI × List (bI × cz)} (i:Ws h b x.1.p x.1.l x.1.c x.2) (j:b<=h.size) (hl:tw.length<=2^20) {l:List (Xax × List Xab)} (f:∀ h',Ext h h'->T.BY h' l) {k:Xac->Nat->Nat->T}
  (hk:∀ p' c' h',we h' b ⟨p',st.l+1,c'⟩ (tw++[x])->Ch (aG st.p) h h'->(p'=st.p\/∃ d,p'=some d/\h.size<=d.block)->k p' (st.l+1) c' a Z h') :
  T.ef Xaz (Instr.buildSlice 43 1 #[(0,.slice x.1.p x.1.l x.1.c)]) false [(false,[.slice 0])] (fun q m n=>T.bh l (T.ef Xaz (Builtin.append_ #[43,43] 43 #[.slice st.p st.l st.c,.slice q m n]) false [(false,[.slice 0])] k)) a Z h:=by
 have o:st.l=tw.length:=by have:=s.sl.1; rwa [ab9] at this
 refine gz (vs:=[x.1.v]) YO ZK rfl ad ad (Ud _ _ _) rfl rfl s.sl j ad ad f ?_;intro p' c' h' r k' g;refine hk p' c' h' ⟨by rw [ao9]; exact r,fun y e=>?_⟩ k' g;have hbx:=SL.zu s.sl;rcases as9.1 e with e | e
 ·exact Pa (s.fx y e) k' hbx bQ bQ
 ·rw [ak9.1 e];exact Pa i k' hbx bQ bQ
def Rn (S:Nat) (d:Xac) (b:Nat) (R c:Xax) (s:Xac) (t u:Nat):T :=
   T.loop [aM] [vI (0:Int)] <| fun (a:Int) =>
   bq a b
   (T.af (c.add 2) [.slice 46] <| fun (e:Xac) (f g:Nat) =>
   T.need (fI a b) <|
   T.bi d <| fun (h:Xax) =>
   T.af (h.add (aH a 4)) [.slice 55] <| fun (i:Xac) (j k:Nat) =>
   bM 48 [.pointer (some c),vI a,.slice i j k,.slice s t u] false [(false,[.slice 55])] <| fun (w:Xac) (x y:Nat) =>
   T.bh [((c.add 2),[.slice e f g])] <|
   bR (Instr.buildSlice 43 1 #[(0,.slice w x y)]) false [cR] <| fun (z:Xac) (A B:Nat) =>
   T.bh [((h.add (aH a 4)),[.slice i j k]),((c.add 2),[.slice e f g])] <|
   bR (Builtin.append_ #[43,43] 43 #[.slice e f g,.slice z A B]) false [cR] <| fun (C:Xac) (D E:Nat) =>
   T.bh [((h.add (aH a 4)),[.slice i j k])] <|
   T.ax (c.add 2) [.slice C D E] <|
   T.af (c.add 3) [.slice 46] <| fun (l:Xac) (m n:Nat) =>
   T.need (fI a b) <|
   T.bi d <| fun (o:Xax) =>
   T.af ((o.add (aH a 4)).add 1) [.slice 55] <| fun (p:Xac) (q r:Nat) =>
   bM 48 [.pointer (some c),vI a,.slice p q r,.slice s t u] false [(false,[.slice 55])] <| fun (F:Xac) (G H:Nat) =>
   T.bh [((c.add 3),[.slice l m n])] <|
   bR (Instr.buildSlice 43 1 #[(0,.slice F G H)]) false [cR] <| fun (I:Xac) (J K:Nat) =>
   T.bh [(((o.add (aH a 4)).add 1),[.slice p q r]),((c.add 3),[.slice l m n])] <|
   bR (Builtin.append_ #[43,43] 43 #[.slice l m n,.slice I J K]) false [cR] <| fun (L:Xac) (M N:Nat) =>
   T.bh [(((o.add (aH a 4)).add 1),[.slice p q r])] <|
   T.ax (c.add 3) [.slice L M N] <|
   T.again S [vI (bn (a+(1:Int)))])
   (T.ax R [vI (0:Int),vI (0:Int),bZ] <|
   T.af R [.int .i64,.int .i64,.string] <| fun (O P:Int) (Q:Xaa) =>
   bj #[.pointer (some c),.agg #[vI O,vI P,.string Q]])
def zt (us:List cg) (L:List Lb) (es:List cT) (F:cg->List cz) (i:Nat) (tw:List (bI × List (bI × cz))):Prop :=
 tw.length=i/\∀ n u x,us[n]?=some u->tw[n]?=some x->x.2.map (·.2)=(F u).map (xK us L es n)
def zt.push {us:List cg} {L:List Lb} {F:cg->List cz} {i:Nat} {tw:List (bI × List (bI × cz))} (t:zt us L es F i tw) (d:us[i]?=some c) {x:bI × List (bI × cz)} (e:x.2.map (·.2)=(F c).map (xK us L es i)):zt us L es F (i+1) (tw++[x]):=by
 obtain ⟨h1,h2⟩:=t;refine ⟨by rw [ae9,h1]; rfl,fun n v y hv a=>?_⟩
 by_cases hn:n<tw.length
 ·rw [bt9 hn] at a;exact h2 n v y hv a
 ·rw [bn9 ad] at a;have b:n=tw.length:=by
   have:=(ax9.1 a).1
   simp at this;omega
  subst b;rw [fc9] at a;cases a;rw [h1] at hv ⊢;rw [d] at hv;cases hv;exact e
structure Xb (us:List cg) (L:List Lb) (S:List Xaa) (n:Nat) (u:cg):Prop where
 text:∀ x,x∈u.text->Q5 us n x.e/\∀ t,t∈x.e.ah->dK us L n t.1∈S
 data:∀ x,x∈u.data->Q5 us n x.e/\∀ t,t∈x.e.ah->dK us L n t.1∈S
def C8 {h:Hp} {b:List Xab} {cs:List ee} {I:qH (flat cs)->Nat->Hp->Prop} {n:Nat} (y:qH (flat cs)) (m:Nat) (c:m<n) (d:b=parts cs (ep _ y)) (e:I y m h):T.again a.length b (a++[Jl I n]) Z h :=
 aD y m (by rw [bn9 (au9 _),fc9]; rfl) c d e
def TH {h0 h:Hp} {m lv:Nat} {su lb:bI} {LB:List Lb} {us:List cg} {J M:Nat} {S:List Xaa} (hlv:lv=a.length) (hga:ga<m) (h0g:h0.size<=ga) (e0:Ext h0 h) (b1:br h ga 91 [vI f,vI g,.string V])
  (pr:Dv h m su lb nv nv LB) (v:xt h0 su.p su.l us) (sz:M4 us) (hL:LB.length<=2^40) (ve:uS h U J es) (hq:∀ i,i∈aG U->m<i) (hb:∀ e,e∈es->∀ i,i∈aG e.p->m<i/\i<h.size) (hm:es.length<=2^40) (hS:S.length<=2^30) (hes:∀ e,e∈es->ua S e.x)
  (hW:∀ n u,us[n]?=some u->Xb us LB S n u)
  (hk:∀ h' st sd tw dw,Ext h0 h'->Dv h' m su lb st sd LB->we h' h.size st tw->we h' h.size sd dw->zt us LB es (·.text) us.length tw->zt us LB es (·.data) us.length dw->Z (.tuple #[.pointer (some ⟨m,0,none⟩),RM ⟨0,0,dS⟩]) h') :
  Rn lv su.p su.l ⟨ga,0,none⟩ ⟨m,0,none⟩ U J M a Z h:=by
 subst hlv;unfold Rn bq aH bM bR bn fI bj bZ aM cR;have hll:=v.len;have hmany:=sz.many;have hgs:=pr.box.lt;refine aQ (cs:=cF) (fun y k h'=>∃ (i:Nat) (st sd:bI) (tw dw:List (bI × List (bI × cz))),y.1=(i:Int)/\k=us.length-i/\i<=us.length/\Ext h0 h'/\Ch [m] h h'/\br h' m 45 [su.v,lb.v,st.v,sd.v]/\we h' h.size st tw/\we h' h.size sd dw/\(∀ j,j∈aG st.p->j∉aG sd.p) /\
  zt us LB es (·.text) i tw/\zt us LB es (·.data) i dw) ((0:Int),()) us.length rfl
  ⟨0,nv,nv,[],[],rfl,rfl,ad,e0,Ch.refl _ _,pr.box,we.nil _ _,we.nil _ _,by simp [nv,aG],⟨rfl,fun n u x _ w=>by simp at w⟩,⟨rfl,fun n u x _ w=>by simp at w⟩⟩ ?_
 rintro ⟨n21,⟨⟩⟩ k h1 ⟨i,st,sd,tw,dw,hi,rfl,hle,e1,k1,b7,t1,d1,hdj,it,id⟩;simp only at hi;subst hi;refine ak ?_;have hw:=hY i;have z1:=k1.size;refine aK ?_ ?_<;>intro q
 ·have A:i<us.length:=ad
  have E:us[i]?=some us[i]:=ad9 A;obtain ⟨au,sa,sb,sc,sd',hau,N,va⟩:=v.cells i A;have hum:=al9 A;generalize us[i]=u at E N va hum;have uw:=hW i u E;have prk:∀ {h':Hp} {st' sd2:bI},Ch [m] h h'->br h' m 45 [su.v,lb.v,st'.v,sd2.v]->Dv h' m su lb st' sd2 LB:=fun k bx=>⟨bx,pr.qW.bF k (fun j o r=>by have:=(pr.qW.cw o).1; simp at r; omega)⟩
  have vek:∀ {h':Hp},Ch [m] h h'->uS h' U J es:=fun k=>ve.nH k (fun j o r=>by have:=hq j o; simp at r; omega) (fun e he _ j o r=>by have:=(hb e he j o).1; simp at r; omega)
  have O:∀ {h':Hp},Ext h0 h'->aF h' (au.add (i*4)) 0 [.slice sa.p sa.l sa.c]:=fun e=>⟨(aI e ai _ _ N).1,trivial⟩
  have P:∀ {h':Hp},Ext h0 h'->aF h' ((au.add (i*4)).add 1) 0 [.slice sb.p sb.l sb.c]:=fun e=>⟨by rw [add_add]; exact (aI e ai _ _ N).2.1,trivial⟩
  rw [ay];refine aw b7 ((st.p,st.l,st.c),()) (ak ?_);refine bK hau ?_;rw [cr i];refine ar ((sa.p,sa.l,sa.c),()) (O e1) (ak ?_);refine aE (DG (c:=sa.c) (d:=M) (prk k1 b7) (v.aj e1) sz A hL (va.aj e1).text (sz.text u hum) (fun x w=>(uw.text x w).1) (vek k1) (fun e he j o=>by have:=(hb e he j o).2; omega) hm hS hes (fun x w=>(uw.text x w).2)) ?_;rintro _ h2 ⟨Q,p2,l2,c2,w2,rfl,o2,hm2⟩;refine ⟨((p2,l2,c2),()),rfl,ak ?_⟩;have z2:=Q.size;have e02:=e1.trans Q;have b72:=b7.aj Q ai;refine ⟨⟨b72.cells _ rfl,trivial⟩,?_⟩;refine we.push (x:=(⟨p2,l2,c2⟩,w2)) (t1.ext Q) (FI o2 z1) ad (by rw [it.1]; omega) (by exact fun h' e=>⟨O (e02.trans e),(b72.aj e ai).cells _ rfl,trivial⟩) ?_;intro p3 c3 h3 t3 k3 hp3;have B:∀ j,j∈aG st.p->h.size<=j/\j<h1.size:=fun j o=>t1.sl.cw o
  have e03:Ext h0 h3:=Ch.trans e02 k3 (fun j o hl=>by have:=B j o; have:=e0.size; omega);have kg3:Ch [m] h h3:=Ch.trans (Ch.trans k1 Q ai) k3 (fun j o hl=>by have:=B j o; omega);have b73:=b72.aj k3 (fun o=>by have:=B _ o; omega);have d3:we h3 h.size sd dw:=(d1.ext Q).aj (e':=46) k3 (SL.zu (t1.ext Q).sl) (fun j o r=>hdj j r o) bQ bQ;have z3:=k3.size;refine ⟨⟨O e03,trivial⟩,?_⟩;rw [ay];refine bP b73 ?_;intro h4 C k4 z4;have C:br h4 m 45 [su.v,lb.v,(⟨p3,st.l+1,c3⟩:bI).v,sd.v]:=C;have hg0:∀ j,j∈[m]->h0.size<=j:=fun j o=>by simp at o; omega
  have F:Ext h0 h4:=Ch.trans e03 k4 (fun j o hl=>by have:=hg0 j o; omega);have W:Ch [m] h h4:=Ch.trans kg3 k4 (fun j o _=>o);have G:∀ {r:Hp} {xs:List Xab},br r m 45 xs->∀ j,j∈[m]->∃ ys,br r j 45 ys:=fun bx j o=>by
   rw [ak9] at o;subst o;exact ⟨_,bx⟩
  have H:∀ {r:Hp} {s:bI} {t:List (bI × List (bI × cz))},we r h.size s t->∀ j,j∈aG s.p->j∉[m]:=fun t j o r=>by have:=(t.sl.cw o).1; simp at r; omega
  have t4:=t3.aj (e':=45) k4 (G b73) (H t3) bQ bQ;have d4:=d3.aj (e':=45) k4 (G b73) (H d3) bQ bQ;have I:∀ j,j∈aG p3->j∉aG sd.p:=fun j o r=>by
   rcases hp3 with h | ⟨a',h,h'⟩
   ·rw [h] at o; exact hdj j o r
   ·rw [h] at o;simp [aG] at o
    have:=(d1.sl.cw r).2
    omega
  refine aw C ((sd.p,sd.l,sd.c),()) (ak ?_);refine bK hau ?_;refine ar ((sb.p,sb.l,sb.c),()) (P F) (ak ?_);refine aE (DG (c:=sb.c) (d:=M) (prk W C) (v.aj F) sz A hL (va.aj F).data (sz.data u hum) (fun x w=>(uw.data x w).1) (vek W) (fun e he j o=>by have:=(hb e he j o).2; omega) hm hS hes (fun x w=>(uw.data x w).2)) ?_;rintro _ h5 ⟨X,p5,l5,c5,w5,rfl,o5,hm5⟩;refine ⟨((p5,l5,c5),()),rfl,ak ?_⟩;have z5:=X.size;have e05:=F.trans X;have b75:=C.aj X ai;refine ⟨⟨b75.cells _ rfl,trivial⟩,?_⟩;refine we.push (x:=(⟨p5,l5,c5⟩,w5)) (d4.ext X) (FI o5 ad) ad (by rw [id.1]; omega) (by exact fun h' e=>⟨P (e05.trans e),(b75.aj e ai).cells _ rfl,trivial⟩) ?_;intro p6 c6 h6 d6 k6 hp6;have D:∀ j,j∈aG sd.p->h.size<=j/\j<h1.size:=fun j o=>d1.sl.cw o
  have e06:Ext h0 h6:=Ch.trans e05 k6 (fun j o hl=>by have:=D j o; have:=e0.size; omega);have kg6:Ch [m] h h6:=Ch.trans (Ch.trans W X ai) k6 (fun j o hl=>by have:=D j o; omega);have b76:=b75.aj k6 (fun o=>by have:=D _ o; omega);have t6:we h6 h.size ⟨p3,st.l+1,c3⟩ (tw++[(⟨p2,l2,c2⟩,w2)]):=(t4.ext X).aj (e':=46) k6 (SL.zu (d4.ext X).sl) I bQ bQ;refine ⟨⟨P e06,trivial⟩,?_⟩;refine bP b76 ?_;intro h7 Y k7 z7;have Y:br h7 m 45 [su.v,lb.v,(⟨p3,st.l+1,c3⟩:bI).v,(⟨p6,sd.l+1,c6⟩:bI).v]:=Y;have e07:Ext h0 h7:=Ch.trans e06 k7 (fun j o hl=>by have:=hg0 j o; omega);refine C8 (cs:=cF) (((i+1:Nat):Int),()) (us.length-(i+1)) ad (aq9 (fun V=>[Value.int .i64 V]) hw) ⟨i+1,⟨p3,st.l+1,c3⟩,⟨p6,sd.l+1,c6⟩,_,_,rfl,rfl,ad,e07,Ch.trans kg6 k7 (fun j o _=>o),Y,
   t6.aj (e':=45) k7 (G b76) (H t6) bQ bQ,d6.aj (e':=45) k7 (G b76) (H d6) bQ bQ,fun j o r=>?_,it.push E hm2,id.push E hm5⟩
  rcases hp6 with h | ⟨a',h,h'⟩
  ·rw [h] at r; exact I j o r
  ·rw [h] at r;simp [aG] at r
   have:=(t4.sl.cw o).2
   omega
 ·have:i=us.length:=ad
  subst this;have b1':=b1.aj k1 (by simp; omega);refine bP b1' ?_;intro h2 b2 k2 z2;have b2:br h2 ga 91 [vI 0,vI 0,.string dS]:=b2;refine aw b2 ((0:Int),(0:Int),dS,()) ?_;have hba:∀ j,j∈[ga]->∃ ys,br h1 j 91 ys:=fun j o=>by
   rw [ak9] at o;subst o;exact ⟨_,b1'⟩
  have hna:∀ {s:bI} {t:List (bI × List (bI × cz))},we h1 h.size s t->∀ j,j∈aG s.p->j∉[ga]:=fun t j o r=>by have:=(t.sl.cw o).1; simp at r; omega
  refine hk h2 st sd tw dw (bU e1 k2) ⟨b7.aj k2 (by simp; omega),?_⟩ (t1.aj (e':=91) k2 hba (hna t1) bQ bQ) (d1.aj (e':=91) k2 hba (hna d1) bQ bQ) it id;refine pr.qW.bF (Ch.trans (ws:=[m,ga]) (Ch.mono k1 ai) k2 ai) (fun j o r=>by have:=(pr.qW.cw o).1; simp at r; omega)
def rk (us:List cg):List Nat:=us.flatMap fun u=>List.range u.bg.length
theorem sW:∀ (us:List cg) (n:Nat),(eF n us).length=(rk us).length
 | [],n=>rfl
 | u::us,n=>by
  unfold rk;rw [eF,cd9,ae9,ae9,ab9,dt9,sW us (n+1)] <;> rfl
def P0 (w:Nat) (b:Xac) (c:Nat) (u:Xax) (n:Xac) (o:Nat) (d:Int):T :=
   T.loop [aM,aM] [vI (0:Int),vI d] <| fun (a i:Int) =>
   T.need (fI a c) <|
   T.bi b <| fun (p:Xax) =>
   T.af ((p.add (aH a 4)).add 2) [.slice 116] <| fun (x:Xac) (q y:Nat) =>
   cond (decide (i>=(q:Int)))
   (T.need (fI a c) <|
   T.bi b <| fun (e:Xax) =>
   T.af ((e.add (aH a 4)).add 2) [.slice 116] <| fun (h:Xac) (f j:Nat) =>
   T.again w [vI (bn (a+(1:Int))),vI (bn (i-(f:Int)))])
   (T.need (fI a c) <|
   T.bi b <| fun (e:Xax) =>
   T.af ((e.add (aH a 4)).add 2) [.slice 116] <| fun (h:Xac) (f j:Nat) =>
   T.need (fI d o) <|
   T.bi n <| fun (k:Xax) =>
   T.af (k.add (aH d 1)) [.int .i64] <| fun (g:Int) =>
   T.need (fI g f) <|
   T.bi h <| fun (l:Xax) =>
   T.af (l.add (aH g 3)) [.string] <| fun (m:Xaa) =>
   T.bh [((l.add (aH g 3)),[.string m]),((k.add (aH d 1)),[vI g]),(((e.add (aH a 4)).add 2),[.slice h f j])] <|
   T.ax u [vI (24:Int),vI a,.string m] <|
   T.af u [.int .i64,.int .i64,.string] <| fun (r s:Int) (t:Xaa) =>
   bj #[.pointer none,.agg #[vI r,vI s,.string t]])
def Sr {h0 h:Hp} {lv d l:Nat} {us:List cg} {D I i0:Nat} {q:Nat × sO} (J:lv=a.length) (h0g:h0.size<=ga) (e0:Ext h0 h) (b1:br h ga 91 [vI f,vI g,.string V]) (v:xt h U l us) (M:us.length<=2^20)
  (E:SL h d 3 1 b D I ((rk us).map Nb)) (hle:(eF 0 us).length<=2^40) (W:(eF 0 us)[i0]?=some q) (hk:∀ h',Ext h0 h'->Z (.tuple #[.pointer none,RM ⟨24,q.1,q.2.1⟩]) h'):P0 lv U l ⟨ga,0,none⟩ b D i0 a Z h:=by
 subst J;unfold P0 aH bn fI bj aM;have hll:=v.len;have hi0:i0<(eF 0 us).length:=(ax9.1 W).1;have hkl:=sW us 0;refine aQ (cs:=fH) (fun g k h'=>∃ (u r:Nat),g.1=(u:Int)/\g.2.1=(r:Int)/\k=us.length-u/\h'=h/\u<=us.length/\(eF u (us.drop u))[r]?=some q/\(rk (us.drop u))[r]?=(rk us)[i0]?/\r<=i0) ((0:Int),(i0:Int),()) us.length rfl
  ⟨0,i0,rfl,rfl,rfl,rfl,ad,W,rfl,au9 _⟩ ?_
 rintro ⟨n21,n22,⟨⟩⟩ k h' ⟨u,r,X,Y,rfl,rfl,hul,m,n,hri⟩;simp only at X Y;subst X Y;refine ak ?_;have A:u<us.length:=by
  by_cases h:u<us.length
  ·exact h
  ·rw [cc9 ad] at m;simp [eF] at m
 rw [aw9 A] at m n;have n:(List.range us[u].bg.length++rk (us.drop (u+1)))[r]?=(rk us)[i0]?:=n;have m:(us[u].bg.map (fun e=>(u,e))++eF (u+1) (us.drop (u+1)))[r]?=some q:=m;obtain ⟨au,sa,sb,sc,sd,rfl,F,N⟩:=v.cells u A;generalize us[u]=w at n m F N;have hlq:=N.bg.len;have t:aF h' ((au.add (u*4)).add 2) 0 [.slice sc.p sc.l sc.c]:=⟨by rw [add_add]; exact F.2.2.1,trivial⟩
 refine bK rfl ?_;rw [cr u];refine ar ((sc.p,sc.l,sc.c),()) t (ak ?_);refine aK ?_ ?_<;>intro j
 ·have G:w.bg.length<=r:=ad
  refine bK rfl ?_;refine ar ((sc.p,sc.l,sc.c),()) t (ak ?_);have hw1:=hY u;have O:IntKind.wrap .i64 ((r:Int)-(sc.l:Int))=((r-w.bg.length:Nat):Int):=by rw [wrap_i64 ad ad]; omega
  rw [bn9 (by rw [ab9]; exact G),ab9] at m;rw [bn9 (by rw [dt9]; exact G),dt9] at n;exact C8 (cs:=fH) (((u+1:Nat):Int),((r-w.bg.length:Nat):Int),()) (us.length-(u+1)) ad (by rw [hw1,O]; rfl) ⟨u+1,r-w.bg.length,rfl,rfl,rfl,rfl,ad,m,n,ad⟩
 ·have s:r<w.bg.length:=ad
  rw [bt9 (by rw [ab9]; exact s),ch9,ad9 s] at m;rw [bt9 (by rw [dt9]; exact s),dl9 s] at n;have P:(u,w.bg[r])=q:=ay9 m;subst P;refine bK rfl ?_;refine ar ((sc.p,sc.l,sc.c),()) t (ak ?_);have B:i0<(rk us).length:=ad
  obtain ⟨a12,H,o⟩:=SL.cells E (i:=i0) (by rw [ab9]; exact B);rw [am9] at o;have Q:(rk us)[i0]=r:=by
   rw [ad9 B] at n;exact (ay9 n).symm
  rw [Q] at o;have hl13:D=(rk us).length:=by have:=E.1; rwa [ab9] at this
  refine bK H ?_;rw [cr i0];refine ar ((r:Int),()) o (ak ?_);obtain ⟨aq,pq,mq,cq,R,C,_,_⟩:=N.bg.cells r s;refine bK R ?_;rw [cr r];refine ar (w.bg[r].1,()) ⟨C.1,trivial⟩ (ak ?_);refine ⟨⟨⟨C.1,trivial⟩,o,t,trivial⟩,?_⟩;refine bP b1 ?_;intro h2 S k2 z2;have S:br h2 ga 91 [vI 24,vI (u:Int),.string w.bg[r].1]:=S;refine aw S ((24:Int),(u:Int),w.bg[r].1,()) ?_;exact hk h2 (bU e0 k2)
def UH (d:Xac) (b:Nat) (a1 t:Xax):T :=
  T.loop [cR,cR,aM] [aZ,aZ,vI (0:Int)] <| fun (p9:Xac) (l10 n:Nat) (o:Xac) (p u:Nat) (c:Int) =>
  bq c b
  (T.loop [cR,cR,aM] [.slice p9 l10 n,.slice o p u,vI (0:Int)] <| fun (f:Xac) (g h:Nat) (q:Xac) (r s:Nat) (e:Int) =>
  T.need (fI c b) <|
  T.bi d <| fun (w:Xax) =>
  T.af ((w.add (aH c 4)).add 2) [.slice 116] <| fun (p24:Xac) (x l26:Nat) =>
  bq e x
   (T.need (fI c b) <|
   T.bi d <| fun (y:Xax) =>
   T.af ((y.add (aH c 4)).add 2) [.slice 116] <| fun (z:Xac) (A l30:Nat) =>
   T.need (fI e A) <|
   T.bi z <| fun (B:Xax) =>
   T.af (B.add (aH e 3)) [.string,.slice 64,.int .u32] <| fun (Vd:Xaa) (C:Xac) (D E:Nat) (F:Int) =>
   T.new [bZ,aZ,aC (0:Int)] 116 <| fun (a:Xax) =>
   T.ax a [.string Vd,.slice C D E,aC F] <|
   T.af a [.string] <| fun (i:Xaa) =>
   T.af (a.add 1) [.slice 64,.int .u32] <| fun (j:Xac) (k l:Nat) (m:Int) =>
   bM 45 [.pointer (some t),vI c,.string i] false [(false,[.string])] <| fun (G:Xaa) =>
   T.bh [((a.add 1),[.slice j k l,aC m])] <|
   bM 46 [.pointer (some t),vI c,.agg #[.slice j k l,aC m]] false [(true,[.slice 64,.int .u32])] <| fun (H:Xac) (I J:Nat) (K:Int) =>
   T.bh [(a,[.string i])] <|
   bR (Instr.buildSlice 67 1 #[(0,.agg #[.string G,.slice H I J,aC K])]) false [cR] <| fun (L:Xac) (M N:Nat) =>
   T.bh [((a.add 1),[.slice j k l,aC m]),(a,[.string i])] <|
   bR (Builtin.append_ #[67,67] 67 #[.slice f g h,.slice L M N]) false [cR] <| fun (O:Xac) (P Q:Nat) =>
   T.bh [((a.add 1),[.slice j k l,aC m]),(a,[.string i])] <|
   bR (Instr.buildSlice 135 1 #[(0,vI e)]) false [cR] <| fun (R:Xac) (S U:Nat) =>
   bR (Builtin.append_ #[135,135] 135 #[.slice q r s,.slice R S U]) false [cR] <| fun (V:Xac) (W X:Nat) =>
   T.again 2 [.slice O P Q,.slice V W X,vI (bn (e+(1:Int)))])
   (T.again 1 [.slice f g h,.slice q r s,vI (bn (c+(1:Int)))]))
  (bM 47 [.slice p9 l10 n] true [(false,[.slice 116]),aM,aM] <| fun (f:Xac) (g h:Nat) (Y Z:Int) =>
  cond (Z != (0:Int)) (P0 2 d b a1 o p Y) (Rn 2 d b a1 t f g h))
structure Yc (h:Hp) (b:Nat) (p:Xac) (l c:Nat) (q:Xac) (m d:Nat) (ms:List cT) (ks:List Nat):Prop where
 out:SL h b 116 3 p l c (ms.map AS)
 num:SL h b 3 1 q m d (ks.map Nb)
 fx:∀ e,e∈ms->SL h b 64 2 e.p e.l e.c (e.x.ah.map df)
def Yc.ext {h':Hp} {a l c m d:Nat} {ms:List cT} {ks:List Nat} (s:Yc O a U l c b m d ms ks) (e:Ext O h'):Yc h' a U l c b m d ms ks :=
 ⟨s.out.bF e ai,s.num.bF e ai,fun x f=>(s.fx x f).bF e ai⟩
def dR (us:List cg) (L:List Lb) (l:List cg):List (Xaa × bJ):=(eF 0 l).map fun q=>(dK us L q.1 q.2.1,iR us L q.1 q.2.2)
def LG (l:List cg) (u:cg):rk (l++[u])=rk l++List.range u.bg.length:=by
 unfold rk;rw [ds9]
 simp
def SS (us:List cg) (L:List Lb) (l:List cg) (u:cg):dR us L (l++[u])=dR us L l++u.bg.map fun e=>(dK us L l.length e.1,iR us L l.length e.2):=by
 unfold dR;rw [sg,ao9,bf9];simp only [Nat.zero_add] <;> rfl
def Z9 (us:List cg) (n:Nat) (u:cg):Prop:=∀ e,e∈u.bg->Q5 us n e.2/\(∃ o,jL us n e.1=some o)/\e.1.size<=2^60
def oP (n:Nat):lI n=eK n:=oB n
def GY (n:Nat):∀ c,c∈Lib.decDigits n->c≠95:=by
 intro c hc e;rw [Lib.decDigits_eq] at hc;obtain ⟨t,_,rfl⟩:=an9.1 hc;unfold Lib.dg at e;have h1:=aq9 UInt8.toNat e;have h2:(UInt8.ofNat (48+n / 10^(Lib.nDigits n-1-t) % 10)).toNat=48+n / 10^(Lib.nDigits n-1-t) % 10:=by
  rw [UInt8.toNat_ofNat'];omega
 rw [h2] at h1;have a:(95:UInt8).toNat=95:=rfl;omega
theorem UD:∀ {a b s t:List UInt8},(∀ c,c∈a->c≠95)->(∀ c,c∈b->c≠95)->a++95::s=b++95::t->a=b/\s=t
 | [],[],s,t,_,_,h=>by simpa using h
 | [],c::b,s,t,_,e,h=>by
  simp only [List.nil_append,List.cons_append,List.cons.injEq] at h;exact absurd h.1.symm (e c ai)
 | c::a,[],s,t,f,_,h=>by
  simp only [List.nil_append,List.cons_append,List.cons.injEq] at h;exact absurd h.1 (f c ai)
 | c::a,d::b,s,t,f,e,h=>by
  simp only [List.cons_append,List.cons.injEq] at h;obtain ⟨h1,h2⟩:=UD (fun x g=>f x (ap9 _ g)) (fun x g=>e x (ap9 _ g)) h.2;exact ⟨by rw [h.1,h1],h2⟩
def EI (L:List Lb) (o:Nat) (s:Xaa):WO L o s=nX (L.map Ah) (o,s):=by
 unfold WO nX;rw [fi9]
 congr 1
 funext x
 show _=decide (Ah x=(o,s));unfold Ah;rw [ec9]
 simp
def RQ (L:List Lb) (k:Ky):Xaa:=yG L k.1 k.2
def Tb {L:List Lb} {k':Ky} (h:RQ L d=RQ L k'):d=k':=by
 have f:∀ a b:Xaa,(⟨#[76]⟩:Xaa)++a≠(⟨#[69]⟩:Xaa)++b:=by
  intro a b e;have h1:=aq9 (fun b:Xaa=>b.data.toList) e;simp only [ei] at h1;simp at h1
 have has:∀ a b c:Xaa,((⟨#[69]⟩++a)++⟨#[95]⟩)++b=(⟨#[69]⟩:Xaa)++(a++(⟨#[95]⟩++b)):=by
  intro a b c;simp only [ByteArray.append_assoc]
 obtain ⟨o,s⟩:=d;obtain ⟨o',s'⟩:=k';unfold RQ yG at h;rw [EI,EI] at h;cases h1:nX (L.map Ah) (o,s) with
 | some i =>
  cases h2:nX (L.map Ah) (o',s') with
  | some j =>
   rw [h1,h2] at h;have h:(⟨#[76]⟩:Xaa)++eK i=⟨#[76]⟩++eK j:=h;rw [<- oP,<- oP] at h
   have:=tF (xg h)
   subst this;obtain ⟨a,l⟩:=jN h1;obtain ⟨b,m⟩:=jN h2;rw [<- l,<- m]
  | none =>
   rw [h1,h2] at h;have h:(⟨#[76]⟩:Xaa)++eK i=((⟨#[69]⟩++eK o')++⟨#[95]⟩)++s':=h;rw [has _ _ ⟨#[]⟩] at h;exact absurd h (f _ _)
 | none =>
  cases h2:nX (L.map Ah) (o',s') with
  | some j =>
   rw [h1,h2] at h;have h:((⟨#[69]⟩++eK o)++⟨#[95]⟩)++s=(⟨#[76]⟩:Xaa)++eK j:=h;rw [has _ _ ⟨#[]⟩] at h;exact absurd h.symm (f _ _)
  | none =>
   rw [h1,h2] at h;have h:((⟨#[69]⟩++eK o)++⟨#[95]⟩)++s=((⟨#[69]⟩++eK o')++⟨#[95]⟩)++s':=h;rw [has _ _ ⟨#[]⟩,has _ _ ⟨#[]⟩] at h;have h:=xg h;have h3:=aq9 (fun b:Xaa=>b.data.toList) h;simp only [ei] at h3;have p:Lib.decDigits o++95::s.data.toList=Lib.decDigits o'++95::s'.data.toList:=by
    have e:∀ n:Nat,(eK n).data.toList=Lib.decDigits n:=fun n=>by unfold eK; simp
    rw [e,e] at h3;simpa using h3
   obtain ⟨q,g⟩:=UD (GY o) (GY o') p;have r:o=o':=by
    apply tF;rw [oP,oP];unfold eK;rw [q]
   subst r
   congr 1
   cases s; cases s';simp only at g
   congr 1
   exact Array.ext' g
structure oU (us:List cg) (w:LW):Prop where
 right:∀ u,u∈us->ft u=0
 wi:WI w (cm 0 us) ((eF 0 us).map jo)
 gl:∀ s,w.gl s=Sa us s
def Vt (us:List cg) (k:Ky):Prop:=k∈(cm 0 us).map Ah\/k∈(eF 0 us).map jo
def O3 {us:List cg} {n:Nat} (b:us[n]?=some c) (a:V∈fN c):Vt us (n,V):=by
 unfold fN at a;rw [as9,as9] at a;rcases a with a | a
 ·exact .inl ((ym V n us 0).2 ⟨c,ek9 _,by rw [fu9]; exact b,a⟩)
 ·exact .inr ((AV V n us 0).2 ⟨c,ek9 _,by rw [fu9]; exact b,a⟩)
def Nz {u:cg} (h:ft u=0):∀ x,x∈u.aS->x∈fN u:=by
 have h1:=(A0 h).2;rw [yi] at h1;unfold yg at h1;simp only [Bool.and_eq_true,decide_eq_true_eq] at h1;exact fun x a=>((yK _ _ _ h1.2.2.2.2).1 x a).1
def wF {l:List Xaa} :gw l V=true↔V∈l:=by
 unfold gw;rw [dy9];constructor
 ·rintro ⟨x,a,b⟩;rw [<- ah9 b]; exact a
 ·intro h;exact ⟨V,h,ai9 rfl⟩
def Fb {us:List cg} (d:∀ u,u∈us->ft u=0) {n o:Nat} (h:jL us n V=some o):Vt us (o,V):=by
 unfold jL at h;split at h
 ·rename_i a;cases h;cases b:us[n]? with
  | none=>rw [b] at a; cases a
  | some u =>
   rw [b] at a;exact O3 b (wF.1 (ay9 a))
 ·rw [be9] at h;obtain ⟨c,h1,_⟩:=h;exact O3 (ad9 c) (Nz (d _ (al9 c)) V (wF.1 h1))
def DW {us:List cg} {n:Nat} (a:us[n]?=some c) (b:V∈fN c):jL us n V=some n:=by
 unfold jL;rw [a,fq9,af9 (by rw [wF.2 b])]
def OY {us:List cg} (i0:WI H (cm 0 us) ((eF 0 us).map jo)) {k:Ky} (hk:Vt us k) (hn:k∉(eF 0 us).map jo):H.word k=RQ (cm 0 us) k:=by
 have hk:k∈(cm 0 us).map Ah:=hk.elim id fun h=>absurd h hn
 obtain ⟨i,hi⟩:=Cf hk;unfold LW.word RQ yG;rw [EI,i0.num];show (match nX ((cm 0 us).map Ah) k with | some n=>(⟨#[76]⟩:Xaa)++lI n | none=>_)=match nX ((cm 0 us).map Ah) (k.1,k.2) with | some i=>(⟨#[76]⟩:Xaa)++eK i | none=>_
 rw [hi];show (⟨#[76]⟩:Xaa)++lI i=⟨#[76]⟩++eK i;rw [oP]
def YL (f:Xaa->Nat) (s:Xaa):jQ f (mC s)=f s % 4294967296:=by
 unfold jQ mC;show (0+(1*f s+0)) % 4294967296=_
 congr 1
 omega
def oU.own {us:List cg} {w:LW} (A:oU us w) {n:Nat} (hn:n<us.length) (s:Xaa):w.own n s=(jL us n s).map fun o=>(o,s):=Of A.wi A.gl hn s
def oU.rel {us:List cg} (A:oU us H) {n:Nat} (hn:n<us.length) (c:H.bad n Y=none):zP (Vt us) H.word (RQ (cm 0 us)) (H.lin n Y) (iR us (cm 0 us) n Y):=by
 intro f g a;unfold LW.lin iR;rw [fU,fU];refine pS fun t ht=>?_
 obtain ⟨k,hk⟩:=Bm c t ht;rw [A.own hn] at hk;obtain ⟨o,b,rfl⟩:=er9.1 hk;have hky:=Fb A.right b;unfold Jw vl dK;simp only [A.own hn,b,Option.map_some,Option.getD_some];rw [YL,YL,a _ hky] <;> rfl
def Ae {us:List cg} {q:Nat × sO} (a:q∈eF 0 us):∃ u,us[q.1]?=some u/\q.2∈u.bg:=by
 obtain ⟨i,hi,h1,h2⟩:=wG us 0 q a;rw [bv9] at h1;exact ⟨us[i],by rw [h1]; exact ad9 hi,h2⟩
def oU.two {us:List cg} (A:oU us H) (d:fK H 0 us=none):wv (eF 0 us) jo (Vt us) H.word (RQ (cm 0 us)) (fun q=>H.lin q.1 q.2.2) fun q=>iR us (cm 0 us) q.1 q.2.2 where
 nd:=xN us 0 fun u b=>by
  have:=xM (A.right u b)
  unfold fN at this;rw [cq9] at this;exact this.2.1
 RO:=fun q a=>.inr (bc9 a)
 ia:=fun k k' hk c h=>word_inj A.wi hk c h
 ib:=fun k k' _ _ h=>Tb h
 Uv:=fun k hk hn=>OY A.wi hk hn
 rel:=fun q a=>by
  obtain ⟨u,b,_⟩:=Ae a;exact A.rel (ax9.1 b).1 (Al d a)
 fa:=fun q _=>eM _ _
 fb:=fun q _=>eM _ _
def Iq (w:LW) (us:List cg):oo w us=wD (eF 0 us) jo w.word fun q=>w.lin q.1 q.2.2:=rfl
def Nn (us:List cg):dR us (cm 0 us) us=wD (eF 0 us) jo (RQ (cm 0 us)) fun q=>iR us (cm 0 us) q.1 q.2.2:=by
 unfold dR wD;refine ci9 fun q a=>?_
 obtain ⟨u,b,c⟩:=Ae a
 have:jL us q.1 q.2.1=some q.1:=DW b (by
  unfold fN;exact bp9 _ (bc9 c))
 unfold dK;rw [this] <;> rfl
def oU.XT {us:List cg} {w:LW} (A:oU us w) (a:fK w 0 us=none):ma (oo w us)=dM (eY (dR us (cm 0 us) us)):=by
 rw [Iq,Nn];exact (A.two a).XT
def oU.put {us:List cg} (A:oU us H) (c:fK H 0 us=none) (hc:ma (oo H us)=none) {n:Nat} (hn:n<us.length) (a:H.bad n Y=none) (b:Y.num<4294967296) {ms:List cT} (d:ms.map fD=(dR us (cm 0 us) us).map fun y=>(y.1,fl (eY (dR us (cm 0 us) us)) y.1)) :
  oi (jg (oo H us)) (H.lin n Y)=dr (cD ms) (iR us (cm 0 us) n Y):=by
 have h1:cD ms=cD (eY (jg (dR us (cm 0 us) us))):=Hd (by rw [qx,d]; rfl);rw [h1];show _=oi (jg (dR us (cm 0 us) us)) _;rw [Nn];rw [Iq] at hc ⊢;exact (A.two c).same hc (A.rel hn a) (jc b) (jc b)
def Gm {fs:List cT} (h:es.map fD=fs.map fD):dM es=dM fs:=by
 unfold dM;have a:∀ (gs:List cT),(gs.findIdx? fun e=>@decide (kV (dA gs) e.name) (Classical.propDecidable _))=(gs.map fD).findIdx? fun q=>@decide (kV (dA gs) q.1) (Classical.propDecidable _):=by
  intro gs;rw [fi9] <;> rfl
 rw [a,a,h,Cd h]
def Tw {J0:List Xab->Hp->Prop} {h0 h:Hp} {s:Nat} {su lb:bI} {LB:List Lb} {us:List cg} {S:List Xaa} (hga:ga<s) (h0g:h0.size<=ga) (e0:Ext h0 h) (b1:br h ga 91 [vI f,vI g,.string V])
  (pr:Dv h s su lb nv nv LB) (v:xt h0 su.p su.l us) (sz:M4 us) (hL:LB.length<=2^40) (hE:∀ n u,us[n]?=some u->Z9 us n u) (hW:∀ n u,us[n]?=some u->Xb us LB S n u) (hnd:((dR us LB us).map (·.1)).Nodup) (hlen:(eF 0 us).length<=2^20) (hS:S.length<=2^30)
  (hSd:∀ y,y∈dR us LB us->∀ t,t∈y.2.ah->t.1∈S)
  (hk1:∀ h' i q,dM (eY (dR us LB us))=some i->(eF 0 us)[i]?=some q->Ext h0 h'->Z (.tuple #[.pointer none,RM ⟨24,q.1,q.2.1⟩]) h')
  (hk0:∀ h' b' st sd tw dw ms,dM (eY (dR us LB us))=none->ms.map fD=(dR us LB us).map (fun y=>(y.1,fl (eY (dR us LB us)) y.1))->Ext h0 h'->Dv h' s su lb st sd LB->we h' b' st tw->we h' b' sd dw->zt us LB ms (·.text) us.length tw->zt us LB ms (·.data) us.length dw->Z (.tuple #[.pointer (some ⟨s,0,none⟩),RM ⟨0,0,dS⟩]) h') :
  UH su.p su.l ⟨ga,0,none⟩ ⟨s,0,none⟩ [J0] Z h:=by
 unfold UH bq aH bM bR bn fI aC aZ bZ aM cR;have hll:=v.len;have hmany:=sz.many;have hgs:=pr.box.lt;have hz0:=e0.size;refine aQ (cs:=AJ) (fun y k h'=>∃ (i:Nat) (ms:List cT) (ks:List Nat),y.2.2.1=(i:Int)/\k=us.length-i/\i<=us.length/\Ext h h'/\Yc h' h.size y.1.1 y.1.2.1 y.1.2.2 y.2.1.1 y.2.1.2.1 y.2.1.2.2 ms ks/\ms.map fD=dR us LB (us.take i)/\ks=rk (us.take i))
  ((none,0,0),(none,0,0),(0:Int),()) us.length rfl ⟨0,[],[],rfl,rfl,ad,Ch.refl _ _,⟨SL.nil _ _ _ _,SL.nil _ _ _ _,ai⟩,rfl,rfl⟩ ?_
 rintro ⟨⟨p9,l10,l11⟩,⟨p12,l13,l14⟩,n15,⟨⟩⟩ k h1 ⟨i,ms,ks,hi,rfl,hle,e1,N,A,rfl⟩;simp only at hi N;subst hi;refine ak ?_;refine aK ?_ ?_<;>intro q
 ·have F:i<us.length:=ad
  have hug:us[i]?=some us[i]:=ad9 F;have P:us.take (i+1)=us.take i++[us[i]]:=ag9 F;have hti:(us.take i).length=i:=by rw [az9]; omega
  have hwt:=hY i;obtain ⟨au,sa,sb,sc,sd,hau,hcu,va⟩:=v.cells i F;have hum:=al9 F;generalize us[i]=u at hug P hcu va hum;have ew:=hE i u hug;have hlq:=va.bg.len;have hue:=sz.bg u hum;refine aQ (cs:=AJ) (fun y k h'=>∃ (j:Nat) (ms:List cT) (ks:List Nat),y.2.2.1=(j:Int)/\k=u.bg.length-j/\j<=u.bg.length/\Ext h h'/\Yc h' h.size y.1.1 y.1.2.1 y.1.2.2 y.2.1.1 y.2.1.2.1 y.2.1.2.2 ms ks /\
   ms.map fD=dR us LB (us.take i)++(u.bg.take j).map (fun e=>(dK us LB i e.1,iR us LB i e.2))/\ks=rk (us.take i)++List.range j) ((p9,l10,l11),(p12,l13,l14),(0:Int),()) u.bg.length rfl ⟨0,ms,_,rfl,rfl,ad,e1,N,by simpa using A,ai⟩ ?_
  rintro ⟨⟨p16,G,l18⟩,⟨Q,H,R⟩,n22,⟨⟩⟩ k h2 ⟨j,I,ks2,hj,rfl,hlj,C,U,D,rfl⟩;simp only at hj U;subst hj;refine ak ?_;have e02:=e0.trans C;have z2:=C.size;have hwj:=hY j;have hcq:aF h2 ((au.add (i*4)).add 2) 0 [.slice sc.p sc.l sc.c]:=⟨by rw [add_add]; exact (aI e02 ai _ _ hcu).2.2.1,trivial⟩
  have hkl:=sW (us.take i) 0;have hsum1:(eF 0 (us.take i)).length<=(eF 0 us).length:=by
   have:=sg
   rw [sW,sW];unfold rk
   conv=>rhs; rw [<- ce9 i us]
   rw [ds9,ae9];omega
  refine bK hau ?_;rw [cr i];refine ar ((sc.p,sc.l,sc.c),()) hcq (ak ?_);refine aK ?_ ?_<;>intro r
  ·have W:j<u.bg.length:=ad
   have htj:u.bg.take (j+1)=u.bg.take j++[u.bg[j]]:=ag9 W;refine bK hau ?_;refine ar ((sc.p,sc.l,sc.c),()) hcq (ak ?_);obtain ⟨aq,pq,mq,cq,haq,hce,O,_⟩:=(va.bg.aj e02).cells j W;have hem:=al9 W;generalize u.bg[j]=e at htj hce O hem;obtain ⟨M,⟨o,hoo⟩,hsn⟩:=ew e hem;refine bK haq ?_;rw [cr j];refine ar (e.1,(pq,mq,cq),(e.2.num:Int),()) hce (ak ?_);refine bm ?_;intro h3 b3 e3 z3;refine bP b3 ?_;intro h4 b4 k4 z4;have b4:br h4 h2.size 116 [.string e.1,.slice pq mq cq,.int .u32 (e.2.num:Int)]:=b4;have X:Ext h2 h4:=bU e3 k4;refine aw b4 (e.1,()) (ak ?_);rw [ay];refine aw b4 ((pq,mq,cq),(e.2.num:Int),()) (ak ?_);have e04:=e02.trans X;have prk:∀ {h':Hp},Ext h h'->Dv h' s su lb nv nv LB:=fun e=>pr.aj e
   refine aE (Kt (prk (C.trans X)) (v.aj e04) sz F hL hoo hsn) ?_;rintro _ h5 ⟨rfl,e5⟩;refine ⟨(dK us LB i e.1,()),rfl,ak ?_⟩;have b45:=b4.aj e5 ai;refine ⟨⟨b45.cells _ rfl,trivial⟩,?_⟩;have e25:=X.trans e5;refine aE (Gi (d:=cq) (prk (C.trans e25)) (v.aj (e02.trans e25)) sz F hL (O.vw.aj e25 ai) M.nf M.num M.len M.own M.sz) ?_;rintro _ h6 ⟨e6,p6,l6,c6,rfl,s6⟩;refine ⟨((p6,l6,c6),((iR us LB i e.2).num:Int),()),rfl,ak ?_⟩;have b46:=b45.aj e6 ai;refine ⟨⟨b46.cells _ rfl,trivial⟩,?_⟩;have e26:=e25.trans e6;have o6:=U.ext e26;have z26:=e26.size;have z25:=e25.size;have hl17:G=I.length:=by have:=U.out.1; rwa [ab9] at this
   have hl20:H=(rk (us.take i)++List.range j).length:=by have:=U.num.1; rwa [ab9] at this
   rw [ae9,dt9] at hl20;have hm2:I.length=(eF 0 (us.take i)).length+j:=by
    have:=aq9 List.length D
    rw [ab9,ae9,ab9,az9,db9 hlj] at this;unfold dR at this
    rwa [ab9] at this
   refine gz (vs:=AS ⟨dK us LB i e.1,p6,l6,c6,iR us LB i e.2⟩) Di MH rfl ad ad (IN _ _ _ _ _) rfl rfl o6.out ad ad ad (fun h' x=>⟨(b46.aj x ai).cells _ rfl,(b46.aj x ai).cells _ rfl,trivial⟩) ?_;intro p7 c7 h7 s7 k7 hp7;have hbx7:=SL.zu o6.out;have hnb:h2.size∉aG p16:=fun hh=>by have:=(U.out.cw hh).2; omega
   have b47:=b46.aj k7 hnb;refine ⟨⟨b47.cells _ rfl,b47.cells _ rfl,trivial⟩,?_⟩;have n7:SL h7 h.size 3 1 Q H R ((rk (us.take i)++List.range j).map Nb):=SL.kN o6.num k7 hbx7 bQ;have i7:∀ x,x∈I++[⟨dK us LB i e.1,p6,l6,c6,iR us LB i e.2⟩]->SL h7 h.size 64 2 x.p x.l x.c (x.x.ah.map df):=fun x L=>by
    rcases as9.1 L with L | L
    ·exact SL.kN (o6.fx x L) k7 hbx7 bQ
    ·rw [ak9.1 L];exact SL.kN (s6.mono ad) k7 hbx7 bQ
   have z7:=k7.size;refine fg (vs:=Nb j) uL TU rfl ad ad (Fq _) rfl rfl n7 ad ad ad ?_;intro p8 c8 h8 s8 k8 hp8;have hbx8:=SL.zu n7;have e7:Ext h h7:=Ch.trans (C.trans e26) k7 (fun q hq hl=>by have:=(U.out.cw hq).1; omega);have e8:Ext h h8:=Ch.trans e7 k8 (fun q hq hl=>by have:=(n7.cw hq).1; omega);refine aD (cs:=AJ) ((p7,G+1,c7),(p8,H+1,c8),((j+1:Nat):Int),()) (u.bg.length-(j+1)) rfl ad (aq9 (fun V=>[Value.slice p7 (G+1) c7,.slice p8 (H+1) c8,Value.int .i64 V]) hwj)
    ⟨j+1,I++[⟨dK us LB i e.1,p6,l6,c6,iR us LB i e.2⟩],_,rfl,rfl,ad,e8,⟨?_,?_,fun x L=>SL.kN (i7 x L) k8 hbx8 bQ⟩,?_,rfl⟩
   ·have:SL h7 h.size 116 3 p7 (G+1) c7 ((I++[(⟨dK us LB i e.1,p6,l6,c6,iR us LB i e.2⟩:cT)]).map AS):=by rw [ao9]; exact s7
    exact SL.kN this k8 hbx8 bQ
   ·rw [fr9,<- bb9,ao9];exact s8
   ·rw [htj,ao9,ao9,D,bb9] <;> rfl
  ·have:j=u.bg.length:=ad
   subst this;rw [bl9] at D;refine aD (cs:=AJ) ((p16,G,l18),(Q,H,R),((i+1:Nat):Int),()) (us.length-(i+1)) rfl ad (aq9 (fun V=>[Value.slice p16 G l18,.slice Q H R,Value.int .i64 V]) hwt)
    ⟨i+1,I,_,rfl,rfl,ad,C,U,?_,?_⟩
   ·rw [D,P,SS,hti]
   ·rw [P,LG]
 ·have:i=us.length:=ad
  subst this;rw [bl9] at A N;have z1:=e1.size;have e01:=e0.trans e1;have pr1:=pr.aj e1;have b11:=b1.aj e1 ai;have hkm:ms.map fD=(eY (dR us LB us)).map fD:=by rw [A,qx]
  have hml:ms.length=(eF 0 us).length:=by
   have:=aq9 List.length A
   rw [ab9] at this;rw [this];unfold dR;rw [ab9]
  have hnm:(aU ms).Nodup:=by
   have:aU ms=(dR us LB us).map (·.1):=by
    rw [<- A,bf9] <;> rfl
   rw [this];exact hnd
  have hmem:∀ e,e∈ms->fD e∈dR us LB us:=fun e J=>by
   rw [<- A];exact an9.2 ⟨e,J,rfl⟩
  have E:∀ e,e∈ms->ua S e.x:=fun e J=>by
   have h1:=hmem e J;have h2:=hSd _ h1;unfold dR at h1;obtain ⟨q,hq,hqe⟩:=an9.1 h1;have L:e.x=iR us LB q.1 q.2.2:=(aq9 (·.2) hqe).symm;obtain ⟨n,hn,hn1,hn2⟩:=wG us 0 q hq;have hqn:q.1=n:=ad
   have hew:=hE n us[n] (ad9 hn) q.2 hn2;exact ⟨by rw [L]; exact Ll _ _ _ _,by rw [L]; exact Gb hew.1.num,h2⟩
  have ve:uS h1 p9 l10 ms:=⟨by have:=N.out.1; rwa [ab9] at this,fun i hi=>by
   obtain ⟨f,ha,hc⟩:=SL.cells N.out (i:=i) (by rw [ab9]; exact hi);rw [am9] at hc;exact ⟨f,ha,hc⟩,fun e J=>(N.fx e J).Nt⟩
  refine aE (Mn (c:=l11) (B:=h.size) z1 ve (fun e J i hi=>(N.fx e J).cw hi) hnm ad hS E) ?_;rintro w h2 ⟨C,hw⟩;rw [Gm hkm] at hw;cases hf:dM (eY (dR us LB us)) with
  | some i0 =>
   rw [hf] at hw;subst hw;refine ⟨((none,0,0),(i0:Int),(24:Int),()),rfl,ak ?_⟩;refine bX rfl ?_;have hi0:i0<(eF 0 us).length:=by
    have h1:=hf;unfold dM at h1;rw [be9] at h1;obtain ⟨h2,_⟩:=h1
    have:(eY (dR us LB us)).length=(eF 0 us).length:=by unfold eY dR; rw [ab9,ab9]
    omega
   exact Sr (lv:=2) (i0:=i0) rfl h0g (e01.trans C) (b11.aj C ai) (v.aj (e01.trans C)) hmany (N.num.bF C ai) ad (ad9 hi0) fun h' e'=>hk1 h' i0 _ hf (ad9 hi0) e'
  | none =>
   rw [hf] at hw;obtain ⟨p',l',c',ns,rfl,on⟩:=hw;refine ⟨((p',l',c'),(0:Int),(0:Int),()),rfl,ak ?_⟩;refine cv rfl ?_;have hin:∀ m,m∈ns->∃ e,e∈ms/\m.name=e.name/\m.x=UN (cD ms) ms.length e.x:=fun m hm=>by
    obtain ⟨j,hj,rfl⟩:=bg9 hm;have hj':j<ms.length:=by rw [<- on.len]; exact hj
    obtain ⟨h1,h2⟩:=on.eq j ms[j] ns[j] (ad9 hj') (ad9 hj);exact ⟨ms[j],al9 hj',h1,h2⟩
   have vn:uS h2 p' l' ns:=⟨by have:=on.out.1; rwa [ab9] at this,fun i hi=>by
    obtain ⟨f,ha,hc⟩:=SL.cells on.out (i:=i) (by rw [ab9]; exact hi);rw [am9] at hc;exact ⟨f,ha,hc⟩,on.fx⟩
   have hkn:ns.map fD=(dR us LB us).map (fun y=>(y.1,fl (eY (dR us LB us)) y.1)):=by
    rw [<- A,bf9,A];apply fp9
    ·rw [ab9,ab9,on.len]
    ·intro j h1' Y;rw [ab9] at h1' Y;rw [am9,am9];obtain ⟨h1,h2⟩:=on.eq j ms[j] ns[j] (ad9 Y) (ad9 h1');have h3:=Tg hnm (fun e J=>(E e J).num) (al9 Y);unfold fD;rw [h1,h2,h3];show _=(ms[j].name,fl (eY (dR us LB us)) ms[j].name);rw [KO hkm]
   have z2:=C.size;refine TH (lv:=2) (S:=S) rfl hga h0g (e01.trans C) (b11.aj C ai) (pr1.aj C) (v.aj (Ch.refl _ _)) sz hL vn (fun i hi=>by have:=(on.out.cw hi).1; omega) (fun e J i hi=>by have:=(on.low e J i hi).1; omega) (by rw [on.len]; omega) hS (fun e J=>by
    obtain ⟨d,hd,_,L⟩:=hin e J;rw [L];exact ua.it E (E d hd) _) hW ?_
   intro h' st sd tw dw e' pr' t' d' i1 i2;exact hk0 h' _ st sd tw dw ns hf hkn e' pr' t' d' i1 i2
theorem A6 (u:cg):∀ (l:List cg) (n:Nat),cm n (l++[u])=cm n l++Hq (n+l.length) u
 | [],n=>by simp [cm]
 | y::l,n=>by
  simp only [List.cons_append,cm,List.length_cons];rw [A6 u l (n+1),show n+1+l.length=n+(l.length+1) from ad,bb9]
def BM (us:List cg) (i:Nat):(cm 0 (us.take i)).length<=(cm 0 us).length:=by
 have c:∀ (a b:List cg) (n:Nat),(cm n a).length<=(cm n (a++b)).length:=by
  intro a
  induction a with
  | nil=>intro b n; simp [cm]
  | cons u a d =>
   intro b n;simp only [List.cons_append,cm,List.length_append]
   have:=d b (n+1)
   omega
 have:=c (us.take i) (us.drop i) 0
 rwa [ce9] at this
structure Pn (us:List cg) (S:List Xaa):Prop where
 sz:M4 us
 eG:(cm 0 us).length<=2^39
 bg:∀ n u,us[n]?=some u->Z9 us n u
 items:∀ n u,us[n]?=some u->Xb us (cm 0 us) S n u
 nd:((dR us (cm 0 us) us).map (·.1)).Nodup
 len:(eF 0 us).length<=2^20
 names:S.length<=2^30
 fx:∀ y,y∈dR us (cm 0 us) us->∀ t,t∈y.2.ah->t.1∈S
def DN (us:List cg) (su:bI) (w:Xab) (h':Hp):Prop :=
 if (fO us).rA≠0 then w=.tuple #[.pointer none,RM (fO us)]
 else (∃ i q,dM (eY (dR us (cm 0 us) us))=some i/\(eF 0 us)[i]?=some q/\w=.tuple #[.pointer none,RM ⟨24,q.1,q.2.1⟩]) \/
  ∃ g b' lb st sd tw dw ms,dM (eY (dR us (cm 0 us) us))=none/\w=.tuple #[.pointer (some ⟨g,0,none⟩),RM ⟨0,0,dS⟩]/\ms.map fD=(dR us (cm 0 us) us).map (fun y=>(y.1,fl (eY (dR us (cm 0 us) us)) y.1)) /\
   Dv h' g su lb st sd (cm 0 us)/\we h' b' st tw/\we h' b' sd dw/\zt us (cm 0 us) ms (·.text) us.length tw/\zt us (cm 0 us) ms (·.data) us.length dw
def CN {su:bI} {us:List cg} {S:List Xaa} (v:xt O su.p su.l us) (M:(fO us).rA=0->Pn us S):HC Xaz 24 #[.slice su.p su.l su.c] O fun w h'=>Ext O h'/\DN us su w h':=by
 refine aX (args:=[.slice su.p su.l su.c]) mixed Tryz.func24 av (oA su.p su.l su.c) ?_;unfold kE aR aY bq aH eE bM bd bn aC bj aZ bZ aM cR;have hll:=v.len;refine bm ?_;intro h1 N I z1;refine aE (JD (c:=su.c) (v.aj I)) ?_;rintro _ h2 ⟨rfl,r⟩;refine ⟨(((fO us).rA:Int),((fO us).unit:Int),(fO us).name,()),rfl,ak ?_⟩;have b12:=N.aj r ai;have e02:=I.trans r;refine bm ?_;intro h3 P Q z3;refine bP P ?_;intro h4 f R z4;have f:br h4 h2.size 91 [vI ((fO us).rA:Int),vI ((fO us).unit:Int),.string (fO us).name]:=f;have j:Ext h2 h4:=bU Q R;have e04:=e02.trans j;have b14:=b12.aj j ai;have z2:=r.size;refine aw f (((fO us).rA:Int),()) (ak ?_);refine ao ?_ ?_<;>intro g
 ·have g:(fO us).rA≠0:=by
   intro U;rw [U] at g;cases g
  refine aw f (((fO us).rA:Int),((fO us).unit:Int),(fO us).name,()) (ak ?_);refine ⟨⟨f.cells _ rfl,trivial⟩,?_⟩;refine bP b14 ?_;intro s a V W;have a:br s O.size 91 [vI ((fO us).rA:Int),vI ((fO us).unit:Int),.string (fO us).name]:=a;refine aw a (((fO us).rA:Int),((fO us).unit:Int),(fO us).name,()) ?_;refine ⟨bU e04 V,?_⟩;unfold DN;rw [af9 g] <;> rfl
 ·have g:(fO us).rA=0:=by
   have:(((fO us).rA:Nat):Int)=0:=by simpa using g
   omega
  have C:=M g;refine bm ?_;intro s a X W;have a:br s h4.size 45 [su.v,nv.v,nv.v,nv.v]:=a;have v4:=v.aj e04;have hmany:=C.sz.many;refine aQ (cs:=cF) (fun y k h'=>∃ (i:Nat) (lb:bI),y.1=(i:Int)/\k=us.length-i/\i<=us.length/\Ext h4 h'/\Dv h' h4.size su lb nv nv (cm 0 (us.take i))) ((0:Int),()) us.length rfl
   ⟨0,nv,rfl,rfl,ad,X,⟨a,SL.nil _ _ _ _⟩⟩ ?_
  rintro ⟨n8,⟨⟩⟩ k h6 ⟨i,lb,hi,rfl,Y,o,pr⟩;simp only at hi;subst hi;refine ak ?_;have hw:=hY i;refine aK ?_ ?_<;>intro q
  ·have b:i<us.length:=ad
   have m:us.take (i+1)=us.take i++[us[i]]:=ag9 b;have t:(us.take i).length=i:=by rw [az9]; omega
   obtain ⟨J,sa,sb,sc,sd,n,d,x⟩:=v4.cells i b;have hum:=al9 b;generalize us[i]=u at m d x hum;have h1t:=C.sz.text u hum;have h1d:=C.sz.data u hum;have hlt:=BM us i;have hlb:=C.eG;have hl1:=sf i 0 u.text 0;have K:∀ {h':Hp},Ext h4 h'->aF h' (J.add (i*4)) 0 [.slice sa.p sa.l sa.c]/\aF h' ((J.add (i*4)).add 1) 0 [.slice sb.p sb.l sb.c]:=fun e=>⟨⟨(aI e ai _ _ d).1,trivial⟩,⟨by rw [add_add]; exact (aI e ai _ _ d).2.1,trivial⟩⟩
   refine bK n ?_;rw [cr i];refine ar ((sa.p,sa.l,sa.c),()) (K o).1 (ak ?_);refine aE (FK (c:=sa.c) (au9 _) o pr x.text ad i 0) ?_;rintro _ h7 ⟨rfl,L,z7,Z,A⟩;refine ⟨(),rfl,ak ?_⟩;refine bK n ?_;refine ar ((sb.p,sb.l,sb.c),()) (K L).2 (ak ?_);refine aE (FK (c:=sb.c) (au9 _) L A x.data (by rw [ae9]; omega) i 1) ?_;rintro _ h8 ⟨rfl,e8,z8,B,D⟩;refine ⟨(),rfl,ak ?_⟩;refine aD (cs:=cF) (((i+1:Nat):Int),()) (us.length-(i+1)) rfl ad (aq9 (fun z=>[Value.int .i64 z]) hw) ⟨i+1,B,rfl,rfl,ad,e8,?_⟩;rw [m,A6,t,bv9];unfold Hq;rw [<- bb9];exact D
  ·have:i=us.length:=ad
   subst this;rw [bl9] at pr;have e06:=e04.trans o;refine Tw (h0:=O) (S:=S) (by have:=e04.size; omega) (au9 _) e06 (b14.aj o ai) pr v C.sz (by have:=C.eG; omega) C.bg C.items C.nd C.len C.names C.fx (fun h' i q E hq F=>⟨F,?_⟩) (fun h' b' st sd tw dw ms E G F H t' d' i1 i2=>⟨F,?_⟩)
   ·unfold DN;rw [ac9 ad];exact .inl ⟨i,q,E,hq,rfl⟩
   ·unfold DN;rw [ac9 ad];exact .inr ⟨_,b',lb,st,sd,tw,dw,ms,E,rfl,G,H,t',d',i1,i2⟩
def LK {us:List cg} (A:oU us H) {n:Nat} (hn:n<us.length) (x:bJ):H.bad n x=mR us n x:=by
 unfold LW.bad mR
 have:(fun t:Xaa × Nat=>(H.own n t.1).isNone)=fun t=>(jL us n t.1).isNone:=by
  funext t
  rw [A.own hn]
  all_goals (cases jL us n t.1 <;> rfl)
 rw [this]
def x8 (w:LW) (n:Nat) (u:cg):sq w n u=(cO u).findSome? (w.bad n):=by
 unfold sq LW.zJ cO;rw [fh9,fh9,List.findSome?_map,List.findSome?_map,List.findSome?_map,Option.or_assoc] <;> rfl
theorem FJ {us:List cg} {n:Nat}:∀ (l:List bJ),(∀ x,x∈l->∀ t,t∈x.ah->¬ t.1.data.toList=[])->((rB us n l).data.toList=[]↔l.findSome? (mR us n)=none)/\∀ s,l.findSome? (mR us n)=some s->rB us n l=s
 | [],_=>by
  refine ⟨⟨fun _=>rfl,fun _=>rfl⟩,fun s c=>by cases c⟩
 | x::l,h=>by
  obtain ⟨d,f⟩:=FJ l fun y g=>h y (ap9 _ g)
  have hx:=h x ai;have b:rB us n (x::l)=if (eb us n x).data.toList=[] then rB us n l else eb us n x:=by
   unfold rB;rw [bo9,fe9]
   by_cases e:(eb us n x).data.toList=[]
   ·rw [af9 e];simp [e]
   ·rw [ac9 e];simp [e]
  rw [List.findSome?_cons];cases a:mR us n x with
  | none =>
   have:eb us n x=⟨#[]⟩:=by unfold eb; rw [a]; rfl
   rw [b,af9 (by rw [this])];exact ⟨d,f⟩
  | some s =>
   have h1:eb us n x=s:=by unfold eb; rw [a]; rfl
   have h2:¬ s.data.toList=[]:=by
    unfold mR at a;obtain ⟨t,ht,rfl⟩:=er9.1 a;exact hx t (List.mem_of_find?_eq_some ht)
   rw [b,ac9 (by rw [h1]; exact h2),h1];refine ⟨⟨fun k=>absurd k h2,fun k=>by cases k⟩,fun r i=>by cases i; rfl⟩
def WJ {us:List cg} (A:oU us H) (a:∀ u,u∈us->∀ x,x∈cO u->∀ t,t∈x.ah->¬ t.1.data.toList=[]) {n:Nat} (hn:n<us.length):Ca us n=(sq H n us[n]).map fun s=>(n,s):=by
 have c:H.bad n=mR us n:=funext fun x=>LK A hn x
 obtain ⟨h1,h2⟩:=FJ (us:=us) (n:=n) (cO us[n]) (a _ (al9 hn));unfold Ca;rw [ad9 hn,dk9,x8,c];cases b:(cO us[n]).findSome? (mR us n) with
 | none=>rw [af9 (h1.2 b)]; rfl
 | some s =>
  rw [b] at h1;have h2:=h2 s b;rw [ac9 (fun k=>by cases h1.1 k),h2] <;> rfl
theorem J6 {us:List cg} {w:LW} (A:oU us w) (b:∀ u,u∈us->∀ x,x∈cO u->∀ t,t∈x.ah->¬ t.1.data.toList=[]):∀ (k n:Nat),us.length-n=k->n<=us.length->(∀ j,j<n->Ca us j=none)->PA us=fK w n (us.drop n)
 | 0,n,hk,hn,c=>by
  have:n=us.length:=ad
  subst this;rw [de9];exact j8 _ _ c
 | k+1,n,hk,hn,c=>by
  have a:n<us.length:=ad
  rw [By w us n a];have hu:=WJ A b a;cases d:sq w n us[n] with
  | some s =>
   rw [d] at hu;exact kq _ _ _ n a c hu
  | none =>
   rw [d] at hu;refine J6 A b k (n+1) ad a fun j f=>?_
   by_cases e:j=n
   ·subst e; exact hu
   ·exact c j ad
def Sf (g:Good Y):∀ t,t∈Y.ah->¬ t.1.data.toList=[]:=by
 intro t ht e;have h:=g.Kr t ht;rw [e] at h;cases h
def SW (g:Good Y):∀ t,t∈Y.ah->t.1.size<=32:=by
 intro t ht;have h:=g.Kr t ht;unfold cB at h;simp only [Bool.and_eq_true] at h
 have:=ah9 h.1.1.1.2
 simpa using this
def Fu (us:List cg):Except Fl LP->Prop
 | .error f=>f.rA≠0/\(fO us=f\/((fO us).rA=0/\(us.length<=64/\∃ w,oU us w/\fK w 0 us=none)/\∃ i q,dM (eY (dR us (cm 0 us) us))=some i/\(eF 0 us)[i]?=some q/\f=⟨24,q.1,q.2.1⟩))
 | .ok P=>(fO us).rA=0/\us.length<=64/\P.us=us/\P.D=oo P.w us/\oU us P.w/\fK P.w 0 us=none/\ma (oo P.w us)=none/\dM (eY (dR us (cm 0 us) us))=none
def Up {D:List (Xaa × bJ)} {i:Nat} (h:ma D=some i):i<D.length:=by
 unfold ma at h;rw [be9] at h;exact h.1
def Bn {us:List cg} (sm:∀ u,u∈us->∀ x,x∈cO u->x.num<4294967296/\∀ t,t∈x.ah->t.2<4294967296):Fu us (mP us):=by
 unfold mP
 by_cases h0:us.length=0
 ·rw [af9 h0];refine ⟨ai,.inl ?_⟩;unfold fO;rw [af9 h0]
 rw [ac9 h0]
 by_cases b:64<us.length
 ·rw [af9 b];refine ⟨ai,.inl ?_⟩;unfold fO;rw [ac9 h0,af9 b]
 rw [ac9 b];have a:fO us=match us.findIdx? fun u=>decide (ft u≠0) with
  | some n=>⟨31,n,dS⟩
  | none=>match FF us with
   | some q=>⟨22,q.1,q.2⟩
   | none=>match PA us with
    | some q=>⟨23,q.1,q.2⟩
    | none=>⟨0,0,dS⟩:=by
  unfold fO;rw [ac9 h0,ac9 b] <;> rfl
 cases e:us.findIdx? fun u=>decide (ft u≠0) with
 | some n =>
  rw [e] at a;exact ⟨ai,.inl a⟩
 | none =>
  rw [e] at a;have f:∀ u,u∈us->ft u=0:=by
   intro u hu;rw [bu9] at e
   have:=ar9 (e u hu)
   omega
  have i0:=UJ f;have g:∀ s,(nU 0 us UE).gl s=none:=by
   have p:∀ (n sec:Nat) (l:List cz) (i:Nat) (w:LW),(iV n sec i l w).gl=w.gl:=by
    intro n sec l
    induction l with
    | nil=>intro i w; rfl
    | cons x l d =>
     intro i w;rw [iV,d];unfold jO;split <;> rfl
   have y:∀ (n:Nat) (l:List sO) (w:LW),(l.foldl (vL n) w).gl=w.gl:=by
    intro n l
    induction l with
    | nil=>intro w; rfl
    | cons x l d=>intro w; rw [br9,d]; rfl
   have z:∀ (l:List cg) (n:Nat) (w:LW),(nU n l w).gl=w.gl:=by
    intro l
    induction l with
    | nil=>intro n w; rfl
    | cons u l d =>
     intro n w;rw [nU,d];unfold G';rw [y,p,p]
   intro s;rw [z] <;> rfl
  have hm:=F7 us us.length 0 (nU 0 us UE) ad (ek9 _) (fun s=>by rw [g]; rfl) (fun j h=>absurd h ad);rw [List.drop_zero] at hm;simp only;cases k:ly 0 us (nU 0 us UE) with
  | error q =>
   rw [k] at hm;have hm:FF us=some q:=hm;rw [hm] at a;exact ⟨ai,.inl a⟩
  | ok w =>
   rw [k] at hm;obtain ⟨B,C⟩:FF us=none/\∀ s,w.gl s=Sa us s:=hm
   rw [B] at a;have A:oU us w:=⟨f,i0.meet k,C⟩
   have m:∀ u,u∈us->∀ x,x∈cO u->∀ t,t∈x.ah->¬ t.1.data.toList=[]:=fun u hu x D=>Sf (BP (f u hu) (sm u hu) x D)
   have hu:=J6 A m us.length 0 ad (ek9 _) (fun j h=>absurd h ad);rw [List.drop_zero] at hu;rw [hu] at a;cases c:fK w 0 us with
   | some q =>
    rw [c] at a;simp only [c];exact ⟨ai,.inl a⟩
   | none =>
    rw [c] at a;have r:(fO us).rA=0:=by rw [a]
    have hcy:=A.XT c;cases hc:ma (oo w us) with
    | some i =>
     have hi:=Up hc;have hi:i<(eF 0 us).length:=by unfold oo at hi; rwa [ab9] at hi
     simp only [c,hc];refine ⟨ai,.inr ⟨r,⟨ad,w,A,c⟩,i,(eF 0 us)[i],by rw [<- hcy,hc],ad9 hi,?_⟩⟩;have o:((eF 0 us).map fun q=>(q.1,q.2.1)).getD i (0,dS)=((eF 0 us)[i].1,(eF 0 us)[i].2.1):=by
      rw [cf9,ch9,ad9 hi] <;> rfl
     rw [o]
    | none =>
     simp only [c,hc];exact ⟨r,ad,rfl,rfl,A,c,hc,by rw [<- hcy,hc]⟩
def EU (us:List cg):List Xaa:=((cm 0 us).map Ah++(eF 0 us).map jo).map (RQ (cm 0 us))
def G5 {us:List cg} (sm:H3 us) (j:us.length<=64) (A:oU us H) (D:fK H 0 us=none):Pn us (EU us):=by
 have r:Fj us:=⟨A.right,j⟩
 have F:∀ u,u∈us->∀ x,x∈cO u->Good x:=fun u b=>BP (A.right u b) (sm.num u b)
 have l:∀ n u,us[n]?=some u->∀ x,x∈cO u->H.bad n x=none:=by
  intro n u b x c;have hn:=(ax9.1 b).1;have h1:=jZ us 0 D n hn;have h:us[n]=u:=(ax9.1 b).2;rw [bv9,h,x8,cw9] at h1;exact h1 x c
 have i:∀ n u,us[n]?=some u->∀ x,x∈cO u->∀ t,t∈x.ah->∃ o,jL us n t.1=some o:=by
  intro n u b x c t ht;obtain ⟨k,hk⟩:=Bm (l n u b x c) t ht;rw [A.own (ax9.1 b).1] at hk;obtain ⟨o,B,_⟩:=er9.1 hk;exact ⟨o,B⟩
 have d:∀ n u,us[n]?=some u->∀ x,x∈cO u->Q5 us n x:=by
  intro n u b x c;have hm:=cm9 b;have g:=F u hm x c;refine ⟨g.nf,g.num,?_,i n u b x c,fun t ht=>?_⟩
  ·have:=sm.len hm c
   omega
  ·have:=SW g t ht
   omega
 have C:∀ n u,us[n]?=some u->∀ x,x∈cO u->∀ t,t∈x.ah->dK us (cm 0 us) n t.1∈EU us:=by
  intro n u b x c t ht;obtain ⟨o,B⟩:=i n u b x c t ht;unfold dK;rw [B,Option.getD_some];exact bc9 (f:=RQ (cm 0 us)) (a:=(o,t.1)) (as9.2 (Fb A.right B))
 have m:∀ u:cg,∀ x,x∈u.text->x.e∈cO u:=fun u x c=>bh9 _ (bh9 _ (bc9 c))
 have s:∀ u:cg,∀ x,x∈u.data->x.e∈cO u:=fun u x c=>bh9 _ (bp9 _ (bc9 c))
 have z:∀ u:cg,∀ e,e∈u.bg->e.2∈cO u:=fun u e h=>bp9 _ (bc9 h)
 refine ⟨M4.of j A.right,?_,fun n u b e h=>⟨d n u b _ (z u e h),?_,?_⟩,fun n u b=>⟨fun x c=>⟨d n u b _ (m u x c),C n u b _ (m u x c)⟩,fun x c=>⟨d n u b _ (s u x c),C n u b _ (s u x c)⟩⟩,?_,?_,?_,?_⟩
 ·have:=r.eG; omega
 ·exact ⟨n,DW b (bp9 _ (bc9 h))⟩
 ·have h1:=(A0 (A.right u (cm9 b))).2;unfold xj at h1;simp only [Bool.and_eq_true] at h1;have h2:=(uK h1.1.2 e h).1;unfold cB at h2;simp only [Bool.and_eq_true] at h2;have h3:=ah9 h2.1.1.1.2;have J:e.1.size<=32:=by simpa using h3
  omega
 ·rw [Nn];exact (A.two D).symm.Wy
 ·have:=r.eqs; omega
 ·unfold EU;rw [ab9,ae9,ab9,ab9];have h1:=r.eG;have h2:=r.eqs;omega
 ·intro y E t ht;unfold dR at E;obtain ⟨q,G,rfl⟩:=an9.1 E;obtain ⟨u,b,h⟩:=Ae G;obtain ⟨p,I,e⟩:=GQ ht;rw [e];exact C q.1 u b _ (z u q.2 h) p I
theorem ic {h:Hp} {a:Xax}:∀ (n:Nat) (b:List Xab) (i:Nat),aF h a i b->aF h a (i+n) (b.drop n)
 | 0,b,i,hc=>hc
 | n+1,[],i,hc=>trivial
 | n+1,v::b,i,hc=>by
  have:=ic n b (i+1) hc.2
  rw [show i+1+n=i+(n+1) from ad] at this;exact this
theorem jn {h:Hp} {a:Xax}:∀ (b:List Xab) (o i:Nat),aF h a (o+i) b->aF h (a.add o) i b
 | [],_,_,_=>trivial
 | v::b,o,i,h1=>⟨by have:=h1.1; rw [add_add]; exact this,jn b o (i+1) h1.2⟩
theorem eW {h:Hp} {a:Xax}:∀ (n:Nat) (b:List Xab) (i:Nat),aF h a i b->aF h a i (b.take n)
 | 0,b,i,hc=>trivial
 | n+1,[],i,hc=>trivial
 | n+1,v::b,i,hc=>⟨hc.1,eW n b (i+1) hc.2⟩
def _root_.Go.Sx.rT.sM {h':Hp} {a j l c m d sz:Nat} {ms:List cT} {xs:List (List Xab)} (o:rT O a U l c ms) (t:SL O j e sz b m d xs) (k:Ch (aG b) O h') (h1:e≠116) (h2:e≠64):rT h' a U l c ms :=
 ⟨o.out.bF k (fun i hi f=>wo t o.out h1 i f hi),fun m f=>(o.fx m f).bF k (fun i hi g=>wo t (o.fx m f) h2 i g hi),o.ap,o.dj⟩
def rQ (of:Xaa->Option bJ) (x:cz):cz:={ x with e:=dr of x.e }
def Vs (c:Xac) (b:Nat) (d:Xac) (e f r:Nat) (k:T):T :=
 T.loop [aM] [vI (0:Int)] <| fun (a:Int) =>
     bq a b
     (T.need (fI a b) <|
     T.bi c <| fun (g:Xax) =>
     T.af ((g.add (aH a 10)).add 7) [.slice 64,.int .u32] <| fun (h:Xac) (i j:Nat) (l:Int) =>
     bM 38 [.agg #[.slice h i j,aC l],.slice d e f] false [(true,[.slice 64,.int .u32])] <| fun (m:Xac) (n o:Nat) (p:Int) =>
     T.need (fI a b) <|
     T.bi c <| fun (q:Xax) =>
     T.ax ((q.add (aH a 10)).add 7) [.slice m n o,aC p] <|
     T.again r [vI (bn (a+(1:Int)))])
     k
structure M' (h:Hp) (b:Nat) (p:Xac) (l c:Nat) (ms:List cT):Prop where
 own:rT h b p l c ms
 ok:EqsOk ms
 het:∀ e,e∈ms->e.x.ah.length<=2^20
 Xw:(ms.flatMap (·.x.ah)).length<=2^39
 len:ms.length<=2^20
def M'.ext {h':Hp} {b l c:Nat} {ms:List cT} (s:M' O b U l c ms) (k:Ext O h'):M' h' b U l c ms:=⟨s.own.aj k ai,s.ok,s.het,s.Xw,s.len⟩
def M'.sM {h h':Hp} {b a:Nat} {p q:Xac} {l c m d sz:Nat} {e:TypeId} {ms:List cT} {xs:List (List Xab)} (o:M' h b p l c ms) (t:SL h a e sz q m d xs) (k:Ch (aG q) h h') (h1:e≠116) (h2:e≠64):M' h' b p l c ms :=
 ⟨o.own.sM t k h1 h2,o.ok,o.het,o.Xw,o.len⟩
def J7 (ws:List (bI × cz)):Prop:=∀ u,u∈ws->u.2.e.ah.length<=2^20/\u.2.e.num<4294967296/\∀ t,t∈u.2.e.ah->t.1.size<=maxLen
def Uq {L:Lp} {K:Xab->Hp->Prop} {h:Hp} {b N Q:Nat} {S:Nat->kZ} {w:Xac} {x n X:Nat} {k:T} {ms:List cT} (R:X=L.length) (s:lV h b N S) {j:Nat} (C:j<N) (t:M' h Q w x n ms) (ok:J7 (S j).ws) (Y:(S j).ws.length<=2^20)
  (hk:∀ h' f J,lV h' b N f->(∀ i,i≠j->f i=S i)->(f j).s=(S j).s->(f j).ws.map (·.2)=(S j).ws.map (fun u=>rQ (cD ms) u.2)->Ch (aG (S j).s.p) h h'->M' h' Q w x n ms->k (L++[J]) K h') :
  Vs (S j).s.p (S j).s.l w x n X k L K h:=by
 subst R;unfold Vs bq aH bM bn fI aC aM;have U:(S j).s.l=(S j).ws.length:=by have:=(s.sec j C).out.1; rwa [ab9] at this
 generalize D:(S j).ws=ws at *;generalize hl:(S j).s.l=l at *;subst U;refine aQ (cs:=cF) (fun y Z h'=>∃ (i:Nat) (f:Nat->kZ),y.1=(i:Int)/\i<=ws.length/\Z=ws.length-i/\lV h' b N f/\(∀ i,i≠j->f i=S i)/\(f j).s=(S j).s/\(f j).ws.length=ws.length/\(∀ m,(B:m<ws.length)->(E:m<(f j).ws.length)->if m<i then (f j).ws[m].2=rQ (cD ms) ws[m].2 else (f j).ws[m]=ws[m])/\Ch (aG (S j).s.p) h h'/\M' h' Q w x n ms) ((0:Int),()) ws.length rfl
  ⟨0,S,rfl,ad,ad,s,fun _ _=>rfl,rfl,by rw [D],fun m B E=>by rw [ac9 ad]; simp only [D],Ch.refl _ _,t⟩ ?_
 clear s t;rintro ⟨n58,⟨⟩⟩ Z h1 ⟨i,f,hi,hil,rfl,s,so,A,sl,V,k1,t⟩;simp only at hi;subst hi;refine ak ?_;refine aK ?_ ?_<;>intro q
 ·have F:i<ws.length:=ad
  have g:i<(f j).ws.length:=ad
  have sj:=s.sec j C;have hwi:=V i F g;rw [ac9 ad] at hwi;have okw:=ok ws[i] (al9 F);have hin:=sj.fx _ (al9 g);obtain ⟨a,G,hc⟩:=sj.out.cells (i:=i) (by simpa using g);rw [am9,hwi] at hc;rw [hwi] at hin;rw [A] at G;generalize hu:ws[i]=u at okw hin hc;refine bK G ?_;rw [cr i];refine ar ((u.1.p,u.1.l,u.1.c),(u.2.e.num:Int),()) (eW 2 [_,_,_] 0 (jn _ 7 0 (ic 7 _ 0 hc))) (ak ?_);refine aE (OK (c:=u.1.c) (d:=n) (xG hin) (D2 t.own) t.ok t.het t.Xw t.len okw.1 okw.2.2) ?_;rintro _ h2 ⟨⟨p',l',c',rfl,s2⟩,W⟩;rw [yV (eM _ _) (jc okw.2.1)] at s2 ⊢;refine ⟨((p',l',c'),((dr (cD ms) u.2.e).num:Int),()),rfl,ak ?_⟩;refine bK G ?_;have s':=s.ext W;have sj':=s'.sec j C;have so2:=sj'.out;refine SL.part (P:=Xaz) so2 (i:=i) (by rw [ab9]; exact g) (o:=7) ai (by simp [dl]) (by rw [A]; exact G) ?_;intro h3 s3 O z3;have H:((f j).ws.map tY).set i (lN (((f j).ws.map tY)[i]'(by rw [ab9]; exact g)) 7 [.slice p' l' c',.int .u32 ((dr (cD ms) u.2.e).num:Int)])=((f j).ws.set i (⟨p',l',c'⟩,rQ (cD ms) u.2)).map tY:=by
   rw [fd9,am9,hwi,hu] <;> rfl
  rw [H] at s3;have sp:=s'.put C g (q:=(⟨p',l',c'⟩,rQ (cD ms) u.2)) (s2.mono (by have:=s.sec j C; exact show b<=h1.size from (by have:=(sj.out.cw (i:=a.block) (by rw [A,G]; simp [aG])); omega))) s3 O;have hw:=hY i;rw [hw];rw [A] at O;refine aD (cs:=cF) (((i+1:Nat):Int),()) (ws.length-(i+1)) (by rw [bn9 (au9 _),fc9]; rfl) ad rfl ?_;refine ⟨i+1,_,rfl,ad,rfl,sp,fun m B=>?_,?_,?_,fun m B E=>?_,(k1.trans (W.mono ai) (fun i hi _=>hi)).trans O (fun i hi _=>hi),(t.ext W).sM so2 (by rw [A]; exact O) bQ bQ⟩
  ·unfold lP;rw [ac9 B];exact so m B
  ·unfold lP;rw [af9 rfl];exact A
  ·unfold lP;rw [af9 rfl,cx9];exact sl
  ·have e1:(lP f j ⟨(f j).s,(f j).ws.set i (⟨p',l',c'⟩,rQ (cD ms) u.2)⟩ j).ws=(f j).ws.set i (⟨p',l',c'⟩,rQ (cD ms) u.2):=by
    unfold lP;rw [af9 rfl]
   simp only [e1]
   by_cases I:m=i
   ·subst I;rw [af9 ad,List.getElem_set_self,hu]
   ·have r:m<(f j).ws.length:=ad
    have:=V m B r
    rw [List.getElem_set_ne (Ne.symm I)]
    by_cases z:m<i
    ·rw [af9 z] at this;rw [af9 ad];exact this
    ·rw [ac9 z] at this;rw [ac9 ad];exact this
 ·have hi:i=ws.length:=ad
  subst hi;refine hk h1 f _ s so A ?_ k1 t;refine fp9 (by rw [ab9,ab9]; exact sl) fun m M r=>?_
  rw [ab9] at M r
  have:=V m r M
  rw [af9 r] at this;rw [am9,am9];exact this
structure rz (h:Hp) (B:Nat) (w:LW) (usl lb:bI) (sp:Int) (N M:Nat) (S:Nat->kZ):Prop where
 box:RL h (B+3) usl lb B (B+1) (B+2) sp
 maps:LM h B (B+1) (B+2) w
 qW:SL h (B+4) 157 4 lb.p lb.l lb.c (w.lb.map QH)
 un:SL h (B+4) 70 4 usl.p usl.l usl.c (nE S N)
 yc:lV h (B+4) M S
section
variable {h h':Hp} {B N M:Nat} {w:LW} {usl lb:bI} {sp:Int} {S:Nat->kZ}
def rz.nH {ws:List Nat} (s:rz h B w usl lb sp N M S) (k:Ch ws h h') (b:∀ i,i∈ws->i<B):rz h' B w usl lb sp N M S :=
 ⟨s.box.aj k (fun a=>by have:=b _ a; omega),s.maps.aj k (fun a=>by have:=b _ a; omega) (fun a=>by have:=b _ a; omega) (fun a=>by have:=b _ a; omega),
  s.qW.bF k (fun i hi a=>by have:=(s.qW.cw hi).1; have:=b _ a; omega),s.un.bF k (fun i hi a=>by have:=(s.un.cw hi).1; have:=b _ a; omega),s.yc.nH k (fun i hi=>by have:=b _ hi; omega)⟩
def rz.ext (s:rz h B w usl lb sp N M S) (k:Ext h h'):rz h' B w usl lb sp N M S:=s.nH k ai
def rz.lt (s:rz h B w usl lb sp N M S):B+4<=h.size:=by have:=s.box.lt; omega
def rz.sM {c sz:Nat} {e:TypeId} {q:Xac} {m d:Nat} {xs:List (List Xab)} (s:rz h B w usl lb sp N M S) (t:SL h c e sz q m d xs) (k:Ch (aG q) h h') (j:B+4<=c) (h1:e≠157) (h2:e≠70) (f:e≠55) (g:e≠64):rz h' B w usl lb sp N M S:=by
 have b:∀ i,i∈aG q->B+4<=i:=fun i hi=>by have:=(t.cw hi).1; omega
 exact ⟨s.box.aj k (fun a=>by have:=b _ a; omega),s.maps.aj k (fun a=>by have:=b _ a; omega) (fun a=>by have:=b _ a; omega) (fun a=>by have:=b _ a; omega),
  s.qW.bF k (fun i hi a=>wo t s.qW h1 i a hi),s.un.bF k (fun i hi a=>wo t s.un h2 i a hi),s.yc.sM t k f g⟩
def rz.ZD {S':Nat->kZ} {j:Nat} (s:rz h B w usl lb sp N M S) (d:j<M) (e:lV h' (B+4) M S') (c:∀ i,(S' i).s=(S i).s) (k:Ch (aG (S j).s.p) h h'):rz h' B w usl lb sp N M S':=by
 have t:=(s.yc.sec j d).out;have b:∀ i,i∈aG (S j).s.p->B+4<=i:=fun i hi=>(t.cw hi).1
 have f:nE S' N=nE S N:=by
  unfold nE;apply ci9;intro i _;unfold yH;rw [c,c]
 exact ⟨s.box.aj k (fun a=>by have:=b _ a; omega),s.maps.aj k (fun a=>by have:=b _ a; omega) (fun a=>by have:=b _ a; omega) (fun a=>by have:=b _ a; omega),
  s.qW.bF k (fun i hi a=>wo t s.qW bQ i a hi),by rw [f]; exact s.un.bF k (fun i hi a=>wo t s.un bQ i a hi),e⟩
end
def DX (of:Xaa->Option bJ) (S a:Nat->kZ) (m:Nat):Prop:=∀ k,(a k).s=(S k).s/\if k<m then (a k).ws.map (·.2)=(S k).ws.map (fun u=>rQ of u.2) else a k=S k
def DX.step {of:Xaa->Option bJ} {S c e:Nat->kZ} {m:Nat} (d:DX of S c m) (h1:∀ i,i≠m->e i=c i) (h2:(e m).s=(c m).s) (g:(e m).ws.map (·.2)=(c m).ws.map (fun u=>rQ of u.2)):DX of S e (m+1):=by
 intro k;obtain ⟨f,a⟩:=d k
 by_cases hk:k=m
 ·subst hk;rw [ac9 ad] at a;rw [af9 ad];exact ⟨h2.trans f,by rw [g,a]⟩
 ·rw [h1 k hk];refine ⟨f,?_⟩
  by_cases b:k<m
  ·rw [af9 b] at a;rw [af9 ad];exact a
  ·rw [ac9 b] at a;rw [ac9 ad];exact a
def We (J K:Xax) (f:Xac) (g h:Nat):T :=
    (T.af K [.slice 70] <| fun (i:Xac) (d L:Nat) =>
    T.loop [aM] [vI (0:Int)] <| fun (a:Int) =>
    bq a d
    (T.need (fI a d) <|
    T.bi i <| fun (j:Xax) =>
    T.af (j.add (aH a 4)) [.slice 55,.slice 55,.slice 116,.slice 9] <| fun (k:Xac) (l m:Nat) (n:Xac) (o p:Nat) (q:Xac) (r s:Nat) (t:Xac) (u w:Nat) =>
    T.new [aZ,aZ,aZ,aZ] 70 <| fun (c:Xax) =>
    T.ax c [.slice k l m,.slice n o p,.slice q r s,.slice t u w] <|
    T.af c [.slice 55] <| fun (x:Xac) (y z:Nat) =>
    T.af (c.add 1) [.slice 55] <| fun (A:Xac) (B C:Nat) =>
    bR (Instr.buildSlice 43 2 #[(0,.slice x y z),(1,.slice A B C)]) false [cR] <| fun (D:Xac) (e M:Nat) =>
    T.loop [aM] [vI (0:Int)] <| fun (b:Int) =>
    bq b e
     (T.need (fI b e) <|
     T.bi D <| fun (E:Xax) =>
     T.af (E.add (aH b 1)) [.slice 55] <| fun (F:Xac) (G N:Nat) =>
     Vs F G f g h 4 (T.again 3 [vI (bn (b+(1:Int)))]))
     (T.again 2 [vI (bn (a+(1:Int)))]))
    (T.ax J [vI (0:Int),vI (0:Int),bZ] <|
    T.af J [.int .i64,.int .i64,.string] <| fun (H I:Int) (Vd:Xaa) =>
    bj #[.pointer (some K),.agg #[vI H,vI I,.string Vd]]))
def Tj {J0 J1:List Xab->Hp->Prop} {h0 h:Hp} {A B N R:Nat} {usl lb:bI} {sp:Int} {S:Nat->kZ} {f g:Nat} {ms:List cT}
  (hA:h0.size<=A) (hAB:A<B) (e0:Ext h0 h) (r:br h A 77 [vI 0,vI 0,.string ⟨#[]⟩]) (s:rz h B H usl lb sp N (2*N) S) (t:M' h R U f g ms) (hN:N<=2^20)
  (ok:∀ j,j<2*N->J7 (S j).ws/\(S j).ws.length<=2^20)
  (hk:∀ h' u,Ext h0 h'->rz h' B H usl lb sp N (2*N) u->DX (cD ms) S u (2*N)->Z (.tuple #[ptr (B+3),.agg #[vI 0,vI 0,.string ⟨#[]⟩]]) h') :
  We ⟨A,0,none⟩ ⟨B+3,0,none⟩ U f g [J0,J1] Z h:=by
 unfold We bq aH bR bn fI bj aZ bZ aM cR;refine aw s.box ((usl.p,usl.l,usl.c),()) (ak ?_);have X:usl.l=N:=by have:=s.un.1; rwa [jS] at this
 rw [X];refine aQ (cs:=cF) (fun y G h'=>∃ (n:Nat) (u:Nat->kZ),y.1=(n:Int)/\n<=N/\G=N-n/\Ext h0 h'/\br h' A 77 [vI 0,vI 0,.string ⟨#[]⟩]/\rz h' B H usl lb sp N (2*N) u/\DX (cD ms) S u (2*n)/\M' h' R U f g ms) ((0:Int),()) N rfl
  ⟨0,S,rfl,ad,ad,e0,r,s,fun k=>⟨rfl,by rw [ac9 ad]⟩,t⟩ ?_
 clear s t r e0;rintro ⟨n29,⟨⟩⟩ G h1 ⟨n,z,hn,hnN,rfl,Y,r,s,d,t⟩;simp only at hn;subst hn;refine ak ?_;refine aK ?_ ?_<;>intro q
 ·have hlt:n<N:=ad
  obtain ⟨a,ha,hc⟩:=s.un.cells (i:=n) (by rw [jS]; exact hlt);rw [DM] at hc;refine bK ha ?_;rw [cr n];generalize C:(z (2*n)).s=e;generalize D:(z (2*n+1)).s=b;have hc:aF h1 (a.add (n*4)) 0 [e.v,b.v,nv.v,nv.v]:=by rw [<- C,<- D]; exact hc
  refine ar ((e.p,e.l,e.c),(b.p,b.l,b.c),(none,0,0),(none,0,0),()) hc (ak ?_);refine bm ?_;intro h2 m e2 z2;refine bP m ?_;intro h3 I k3 z3;have I:br h3 h1.size 70 [e.v,b.v,nv.v,nv.v]:=I;have M:Ext h1 h3:=bU e2 k3;refine aw I ((e.p,e.l,e.c),()) (ak ?_);rw [ay];refine aw I ((b.p,b.l,b.c),()) (ak ?_);refine nS RI Zl ad ad (Q0 e.p e.l e.c b.p b.l b.c) ?_;intro h4 b4 e4 z4;have b4:br h4 h3.size 46 [e.v,b.v]:=b4;have e14:=M.trans e4;have O:∀ k,k<2->([e.v,b.v]:List Xab).drop k=(S (2*n+k)).s.v::([e.v,b.v]:List Xab).drop (k+1):=by
   intro k hk;have h0:∀ k,(z k).s=(S k).s:=fun k=>(d k).1
   have:k=0\/k=1:=ad
   rcases this with rfl | rfl
   ·rw [<- h0]; show [e.v,b.v]=(z (2*n)).s.v::[b.v]; rw [C]
   ·rw [<- h0]; show [b.v]=(z (2*n+1)).s.v::[]; rw [D]
  have hb3:∀ j,j<2*N->h3.size∉aG (S j).s.p:=by
   intro j F V;rw [<- (d j).1] at V
   have:=((s.yc.sec j F).out.cw V).2
   have:=M.size
   omega
  refine aQ (cs:=cF) (fun y G h'=>∃ (j:Nat) (u:Nat->kZ),y.1=(j:Int)/\j<=2/\G=2-j/\Ext h0 h'/\br h' A 77 [vI 0,vI 0,.string ⟨#[]⟩]/\rz h' B H usl lb sp N (2*N) u/\DX (cD ms) S u (2*n+j)/\M' h' R U f g ms/\br h' h3.size 46 [e.v,b.v]) ((0:Int),()) 2 rfl
   ⟨0,z,rfl,ad,ad,Y.trans e14,r.aj e14 ai,s.ext e14,d,t.ext e14,b4⟩ ?_
  clear s t r d C D hc ha I;rintro ⟨n53,⟨⟩⟩ G h5 ⟨j,P,F,Q,rfl,e5,r,s,d,t,b5⟩;simp only at F;subst F;refine ak ?_;refine aK ?_ ?_<;>intro q
  ·have Q:j<2:=ad
   refine bK rfl ?_;rw [cr j,ay];have hsj:=(d (2*n+j)).1;have E:P (2*n+j)=S (2*n+j):=by
    have:=(d (2*n+j)).2
    rwa [ac9 ad] at this
   refine bC b5 (((S (2*n+j)).s.p,(S (2*n+j)).s.l,(S (2*n+j)).s.c),()) (by
    have:=O j Q
    rw [show 0+j*1=j from ad,this];rfl) ?_
   refine ak ?_;rw [<- E];have o:2*n+j<2*N:=ad
   have okj:=ok _ o;rw [<- E] at okj;have key:=fun (L:Lp) (hL:4=L.length)=>@Uq L Z h5 (B+4) (2*N) R P U f g 4 (T.again 3 [vI (IntKind.wrap .i64 ((j:Int)+(1:Int)))]) ms hL s.yc (2*n+j) o t okj.1 okj.2
   refine key _ ?_ ?_
   ·rfl
   clear key;intro h6 S3 J s6 so ss sw W sv6;have hw:=hY j;rw [hw];have hss:∀ i,(S3 i).s=(P i).s:=by
    intro i
    by_cases hi:i=2*n+j
    ·rw [hi]; exact ss
    ·rw [so i hi]
   have x:∀ i,i∈aG (P (2*n+j)).s.p->B+4<=i:=fun i hi=>((s.yc.sec _ o).out.cw hi).1
   have z0:=Y.size;refine aD (cs:=cF) (((j+1:Nat):Int),()) (2-(j+1)) rfl ad rfl ?_;refine ⟨j+1,S3,rfl,ad,rfl,Ch.trans e5 W (fun i hi hl=>by have:=x i hi; omega),r.aj W (fun V=>by have:=x _ V; omega),s.ZD o s6 hss W,d.step so ss sw,sv6,b5.aj W (by rw [E]; exact hb3 _ o)⟩
  ·have F:j=2:=ad
   subst F;have hw:=hY n;rw [hw];refine aD (cs:=cF) (((n+1:Nat):Int),()) (N-(n+1)) rfl ad rfl ?_;exact ⟨n+1,P,rfl,ad,rfl,e5,r,s,d,t⟩
 ·have hn:n=N:=ad
  subst hn;refine bP r ?_;intro h2 m k2 z2;have m:br h2 A 77 [vI 0,vI 0,.string ⟨#[]⟩]:=m;refine aw m ((0:Int),(0:Int),(⟨#[]⟩:Xaa),()) ?_;exact hk h2 z (bU Y k2) (s.nH k2 (by simp; omega)) d
def Ge (k:Ky):List Xab:=[vI (k.1:Int),.string k.2]
def WU:Tryz.prog.underlying 112=some (.slice 121):=av
def kyZ:(Tryz.prog.info? 121).map (fun i=>(i.zero,i.size,i.bytes))=some (some (.agg #[vI 0,.string ⟨#[]⟩]),2,24):=av
def VJ (n:Int) (s:Xaa):Instr.fill (fun j=>some (j*2,2)) ((Array.range (1*2)).map ((Value.agg #[vI 0,.string ⟨#[]⟩]).cells[· % (Value.agg #[vI 0,.string ⟨#[]⟩]).cells.size]!)) [(0,.agg #[vI n,.string s])]=some ([vI n,.string s]:List Xab).toArray:=av
def CQ {b x sz:Nat} {p:Xac} {l c:Nat} {xs:List (List Xab)} {ys:List Xab} (s:SL O b e sz p l c xs) (t:br O x h ys) (d:e≠h):x∉aG p:=fun f=>by
 obtain ⟨zs,a⟩:=SL.zu s x f;unfold br at a t;rw [a] at t;simp only [Option.some.injEq,Obj.cells.injEq] at t;exact d t.2.1
def Ka (rA unit:Nat) (s:Xaa):Xab:=.tuple #[.pointer none,.agg #[vI (rA:Int),vI (unit:Int),.string s]]
def BL (h h':Hp):Prop:=∀ x e xs,e≠116->e≠121->br h x e xs->br h' x e xs
def BL.ext {h' h2:Hp} (k:BL O h') (e:Ext h' h2):BL O h2:=fun x t xs h1 h2 b=>(k x t xs h1 h2 b).aj e ai
abbrev Q4:List ee:=[(false,[.pointer 0]),(false,[.slice 0]),(false,[.slice 0]),(false,[.int .i64])]
def WL (a1 a7:Xax) (c:Int) (s:Xac) (j:Nat) (t u:Xac) (w x:Nat) (y:Xac) (z A:Nat) (k:Xac->Xac->Nat->Nat->Xac->Nat->Nat->T):T :=
    T.loop [(false,[.pointer 0]),cR,cR,aM] [.pointer t,.slice u w x,.slice y z A,vI (0:Int)] <| fun (l m:Xac) (n o:Nat) (p:Xac) (q r:Nat) (d:Int) =>
    bq d j
     (T.need (fI d j) <|
     T.bi s <| fun (B:Xax) =>
     T.af (B.add (aH d 3)) [.string,.slice 64,.int .u32] <| fun (C:Xaa) (D:Xac) (E F:Nat) (G:Int) =>
     T.new [bZ,aZ,aC (0:Int)] 116 <| fun (a:Xax) =>
     T.ax a [.string C,.slice D E F,aC G] <|
     T.af (a.add 1) [.slice 64,.int .u32] <| fun (H:Xac) (I J:Nat) (K:Int) =>
     bM 34 [.pointer (some a7),vI c,.agg #[.slice H I J,aC K]] true [(true,[.slice 64,.int .u32]),(false,[.string]),ct] <| fun (L:Xac) (M N:Nat) (O:Int) (P:Xaa) (Q:Bool) =>
     T.new [aZ,aC (0:Int)] 53 <| fun (b:Xax) =>
     T.ax b [.slice L M N,aC O] <|
     cond (!Q)
     (T.ax a1 [vI (23:Int),vI c,.string P] <|
     T.af a1 [.int .i64,.int .i64,.string] <| fun (R S:Int) (U:Xaa) =>
     bj #[.pointer none,.agg #[vI R,vI S,.string U]])
     (T.af a [.string] <| fun (e:Xaa) =>
     T.af b [.slice 64,.int .u32] <| fun (f:Xac) (g h:Nat) (i:Int) =>
     bM 35 [.pointer (some a7),.agg #[vI c,.string e]] false [(false,[.string])] <| fun (Zn:Xaa) =>
     T.bh [(b,[.slice f g h,aC i]),(a,[.string e])] <|
     bR (Instr.buildSlice 67 1 #[(0,.agg #[.string Zn,.slice f g h,aC i])]) false [cR] <| fun (V:Xac) (W X:Nat) =>
     T.bh [(b,[.slice f g h,aC i]),(a,[.string e])] <|
     bR (Builtin.append_ #[67,67] 67 #[.slice m n o,.slice V W X]) false [cR] <| fun (Y:Xac) (Z l92:Nat) =>
     T.bh [(b,[.slice f g h,aC i]),(a,[.string e])] <|
     T.af a [.string] <| fun (s93:Xaa) =>
     bR (Instr.buildSlice 112 1 #[(0,.agg #[vI c,.string s93])]) false [cR] <| fun (p94:Xac) (l95 l96:Nat) =>
     bR (Builtin.append_ #[112,112] 112 #[.slice p q r,.slice p94 l95 l96]) false [cR] <| fun (p97:Xac) (l98 l99:Nat) =>
     T.again 2 [.pointer l,.slice Y Z l92,.slice p97 l98 l99,vI (bn (d+(1:Int)))]))
     (k l m n o p q r)
structure DT (h:Hp) (b:Nat) (e k:bI) (D:List (Xaa × bJ)) (ks:List Ky):Prop where
 eq:∃ ms,rT h b e.p e.l e.c ms/\ms.map fD=D
 ky:SL h b 121 2 k.p k.l k.c (ks.map Ge)
variable {i j:bI}
def DT.ext {h':Hp} {b:Nat} {D:List (Xaa × bJ)} {ks:List Ky} (s:DT O b i j D ks) (x:Ext O h'):DT h' b i j D ks:=by
 obtain ⟨⟨ms,o,a⟩,y⟩:=s;exact ⟨⟨ms,o.aj x ai,a⟩,y.aj x ai⟩
def Tx {L:Lp} {K:Xab->Hp->Prop} {h0 h:Hp} {A B N M n:Nat} {w:LW} {usl lb:bI} {sp:Int} {S:Nat->kZ} {p52:Xac} {l53:Nat} {es:List sO} {O P:bI} {D:List (Xaa × bJ)} {ks:List Ky}
  {k:Xac->Xac->Nat->Nat->Xac->Nat->Nat->T} {F:Xac}
  (hL:2=L.length) (pw:eH h0) (hA:h0.size<=A) (hAB:A<B) (e0:Ext h0 h) (ba:br h A 77 [vI 0,vI 0,.string ⟨#[]⟩]) (s:rz h B w usl lb sp N M S) (Ku:QQ w) (es0:DT h (B+4) O P D ks)
  (v:Ob.uS h0 p52 l53 es) (ge:∀ e,e∈es->Gg e.2) (hl:es.length<=2^20) (hD:D.length<=2^20) (hks:ks.length<=2^20)
  (hbad:∀ h' q,Ext h0 h'->(es.findSome? fun e=>w.bad n e.2)=some q->K (Ka 23 n q) h')
  (hk:∀ h' f g J,Ext h0 h'->br h' A 77 [vI 0,vI 0,.string ⟨#[]⟩]->rz h' B w usl lb sp N M S->DT h' (B+4) f g (D++es.map fun e=>(w.word (n,e.1),w.lin n e.2)) (ks++es.map fun e=>(n,e.1)) ->
   BL h h'->(es.findSome? fun e=>w.bad n e.2)=none->k F f.p f.l f.c g.p g.l g.c (L++[J]) K h') :
  WL ⟨A,0,none⟩ ⟨B+3,0,none⟩ (n:Int) p52 l53 F O.p O.l O.c P.p P.l P.c k L K h:=by
 unfold WL bq aH bM bR bn fI aC bj aZ bZ aM ct cR;have hl53:=v.len
 refine aQ (cs:=Q4) (fun y m' h'=>∃ (i:Nat) (f g:bI),y.1=F/\y.2.1=(f.p,f.l,f.c)/\y.2.2.1=(g.p,g.l,g.c)/\y.2.2.2.1=(i:Int)/\i<=es.length/\m'=es.length-i/\Ext h0 h'/\br h' A 77 [vI 0,vI 0,.string ⟨#[]⟩]/\rz h' B w usl lb sp N M S /\
   DT h' (B+4) f g (D++(es.take i).map fun e=>(w.word (n,e.1),w.lin n e.2)) (ks++(es.take i).map fun e=>(n,e.1))/\BL h h'/\∀ j,(d:j<i)->(V:j<es.length)->w.bad n es[j].2=none)
  (F,(O.p,O.l,O.c),(P.p,P.l,P.c),(0:Int),()) es.length rfl ⟨0,O,P,rfl,rfl,rfl,rfl,ad,ad,e0,ba,s,by simpa using es0,fun x e xs _ _ b=>b,by intro j d; omega⟩ ?_
 clear e0 ba s es0;rintro ⟨p55,⟨p56,l57,l58⟩,⟨p59,l60,l61⟩,n62,⟨⟩⟩ m' h1 ⟨i,o,G,hy1,hy2,hy3,hy4,hil,rfl,W,ba,s,X,ke,Y⟩;simp only [Prod.mk.injEq] at hy1 hy2 hy3 hy4;obtain ⟨rfl,rfl,rfl⟩:=hy2;obtain ⟨rfl,rfl,rfl⟩:=hy3;subst hy1 hy4;refine ak ?_;refine aK ?_ ?_<;>intro q
 ·have H:i<es.length:=ad
  obtain ⟨aa,pp,ll,cc,haa,hc0,va0,hsz⟩:=v.cells i H;have gxi:=ge es[i] (al9 H);have Z:es.take (i+1)=es.take i++[es[i]]:=ag9 H;have hfs:∀ q,w.bad n es[i].2=some q->(es.findSome? fun e=>w.bad n e.2)=some q:=by
   intro q hq;have hsp:es=es.take i++es[i]::es.drop (i+1):=by rw [<- aw9 H,ce9]
   have hnone:((es.take i).findSome? fun e=>w.bad n e.2)=none:=by
    rw [cw9];intro x V;obtain ⟨j,d,rfl⟩:=bg9 V;rw [az9] at d;rw [List.getElem_take];exact Y j ad ad
   generalize hz:es[i]=z at hsp hq;rw [hsp,fh9,hnone,List.findSome?_cons,hq] <;> rfl
  have hnx:w.bad n es[i].2=none->∀ j,(d:j<i+1)->(V:j<es.length)->w.bad n es[j].2=none:=by
   intro hn j d V
   by_cases hji:j=i
   ·subst hji; exact hn
   ·exact Y j ad V
  generalize es[i]=x at hc0 va0 hsz gxi Z hfs hnx;refine bK haa ?_;rw [cr i];refine ar (x.1,(pp,ll,cc),(x.2.num:Int),()) (aI W ai _ _ hc0) (ak ?_);refine bm ?_;intro h2 b2' e2 z2;refine bP b2' ?_;intro h3 b3 k3 z3;have b3:br h3 h1.size 116 [.string x.1,.slice pp ll cc,.int .u32 (x.2.num:Int)]:=b3;have u:Ext h1 h3:=bU e2 k3;have e03:=W.trans u;have s3:=s.ext u;rw [ay];refine aw b3 ((pp,ll,cc),(x.2.num:Int),()) (ak ?_);refine aE (yF (c:=cc) (pw.aj e03 ai) s3.box s3.maps Ku n (va0.aj e03).vw gxi) ?_;rintro _ h4 ⟨e4,hq⟩;have z1:=W.size;have l1:=s.lt;have q3:=b3.lt;cases hb:w.bad n x.2 with
  | some t =>
   rw [hb] at hq;subst hq;refine ⟨((none,0,0),(0:Int),t,false,()),rfl,ak ?_⟩;refine bm ?_;intro h5 b5' e5 z5;refine bP b5' ?_;intro h6 b6 k6 z6;refine bX rfl ?_;have r:Ext h4 h6:=bU e5 k6;have e16:=(u.trans e4).trans r;refine bP (ba.aj e16 ai) ?_;intro h7 b7 k7 z7;have b7:br h7 A 77 [vI 23,vI (n:Int),.string t]:=b7;refine aw b7 ((23:Int),(n:Int),t,()) ?_;exact hbad h7 t (bU (W.trans e16) k7) (hfs t hb)
  | none =>
   rw [hb] at hq;obtain ⟨Q,R,U,rfl,s7⟩:=hq;refine ⟨((Q,R,U),((w.lin n x.2).num:Int),(⟨#[]⟩:Xaa),true,()),rfl,ak ?_⟩;refine bm ?_;intro h5 b5' e5 z5;refine bP b5' ?_;intro h6 b6 k6 z6;have b6:br h6 h4.size 53 [.slice Q R U,.int .u32 ((w.lin n x.2).num:Int)]:=b6;have r:Ext h4 h6:=bU e5 k6;have e16:=(u.trans e4).trans r;refine cv rfl ?_;have b36:=b3.aj (e4.trans r) ai;refine aw b36 (x.1,()) (ak ?_);refine aw b6 ((Q,R,U),((w.lin n x.2).num:Int),()) (ak ?_);have s6:=s.ext e16;refine aE (C6 (pw.aj (W.trans e16) ai) s6.box s6.maps Ku n x.1) ?_;rintro _ h8 ⟨rfl,e8⟩;refine ⟨(w.word (n,x.1),()),rfl,ak ?_⟩;have e18:=e16.trans e8;have b68:=b6.aj e8 ai;have b38:=b36.aj e8 ai;have hst:∀ h',Ext h8 h'->T.BY h' [(⟨h4.size,0,none⟩,[.slice Q R U,.int .u32 ((w.lin n x.2).num:Int)]),(⟨h1.size,0,none⟩,[.string x.1])]:=fun h' e=>⟨(b68.aj e ai).cells _ rfl,(b38.aj e ai).cells _ rfl,trivial⟩
   refine ⟨hst h8 (Ch.refl _ _),?_⟩;obtain ⟨⟨ms,o1,hms⟩,y1⟩:=X;have o8:=o1.aj e18 ai;have y8:=y1.aj e18 ai;have hml:ms.length=D.length+i:=by
    have:=aq9 List.length hms
    rw [ab9,ae9,ab9,az9,db9 hil] at this;exact this
   have hel:o.l=ms.length:=by have:=o1.out.1; rwa [ab9] at this
   have hkl:G.l=ks.length+i:=by
    have:=y1.1
    rw [ab9,ae9,ab9,az9,db9 hil] at this;exact this
   have z18:=e18.size;have z4:=e4.size;have z46:=r.size;have z8:=e8.size;have z13:=u.size;refine gz (vs:=AS ⟨w.word (n,x.1),Q,R,U,w.lin n x.2⟩) Di MH rfl ad ad (IN _ Q R U _) rfl rfl o8.out ad ad ad hst ?_;intro p9 c9 h9 s9 I hp9;have C:∀ j,h1.size<=j->j∉aG o.p:=fun j d hm=>by have:=(o1.out.cw hm).2; omega
   have b69:=b68.aj I (C _ ad);have b39:=b38.aj I (C _ ad);refine ⟨⟨b69.cells _ rfl,b39.cells _ rfl,trivial⟩,?_⟩;have ZE:SL h8 (B+4) 64 2 Q R U ((w.lin n x.2).ah.map df):=(s7.aj (r.trans e8) ai).mono ad;have o9:rT h9 (B+4) p9 (o.l+1) c9 (ms++[⟨w.word (n,x.1),Q,R,U,w.lin n x.2⟩]):=by
    refine o8.push ZE (fun j d=>?_) (by rw [ao9]; exact s9) I (fun j d=>?_)
    ·have hj3:=(s7.cw d).1;refine ⟨fun y hy m hm=>?_,C _ ad⟩
     have:=((o1.fx y hy).cw hm).2
     omega
    ·rcases hp9 with rfl | ⟨a,rfl,ha⟩
     ·exact .inl d
     ·simp [aG] at d;subst d;exact .inr ha
   have y9:=y8.bF I (fun j d hm=>wo o8.out y8 bQ j hm d);have g9:=(s.ext e18).sM o8.out I (au9 _) bQ bQ bQ bQ;have ba8:=ba.aj e18 ai;have ba9:=ba8.aj I (CQ o8.out ba8 bQ);have z9:=I.size;have ke8:BL h h8:=ke.ext e18;have ke9:BL h h9:=fun x e xs h1 h2 b=>by
    have b8:=ke8 x e xs h1 h2 b;exact b8.aj I (CQ o8.out b8 (Ne.symm h1))
   have e09:Ext h0 h9:=Ch.trans (W.trans e18) I (fun j d hl=>by have:=(o8.out.cw d).1; omega);refine aw b39 (x.1,()) (ak ?_);refine fg (vs:=Ge (n,x.1)) WU kyZ rfl ad ad (VJ _ _) rfl rfl y9 ad ad ad ?_;intro p10 c10 h10 s10 E hp10;have hw:=hY i;rw [hw];refine aD (cs:=Q4) (p55,(p9,o.l+1,c9),(p10,G.l+1,c10),((i+1:Nat):Int),()) (es.length-(i+1)) (by rw [bn9 ad,<- hL,fc9]; rfl) ad rfl ?_;refine ⟨i+1,⟨p9,o.l+1,c9⟩,⟨p10,G.l+1,c10⟩,rfl,rfl,rfl,rfl,ad,rfl,Ch.trans e09 E (fun j d hl=>by have:=(y9.cw d).1; omega),ba9.aj E (CQ y9 ba9 bQ),
    g9.sM y9 E (au9 _) bQ bQ bQ bQ,⟨⟨_,o9.sM y9 E bQ bQ,?_⟩,?_⟩,?_,hnx hb⟩
   ·rw [Z,ao9,hms,ao9,<- bb9] <;> rfl
   ·have he:(ks++(es.take (i+1)).map fun e=>(n,e.1)).map Ge=(ks++(es.take i).map fun e=>(n,e.1)).map Ge++[Ge (n,x.1)]:=by
     rw [Z]
     simp
    rw [he];exact s10
   ·intro x e xs h1 h2 b;have b9:=ke9 x e xs h1 h2 b;exact b9.aj E (CQ y9 b9 (Ne.symm h2))
 ·have hi:i=es.length:=ad
  subst hi;rw [bw9 (au9 _)] at X;refine hk h1 o G _ W ba s X ke ?_;rw [cw9];intro x V;obtain ⟨j,d,rfl⟩:=bg9 V;exact Y j d d
end Go.Sx.Lk
