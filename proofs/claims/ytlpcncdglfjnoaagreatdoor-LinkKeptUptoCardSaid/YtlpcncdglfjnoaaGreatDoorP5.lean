/- Contracts over heaps, part 5. Condition: as each statement says. -/
import Derived.Test.YtlpcncdglfjnoaaGreatDoorP4
import Derived.Test.YtlpcncdglfjnoaaGreatDoorBtH
import Derived.Test.YtlpcncdglfjnoaaGreatDoorSxZ
import Derived.RangeFuncNested
import Derived.RangeFuncBound
import Derived.RangeFuncCalls
import Derived.RangeFuncLeaves
import Derived.Shelf.Abstract
import Derived.Shelf.RegionOpen
import Derived.OwnWalkIn
import Derived.TacticsInMore
import Derived.LoopNIn
import Derived.LoopIn
set_option linter.all false
set_option maxRecDepth 100000
set_option maxHeartbeats 4000000
namespace Go.Sx.Lk
open Go.Proofs Go.Sx.Ob
variable {es:List cX} {ga:Nat}
theorem yH (s:Xaa) (n:Nat):∀ (us:List bU) (m:Nat),(n,s)∈(cy m us).map Bs↔∃ u,m<=n/\us[n-m]?=some u/\(s∈eO u.text\/s∈eO u.data)
 | [],m=>by simp [cy]
 | u::us,m=>by
  rw [cy,Za,Zb,yH s n us (m+1)];unfold G4;rw [Za,xP,xP,Zb,Y9,Y9];constructor
  ·rintro ((⟨x,b,c⟩ | ⟨x,b,c⟩) | ⟨v,h1,h2,a⟩)
   ·cases c;exact ⟨u,Zc _,aj,.inl b⟩
   ·cases c;exact ⟨u,Zc _,aj,.inr b⟩
   ·refine ⟨v,ad,?_,a⟩;rw [show n-m=(n-(m+1))+1 from ad];exact h2
  ·rintro ⟨v,h1,h2,a⟩
   by_cases e:n=m
   ·subst e;rw [cd9] at h2;cases h2;rcases a with a | a
    ·exact .inl (.inl ⟨s,a,rfl⟩)
    ·exact .inl (.inr ⟨s,a,rfl⟩)
   ·refine .inr ⟨v,ad,?_,a⟩;rw [show n-m=(n-(m+1))+1 from ad] at h2;exact h2
theorem AT (s:Xaa) (n:Nat):∀ (us:List bU) (m:Nat),(n,s)∈(eR m us).map kn↔∃ u,m<=n/\us[n-m]?=some u/\s∈u.bf.map (·.1)
 | [],m=>by simp [eR]
 | u::us,m=>by
  rw [eR,Za,Zb,AT s n us (m+1),Zs];constructor
  ·rintro (h | ⟨v,h1,h2,a⟩)
   ·obtain ⟨e,c,b⟩:=Y9.1 h;cases b;exact ⟨u,Zc _,aj,Y9.2 ⟨e,c,rfl⟩⟩
   ·refine ⟨v,ad,?_,a⟩;rw [show n-m=(n-(m+1))+1 from ad];exact h2
  ·rintro ⟨v,h1,h2,a⟩
   by_cases e:n=m
   ·subst e;rw [cd9] at h2;cases h2;obtain ⟨x,d,rfl⟩:=Y9.1 a;exact .inl (Y9.2 ⟨x,d,rfl⟩)
   ·refine .inr ⟨v,ad,?_,a⟩;rw [show n-m=(n-(m+1))+1 from ad] at h2;exact h2
def zq (l:List Ky) (k:Ky):(oB l k).isSome=true↔k∈l:=by
 constructor
 ·intro h;apply br9;intro hk;rw [pL.2 hk] at h;cases h
 ·intro h;obtain ⟨i,hi⟩:=B8 h;rw [hi] <;> rfl
variable {O:LW}
def Rq {us:List bU} (i0:WI O (cy 0 us) ((eR 0 us).map kn)) {n:Nat} {u:bU} (a:us[n]?=some u) (s:Xaa):O.has (n,s)=true↔s∈fW u:=by
 unfold LW.has;rw [i0.num,i0.uV,Bool.or_eq_true,zq,zq,yH,AT];unfold fW;rw [Zb,Zb];simp only [Nat.sub_zero,Nat.zero_le,true_and];constructor
 ·rintro (⟨v,hv,h⟩ | ⟨v,hv,h⟩)
  ·rw [a] at hv; cases hv; exact .inl h
  ·rw [a] at hv; cases hv; exact .inr h
 ·rintro (h | h)
  ·exact .inl ⟨u,a,h⟩
  ·exact .inr ⟨u,a,h⟩
def Np {us:List bU} (i0:WI O (cy 0 us) ((eR 0 us).map kn)) (a:∀ s,O.gl s=QN us s) {n:Nat} (hn:n<us.length) (s:Xaa):O.own n s=(jX us n s).map fun o=>(o,s):=by
 have hu:=YZ hn;have h1:=Rq i0 hu s;have h2:gz (fW us[n]) s=true↔s∈fW us[n]:=by
  unfold gz;rw [ay9];constructor
  ·rintro ⟨x,b,c⟩;rw [<- Y3 c]; exact b
  ·intro h;exact ⟨s,h,Y4 rfl⟩
 unfold LW.own jX;rw [hu,bt9,a s]
 by_cases h:s∈fW us[n]
 ·rw [Y8 (h1.2 h),Y8 (by rw [h2.2 h])] <;> rfl
 ·rw [Y1 fun x=>h (h1.1 x),Y1 fun x=>h (h2.1 (Zl x))] <;> rfl
theorem Dr (n sec:Nat) (x:cH):∀ (l:List cH) (i:Nat),qV n sec i (l++[x])=qV n sec i l++if x.kind=1 then [⟨n,sec,i+l.length,x.name⟩] else []
 | [],i=>by simp [qV]
 | y::l,i=>by
  simp only [List.cons_append,qV,List.length_cons];rw [Dr n sec x l (i+1),show i+1+l.length=i+(l.length+1) from ad,Zp]
structure Ff (h:Hp) (g:Nat) (su lb st sd:cd) (L:List Lb):Prop where
 box:bF h g 70 [su.v,lb.v,st.v,sd.v]
 qu:SL h (g+1) 82 4 lb.p lb.l lb.c (L.map nS)
def Ff.ai {h h':Hp} {g:Nat} {su lb st sd:cd} {L:List Lb} (s:Ff h g su lb st sd L) (e:Ext h h'):Ff h' g su lb st sd L:=⟨s.box.ai e aj,s.qu.br e aj⟩
def UP:Tryz.prog.underlying 67=some (.slice 82):=aw
def WO:(Tryz.prog.info? 82).map (fun i=>(i.zero,i.size,i.bytes))=some (some (.agg #[vI 0,vI 0,vI 0,.string ⟨#[]⟩]),4,40):=aw
variable {H:Hp} {I a:Xac}
def Fp {h0:Hp} {g:Nat} {su lb st sd:cd} {L:List Lb} (Q:h0.size<=g) (e0:Ext h0 H) (s:Ff H g su lb st sd L) {l c:Nat} {b:List cH} (v:zV h0 I l b) (R:L.length+b.length<=2^40) (n sec:Nat) :
  HC Xaz 61 #[.pointer (some ⟨g,0,none⟩),vI (n:Int),vI (sec:Int),.slice I l c] H fun w h'=>w=.tuple #[]/\Ext h0 h'/\H.size<=h'.size/\∃ m,Ff h' g su m st sd (L++qV n sec 0 b):=by
 refine bi (args:=[.pointer (some ⟨g,0,none⟩),vI (n:Int),vI (sec:Int),.slice I l c]) mixed Tryz.func61 aw (jh (some ⟨g,0,none⟩) n sec I l c) ?_;unfold fC aY bj bn ay aT bK aK;have hll:=v.len;refine aU (cs:=cn) (fun y k h'=>∃ (i:Nat) (m:cd),y.1=(i:Int)/\k=b.length-i/\i<=b.length/\Ext h0 h'/\H.size<=h'.size/\Ff h' g su m st sd (L++qV n sec 0 (b.take i))) ((0:Int),()) b.length rfl
  ⟨0,lb,rfl,rfl,ad,e0,Zc _,by simpa [qV] using s⟩ ?_
 rintro ⟨S,⟨⟩⟩ k h1 ⟨i,d,hi,rfl,M,u,z1,f⟩;simp only at hi;subst hi;refine ak ?_;have hw:=iC i;refine aP ?_ ?_<;>intro q
 ·have A:i<b.length:=ad
  have C:b.take (i+1)=b.take i++[b[i]]:=Y2 A;have hsn:=Dr n sec b[i] (b.take i) 0;rw [<- C,Zi,ZQ ad,ZH] at hsn;obtain ⟨a,pp,U,V,rfl,hc,_⟩:=v.cells i A;generalize b[i]=x at hc hsn;refine bP rfl ?_;rw [cB i];refine av (x.kind,()) ⟨(aX u aj _ _ hc).1,trivial⟩ (ak ?_);refine ao ?_ ?_<;>intro r
  ·have r:x.kind=1:=by simpa using r
   rw [Y8 r] at hsn;refine aH rfl ?_;rw [aC];refine az f.box ((d.p,d.l,d.c),()) (ak ?_);have o:∀ {h':Hp},Ext h0 h'->aI h' ((a.add (i*10)).add 1) 0 [.string x.name]:=fun e=>⟨by rw [add_add]; exact (aX e aj _ _ hc).2.1,trivial⟩
   refine bP rfl ?_;refine av (x.name,()) (o u) (ak ?_);have D:d.l=(L++qV n sec 0 (b.take i)).length:=by have:=f.qu.1; rwa [YY] at this
   have hla:=sR n sec (b.take i) 0;rw [Y0] at D;rw [Zi] at hla;have hgs:=f.box.lt;refine gn (vs:=nS ⟨n,sec,i,x.name⟩) UP WO rfl ad ad (NL _ _ _ _) rfl rfl f.qu ad ad ad (fun h' e=>⟨o (u.trans e),(f.box.ai e aj).cells _ rfl,trivial⟩) ?_;intro p' c' h2 G E N;have B:∀ j,j∈aF d.p->h0.size<=j/\g<j:=fun j t=>by have:=(f.qu.cj t).1; omega
   have J:Ext h0 h2:=Ch.trans u E (fun j t hl=>by have:=B j t; omega);have b2:=f.box.ai E (fun t=>by have:=B _ t; omega);have z2:=E.size;refine ⟨⟨o J,trivial⟩,aH rfl ?_⟩;rw [aC];refine bQ b2 ?_;intro h3 F K z3;have F:bF h3 g 70 [su.v,(⟨p',d.l+1,c'⟩:cd).v,st.v,sd.v]:=F;have O:Ext h0 h3:=bZ J K;refine aG (cs:=cn) (((i+1:Nat):Int),()) (b.length-(i+1)) rfl ad (Zg (fun z=>[Value.int .i64 z]) hw) ⟨i+1,⟨p',d.l+1,c'⟩,rfl,rfl,ad,O,ad,F,?_⟩;rw [hsn,<- Zp,Za];exact G.br K (fun j t P=>by have:=(G.cj t).1; simp at P; omega)
  ·have r:¬ x.kind=1:=by simpa using r
   rw [Y1 r,Z2] at hsn;refine aG (cs:=cn) (((i+1:Nat):Int),()) (b.length-(i+1)) rfl ad (Zg (fun z=>[Value.int .i64 z]) hw) ⟨i+1,d,rfl,rfl,ad,u,z1,by rw [hsn]; exact f⟩
 ·have:i=b.length:=ad
  subst this;rw [ZA] at f;exact ⟨rfl,u,z1,d,f⟩
def HL (u:Nat):Lib.nDigits u<=u+1:=by
 induction u using Nat.strongRecOn with
 | _ u a =>
  rw [Lib.nDigits];split
  ·omega
  ·have:=a (u / 10) ad
   omega
def C' (n:Nat):(gQ n).size<=n+1:=by
 have:(gQ n).size=(Lib.decDigits n).length:=rfl
 rw [this,Lib.decDigits_length];exact HL n
def Vf (L:List Lb) (o:Nat) (s:Xaa):Option Nat:=L.findIdx? fun x=>decide (x.u=o) && decide (x.n=s)
def y7 (L:List Lb) (o:Nat) (s:Xaa):Xaa:=match Vf L o s with
 | some i=>⟨#[76]⟩++gQ i
 | none=>((⟨#[69]⟩++gQ o)++⟨#[95]⟩)++s
def dQ (us:List bU) (L:List Lb) (n:Nat) (s:Xaa):Xaa:=y7 L ((jX us n s).getD 0) s
variable {U:Xaa}
def SW {us:List bU} {n o:Nat} (h:jX us n U=some o):o<us.length:=by
 unfold jX at h;split at h
 ·rename_i a;cases h;cases b:us[n]? with
  | none=>rw [b] at a; cases a
  | some u=>exact (Zn.1 b).1
 ·rw [Zr] at h;exact h.1
def Uk {L:List Lb} {o i:Nat} (hi:i<L.length) (h:∀ j,(a:j<i)->¬ ((L[j]'ad).u=o/\(L[j]'ad).n=U)) (h1:L[i].u=o) (h2:L[i].n=U):Vf L o U=some i:=by
 unfold Vf;rw [Zr];refine ⟨hi,by simp [h1,h2],fun j a=>?_⟩
 have:=h j a
 simpa using this
def My {L:List Lb} {o:Nat} (h:∀ j,(a:j<L.length)->¬ (L[j].u=o/\L[j].n=U)):Vf L o U=none:=by
 unfold Vf;rw [ZJ];intro x b;obtain ⟨j,a,rfl⟩:=Zt b
 have:=h j a
 simpa using this
def JT {g:Nat} {su lb st sd:cd} {L:List Lb} (s:Ff H g su lb st sd L) {us:List bU} (v:wh H su.p su.l us) (sz:Ml us) {n:Nat} (hn:n<us.length) (N:L.length<=2^40) {a:Xaa} {o:Nat} (A:jX us n a=some o) (O:a.size<=2^60) :
  HC Xaz 62 #[.pointer (some ⟨g,0,none⟩),vI (n:Int),.string a] H fun w h'=>w=.string (dQ us L n a)/\Ext H h':=by
 refine bi (args:=[.pointer (some ⟨g,0,none⟩),vI (n:Int),.string a]) mixed Tryz.func62 aw (jz (some ⟨g,0,none⟩) n a) ?_;unfold fH aY bj bn ay dl jE cm aK;have hol:=SW A;have hmany:=sz.many;refine aH rfl ?_;refine az s.box ((su.p,su.l,su.c),()) (ak ?_);refine aJ (Gg (c:=su.c) v sz hn a) ?_;rintro _ h1 ⟨rfl,B⟩;rw [A];refine ⟨((o:Int),()),rfl,ak ?_⟩;have s1:=s.ai B;have C:dQ us L n a=y7 L o a:=by unfold dQ; rw [A]; rfl
 rw [C];have I:lb.l=L.length:=by have:=s.qu.1; rwa [YY] at this
 refine aU (cs:=FK) (fun y k h'=>∃ i:Nat,y.2.1=(i:Int)/\k=L.length-i/\i<=L.length/\h'=h1/\∀ j,j<i->(d:j<L.length)->¬ (L[j].u=o/\L[j].n=a)) ((⟨#[]⟩:Xaa),(0:Int),()) L.length rfl
  ⟨0,rfl,rfl,ad,rfl,fun j d=>absurd d ad⟩ ?_
 rintro ⟨D,P,⟨⟩⟩ k h2 ⟨i,hi,rfl,J,rfl,f⟩;simp only at hi;subst hi;refine ak ?_;have hw:=iC i;refine aH rfl ?_;rw [aC];refine az s1.box ((lb.p,lb.l,lb.c),()) (ak ?_);refine aP ?_ ?_<;>intro q
 ·have m:i<L.length:=ad
  refine aH rfl ?_;rw [aC];refine az s1.box ((lb.p,lb.l,lb.c),()) (ak ?_);obtain ⟨Q,x,hc⟩:=SL.cells s1.qu (i:=i) (by rw [YY]; exact m);rw [Y7] at hc;refine bP x ?_;rw [cB i];refine av ((L[i].u:Int),()) ⟨hc.1,trivial⟩ (ak ?_);have b:¬ (L[i].u=o/\L[i].n=a)->T.again 0 [.string D,vI (IntKind.wrap .i64 ((i:Int)+1))] [Jl (fun (y:qX (flat [(false,[TypeDesc.string]),(false,[TypeDesc.int .i64])])) k h'=>∃ i:Nat,y.2.1=(i:Int)/\k=L.length-i/\i<=L.length/\h'=h2/\∀ j,j<i->(d:j<L.length)->¬ (L[j].u=o/\L[j].n=a)) (L.length-i)] (fun w h'=>w=.string (y7 L o a)/\Ext H h') h2:=by
   intro E;refine aG (cs:=FK) (D,((i+1:Nat):Int),()) (L.length-(i+1)) rfl ad (Zg (fun z=>[Value.string D,Value.int .i64 z]) hw) ⟨i+1,rfl,rfl,ad,rfl,fun j d K=>?_⟩
   by_cases e:j=i
   ·subst e; exact E
   ·exact f j ad K
  refine ao ?_ ?_<;>intro r
  ·have r:L[i].u=o:=by
    have:((L[i].u:Nat):Int)=(o:Int):=by simpa using r
    omega
   refine aH rfl ?_;rw [aC];refine az s1.box ((lb.p,lb.l,lb.c),()) (ak ?_);refine bP x ?_;refine av (L[i].n,()) ⟨by rw [add_add]; exact hc.2.2.2.1,trivial⟩ ?_;refine ak ?_;rw [oL];refine aP ?_ ?_<;>intro t
   ·refine aJ (yx (n:=i) ad) ?_;rintro _ M ⟨rfl,F⟩;refine ⟨(gQ i,()),rfl,ak ?_⟩
    have:=C' i
    refine dA ad ?_;refine ⟨?_,B.trans F⟩;unfold y7;rw [Uk m (fun j d=>f j d ad) r t]
   ·exact b fun G=>t G.2
  ·refine b fun G=>?_
   rw [G.1] at r;simp at r
 ·have:i=L.length:=ad
  subst this;refine aJ (yx (n:=o) ad) ?_;rintro _ M ⟨rfl,F⟩;refine ⟨(gQ o,()),rfl,ak ?_⟩;have hd:=C' o;have h1:(⟨#[69]⟩++gQ o:Xaa).size=1+(gQ o).size:=be9 ..;have h2:((⟨#[69]⟩++gQ o)++⟨#[95]⟩:Xaa).size=(⟨#[69]⟩++gQ o:Xaa).size+1:=be9 ..;refine dA ad (dA (by rw [h1]; omega) (dA (by rw [h2,h1]; omega) ?_));refine ⟨?_,B.trans F⟩;unfold y7;rw [My fun j d=>f j d d]
def vU (f:Xaa->Xaa) (s:Xaa):Option cE:=some (mK (f s))
def ji (us:List bU) (L:List Lb) (n:Nat) (x:cE):cE:=dC (vU (dQ us L n)) x
def SB (s:Xaa):Nf (mK s).ah:=⟨by simp [mK],by simp [mK]⟩
def Kk {f:Xaa->Xaa}:∀ s y,vU f s=some y->Nf y.ah:=by
 intro s y a;cases a;exact SB _
def UM (f:Xaa->Xaa) {t:Xaa × Nat} (h:t.2≠0/\t.2<4294967296):Jd (vU f) t=⟨[(f t.1,t.2)],0⟩:=by
 unfold Jd vU DM mK fO;simp only [List.filterMap_cons,List.filterMap_nil,Nat.one_mul,Nat.zero_mul,Nat.zero_mod];rw [bm9 h.2,Y1 h.1]
variable {V:cE}
def FW {g:Nat} {su lb st sd:cd} {L:List Lb} (s:Ff H g su lb st sd L) {us:List bU} (v:wh H su.p su.l us) (sz:Ml us) {n:Nat} (hn:n<us.length) (hL:L.length<=2^40) {m d:Nat} (u:ik H I m V.ah)
  (W:Nf V.ah) (M:V.num<4294967296) (hlx:V.ah.length<=2^30) (ho:∀ t,t∈V.ah->∃ o,jX us n t.1=some o) (hs:∀ t,t∈V.ah->t.1.size<=2^60) :
  HC Xaz 63 #[.pointer (some ⟨g,0,none⟩),vI (n:Int),gF I m d V] H fun w h'=>Ext H h'/\∃ p' l' c',w=gF p' l' c' (ji us L n V)/\SL h' H.size 66 2 p' l' c' ((ji us L n V).ah.map dh):=by
 refine bi (args:=[.pointer (some ⟨g,0,none⟩),vI (n:Int),.agg #[.slice I m d,.int .u32 V.num]]) mixed Tryz.func63 aw (jg (some ⟨g,0,none⟩) n I m d V.num) ?_;unfold fz aY bj bn ay jE bz aT ax aS aK;have hmm:=u.len;refine bG ?_;intro h1 b1 e1 z1;refine bG ?_;intro h2 b2 e2 z2;have b1:=b1.ai e2 aj;rw [aC];refine az b1 ((V.num:Int),()) (ak ?_);refine bG ?_;intro h3 b3 e3 z3;refine bQ b3 ?_;intro h4 Q k4 z4;have Q:bF h4 h2.size 60 [.slice none 0 0,.int .u32 (V.num:Int)]:=Q;have B:Ext h2 h4:=bZ e3 k4;have b1:=b1.ai B aj;have b2:=b2.ai B aj;have e04:=(e1.trans e2).trans B;have hb4:=Q.lt;have hz04:=e04.size;refine aU (cs:=cn) (fun y w h'=>∃ (i:Nat) (I:Xac) (m d:Nat),y.1=(i:Int)/\i<=V.ah.length/\w=V.ah.length-i/\Ch [h2.size] h4 h'/\bF h' h2.size 60 [.slice I m d,.int .u32 (((V.ah.take i).foldl (gy (vU (dQ us L n))) ⟨[],V.num⟩).num:Int)] /\
  SL h' h4.size 66 2 I m d (((V.ah.take i).foldl (gy (vU (dQ us L n))) ⟨[],V.num⟩).ah.map dh)) ((0:Int),()) V.ah.length rfl ⟨0,none,0,0,rfl,ad,ad,Ch.refl _ _,Q,SL.nil _ _ _ _⟩ ?_
 rintro ⟨n8,⟨⟩⟩ w h5 ⟨i,D,E,F,hi,hile,rfl,N,G,J⟩;simp only at hi;subst hi;refine ak ?_;have b15:=b1.ai N (by simp; omega);have hz5:=N.size;have f:Ext H h5:=bZ e04 N;have u5:=u.ai f aj;refine az b15 ((I,m,d),()) (ak ?_);have hw:=iC i;have hacc:=Cz (of:=vU (dQ us L n)) Kk W M i;have X:((V.ah.take i).foldl (gy (vU (dQ us L n))) ⟨[],V.num⟩).ah.length<=V.ah.length:=by
  rw [hacc]
  have:=AV (ft (vU (dQ us L n)) ⟨V.ah.take i,V.num⟩) (S:=V.ah.map fun t=>dQ us L n t.1) (fun t ht=>by
   obtain ⟨u',Y,H | ⟨y,w,hy,hw,he⟩⟩:=AU ht
   ·cases H.1
   ·cases hy;simp [mK] at hw;subst hw;rw [<- he];exact Y9.2 ⟨u',Z0 Y,rfl⟩)
  rwa [YY] at this
 refine aP ?_ ?_<;>intro g1
 ·have b:i<V.ah.length:=ad
  have c:(V.ah.take (i+1)).foldl (gy (vU (dQ us L n))) ⟨[],V.num⟩=gy (vU (dQ us L n)) ((V.ah.take i).foldl (gy (vU (dQ us L n))) ⟨[],V.num⟩) V.ah[i]:=by
   rw [Y2 b,ZW] <;> rfl
  obtain ⟨a,rfl,hc⟩:=u5.cells i b;have htm:=Y5 b;generalize V.ah[i]=t at hc c htm;generalize hA:(V.ah.take i).foldl (gy (vU (dQ us L n))) ⟨[],V.num⟩=A at G J X c hacc;obtain ⟨c1,c2⟩:=dk hc;obtain ⟨o,Z⟩:=ho t htm;refine az G ((D,E,F),(A.num:Int),()) (ak ?_);refine az b15 ((some a,m,d),()) (ak ?_);refine bP rfl ?_;rw [cB i];refine av (t.1,()) c1 (ak ?_);refine az b15 ((some a,m,d),()) (ak ?_);refine bP rfl ?_;refine av ((t.2:Int),()) c2 (ak ?_);refine aJ (JT (s.ai f) (v.ai f) sz hn hL Z (hs t htm)) ?_;rintro _ h6 ⟨rfl,e6⟩;refine ⟨(dQ us L n t.1,()),rfl,ak ?_⟩;have C:∀ {h':Hp},Ext h5 h'->aI h' (a.add (i*2)) 0 [.string t.1]/\aI h' ((a.add (i*2)).add 1) 0 [.int .u32 (t.2:Int)]/\aI h' ⟨H.size,0,none⟩ 0 [.slice (some a) m d]/\aI h' ⟨h2.size,0,none⟩ 0 [.slice D E F,.int .u32 (A.num:Int)]:=fun e =>
   ⟨aX e aj _ _ c1,aX e aj _ _ c2,(b15.ai e aj).cells _ rfl,(G.ai e aj).cells _ rfl⟩
  obtain ⟨R,O,r,U⟩:=C e6;refine ⟨⟨O,r,r,U,trivial⟩,?_⟩;refine mF Ir rp ad ad (Ig _ _) ?_;intro h7 K e7 z7;obtain ⟨R,O,r,U⟩:=C (e6.trans e7);refine ⟨⟨O,r,R,r,U,trivial⟩,?_⟩;have e57:=e6.trans e7;have z57:=e57.size;refine aJ (F9 (x:=A) (y:=⟨[(dQ us L n t.1,t.2)],0⟩) (d:=1) (J.br e57 aj).Qk (Wn K) (fun j k=>by have:=(J.cj k).2; omega) (fun j k=>by simp [aF] at k; have:=K.lt; omega) (by show A.ah.length+1<=_; omega)) ?_;rintro _ h8 ⟨e8,p',l',c',rfl,s8⟩;refine ⟨((p',l',c'),((yP A ⟨[(dQ us L n t.1,t.2)],0⟩).num:Int),()),rfl,ak ?_⟩;have e58:=e57.trans e8;obtain ⟨R,O,r,U⟩:=C e58;refine ⟨⟨O,r,R,r,trivial⟩,?_⟩;refine bQ (G.ai e58 aj) ?_;intro h9 b9 k9 z9;have b9:bF h9 h2.size 60 [.slice p' l' c',.int .u32 ((yP A ⟨[(dQ us L n t.1,t.2)],0⟩).num:Int)]:=b9;have P:gy (vU (dQ us L n)) A t=yP A ⟨[(dQ us L n t.1,t.2)],0⟩:=by
   unfold gy;rw [UM _ (W.2 t htm)]
  rw [P] at c;refine aG (cs:=cn) (((i+1:Nat):Int),()) (V.ah.length-(i+1)) rfl ad (Zg (fun z=>[Value.int .i64 z]) hw) ⟨i+1,p',l',c',rfl,ad,rfl,Ch.trans (Ch.trans N e58 aj) k9 (fun j k _=>k),by rw [c]; exact b9,?_⟩;rw [c];exact (s8.br k9 (fun j k=>by have:=(s8.cj k).1; simp; omega)).mono ad
 ·have hi:i=V.ah.length:=ad
  subst hi;rw [ZA,EY Kk W M] at G J;refine az G ((D,E,F),((ji us L n V).num:Int),()) (ak ?_);refine bQ (b2.ai N (by simp; omega)) ?_;intro h7 K k7 z7;have K:bF h7 h1.size 60 [.slice D E F,.int .u32 ((ji us L n V).num:Int)]:=K;refine az K ((D,E,F),((ji us L n V).num:Int),()) ?_;exact ⟨bZ f k7,D,E,F,rfl,(J.br k7 (fun j k=>by have:=(J.cj k).1; simp; omega)).mono ad⟩
structure PN (us:List bU) (n:Nat) (x:cE):Prop where
 nf:Nf x.ah
 num:x.num<4294967296
 len:x.ah.length<=2^30
 own:∀ t,t∈x.ah->∃ o,jX us n t.1=some o
 sz:∀ t,t∈x.ah->t.1.size<=2^60
def KD (us:List bU) (L:List Lb) (n:Nat) (x:cE):Nf (ji us L n x).ah:=ft _ _
def FN {us:List bU} {L:List Lb} {n:Nat} (h:V.num<4294967296):(ji us L n V).num<4294967296:=uj _ _ _ h
def Gr {us:List bU} {L:List Lb} {n:Nat} {t:Xaa × Nat} (c:t∈(ji us L n V).ah):∃ u,u∈V.ah/\t.1=dQ us L n u.1:=by
 obtain ⟨d,a,h | ⟨y,w,e,b,f⟩⟩:=AU c
 ·cases h.1
 ·cases e;simp [mK] at b;subst b;exact ⟨d,a,f.symm⟩
def x7 (us:List bU) (L:List Lb) (es:List cX) (n:Nat) (x:cH):cH:={ x with e:=dC (cF es) (ji us L n x.e) }
structure XH (h0 h':Hp) (p:Xac) (l c:Nat) (ws:List (cd × cH)):Prop where
 out:SL h' h0.size 64 10 p l c (ws.map oc)
 fI:∀ w,w∈ws->ik h' w.1.p w.1.l w.2.e.ah
 low:∀ w,w∈ws->w.2.e.ah≠[]->∀ i,i∈aF w.1.p->i<h'.size/\i∉aF p
def KT {a:Xax} {v:Xab} (hc:jj H a=some v):a.block<H.size:=by
 unfold jj at hc;cases b:H[a.block]? with
 | none=>simp [b] at hc
 | some o=>exact fF b
def QM {l:Nat} {us:dz} (v:ik H I l us) (h0:us≠[]):∀ i,i∈aF I->i<H.size:=by
 intro i hi;cases us with
 | nil=>exact absurd rfl h0
 | cons u us =>
  obtain ⟨a,rfl,hc⟩:=v.cells 0 aj
  have:i=a.block:=by simpa [aF] using hi
  subst this
  have:=KT hc.1
  rwa [fv,fv] at this
def K7 {ws:List Nat} {h':Hp} {l:Nat} {us:dz} (v:ik H I l us) (k:Ch ws H h') (a:us≠[]->∀ i,i∈aF I->i∉ws):ik h' I l us:=by
 by_cases h0:us=[]
 ·subst h0;exact ⟨v.len,fun i hi=>absurd hi aj⟩
 ·exact v.ai k (a h0)
def Du {g:Nat} {su lb st sd:cd} {L:List Lb} (s:Ff H g su lb st sd L) {us:List bU} (v:wh H su.p su.l us) (sz:Ml us) {n:Nat} (hn:n<us.length) (hL:L.length<=2^40) {l c:Nat} {u:List cH} (vi:zV H I l u)
  (hxl:u.length<=2^20) (hxs:∀ x,x∈u->PN us n x.e)
  {m d:Nat} (ve:rW H a m es) (hb:∀ e,e∈es->∀ i,i∈aF e.p->i<H.size) (hm:es.length<=2^40) {S:List Xaa} (hS:S.length<=2^30) (V:∀ e,e∈es->uB S e.x) (hSw:∀ x,x∈u->∀ t,t∈x.e.ah->dQ us L n t.1∈S) :
  HC Xaz 65 #[.pointer (some ⟨g,0,none⟩),vI (n:Int),.slice I l c,.slice a m d] H fun w h'=>Ext H h'/\∃ p' l' c' ws,w=.slice p' l' c'/\Ak h' H.size p' l' c' ws/\ws.map (·.2)=u.map (x7 us L es n):=by
 refine bi (args:=[.pointer (some ⟨g,0,none⟩),vI (n:Int),.slice I l c,.slice a m d]) mixed Tryz.func65 aw (iN (some ⟨g,0,none⟩) n I l c a m d) ?_;unfold fl aY bj bn ay bz aT ax aK;obtain ⟨R,W,vd,hit⟩:=Eh vi;have hl0:R.length=u.length:=by rw [<- W,YY]
 have hll:=vd.len;refine nt (e:=64) (z:=.agg iz.toArray) (sz:=10) (by':=104) yS CM rfl vd.src (by simpa using hll) (pJ R) (qo R) ad ad ?_;intro p1 c1 h1 s1 e1;have C:∀ w,w∈R->w.2.e.ah≠[]->∀ i,i∈aF w.1.p->i<H.size:=fun w F h0=>QM (hit w F).lin.vw h0
 refine aU (cs:=cn) (fun y k h'=>∃ (i:Nat) (ws:List (cd × cH)),y.1=(i:Int)/\k=u.length-i/\i<=u.length/\Ext H h'/\XH H h' p1 l c1 ws/\ws.length=u.length/\(∀ j w,j<i->ws[j]?=some w->SL h' H.size 66 2 w.1.p w.1.l w.1.c (w.2.e.ah.map dh))/\∀ j x w,u[j]?=some x->ws[j]?=some w->w.2=if j<i then x7 us L es n x else x) ((0:Int),()) u.length rfl
  ⟨0,R,rfl,rfl,ad,e1,⟨s1,fun w F=>(hit w F).lin.vw.ai e1 aj,fun w F h0 i hi=>⟨by have:=C w F h0 i hi; have:=e1.size; omega,fun X=>by have:=(s1.cj X).1; have:=C w F h0 i hi; omega⟩⟩,hl0,fun j w A=>absurd A ad,fun j x w hx F=>by
   rw [Y1 ad]
   have:(R.map (·.2))[j]?=some w.2:=by rw [ZL,F]; rfl
   rw [W,hx] at this;exact (Zl this).symm⟩ ?_
 rintro ⟨n10,⟨⟩⟩ k h2 ⟨i,ws,hi,rfl,hle,U,G,Y,J,A⟩;simp only at hi;subst hi;refine ak ?_;have hwi:=iC i;refine aP ?_ ?_<;>intro r
 ·have Z:i<u.length:=ad
  have B:i<ws.length:=ad
  obtain ⟨b,rfl,hc⟩:=SL.cells G.out (i:=i) (by rw [YY]; exact B);rw [Y7] at hc;have K:u[i]?=some u[i]:=YZ Z;have D:ws[i]?=some ws[i]:=YZ B;have hwx:=A i _ _ K D;rw [Y1 ad] at hwx;have hxm:=Y5 Z;have hwm:=Y5 B;have vw:=G.fI _ hwm;have lw:=G.low _ hwm;generalize ws[i]=w at hc D hwx hwm vw lw;generalize u[i]=x at K hwx hxm;subst hwx;have hsw:=hxs w.2 hxm;refine bP rfl ?_;rw [cB i];refine av ((w.1.p,w.1.l,w.1.c),(w.2.e.num:Int),()) ⟨by rw [add_add]; exact hc.2.2.2.2.2.2.2.1,by rw [add_add]; exact hc.2.2.2.2.2.2.2.2.1,trivial⟩ ?_;refine ak ?_;have z2:=U.size;refine aJ (FW (d:=w.1.c) (s.ai U) (v.ai U) sz hn hL vw hsw.nf hsw.num hsw.len hsw.own hsw.sz) ?_;rintro _ h3 ⟨e3,p3,l3,c3,rfl,s3⟩;refine ⟨((p3,l3,c3),((ji us L n w.2.e).num:Int),()),rfl,ak ?_⟩;have z3:=e3.size;refine aJ (Kb (c:=c3) (d:=d) s3.Qk (ve.ai (U.trans e3)) (fun j A=>(s3.cj A).2) (fun e he j A=>by have:=hb e he j A; omega) hm (KD _ _ _ _) (FN hsw.num) (fun e he=>(V e he).nf) hS (fun t ht=>by
   obtain ⟨u',hu',he'⟩:=Gr ht;rw [he'];exact hSw w.2 hxm u' hu') fun e he=>(V e he).fI) ?_
  rintro _ h4 ⟨e4,p4,l4,c4,rfl,s4⟩;refine ⟨((p4,l4,c4),((dC (cF es) (ji us L n w.2.e)).num:Int),()),rfl,ak ?_⟩;have z4:=e4.size;have e24:=e3.trans e4;refine bP rfl ?_;have so:=G.out.br e24 aj;refine SL.part (P:=Xaz) so (i:=i) (by rw [YY]; exact B) (vs:=[.slice p4 l4 c4,.int .u32 ((dC (cF es) (ji us L n w.2.e)).num:Int)]) (o:=7) aj (by simp [da]) rfl ?_;intro h6 s6 k6 z6;have hse:(ws.map oc).set i (gK ((ws.map oc)[i]'(by rw [YY]; exact B)) 7 [.slice p4 l4 c4,.int .u32 ((dC (cF es) (ji us L n w.2.e)).num:Int)])=(ws.set i (⟨p4,l4,c4⟩,x7 us L es n w.2)).map oc:=by
   rw [ce9]
   congr 1
   rw [Y7]
   have:ws[i]=w:=(Zn.1 D).2
   rw [this] <;> rfl
  rw [hse] at s6;have M:∀ j,j∈aF (some b)->H.size<=j/\j<h2.size:=fun j A=>G.out.cj A
  have e6:Ext H h6:=Ch.trans (U.trans e24) k6 (fun j A hl=>by have:=M j A; omega);refine aG (cs:=cn) (((i+1:Nat):Int),()) (u.length-(i+1)) rfl ad (Zg (fun z=>[Value.int .i64 z]) hwi) ⟨i+1,_,rfl,rfl,ad,e6,⟨s6,fun w' f=>?_,fun w' f h0' j N=>?_⟩,by rw [Z7]; exact Y,fun j w' N f=>?_,fun j x' w' O f=>?_⟩
  ·rcases af9 f with f | rfl
   ·exact K7 ((G.fI w' f).ai e24 aj) k6 (fun h0 j A=>(G.low w' f h0 j A).2)
   ·exact (s4.br k6 (fun j A X=>by have:=(s4.cj A).1; have:=M j X; omega)).Qk
  ·rcases af9 f with f | rfl
   ·obtain ⟨h1,h2⟩:=G.low w' f h0' j N;exact ⟨ad,h2⟩
   ·obtain ⟨h1,h2⟩:=s4.cj N;exact ⟨ad,fun X=>by have:=M j X; omega⟩
  ·have hbx:∀ a,a∈aF (some b)->∃ ys,bF h4 a 64 ys:=SL.r6 so
   by_cases E:i=j
   ·subst E;rw [bl9 B] at f;cases f;exact (SL.jT s4 k6 hbx bY).mono ad
   ·rw [aa9 E] at f;exact SL.jT ((J j w' ad f).br e24 aj) k6 hbx bY
  ·by_cases E:i=j
   ·subst E;rw [bl9 B] at f;cases f;rw [K] at O;cases O;rw [Y8 ad]
   ·rw [aa9 E] at f;have h2:=A j x' w' O f;rw [h2]
    by_cases hj2:j<i
    ·rw [Y8 hj2,Y8 ad]
    ·rw [Y1 hj2,Y1 ad]
 ·have:i=u.length:=ad
  subst this;refine ⟨U,p1,l,c1,ws,rfl,⟨G.out,fun w F=>?_,fun _ _=>trivial⟩,?_⟩
  ·obtain ⟨j,hj1,rfl⟩:=Zt F;exact J j _ ad (YZ hj1)
  apply ca9
  ·rw [YY,YY,Y]
  ·intro j h1' Q;rw [Y7,Y7];rw [YY] at h1' Q
   have:=A j _ _ (YZ Q) (YZ h1')
   rw [this,Y8 Q]
def W7:Tryz.prog.underlying 68=some (.slice 26):=aw
def XZ:(Tryz.prog.info? 26).map (fun i=>(i.zero,i.size,i.bytes))=some (some (.slice none 0 0),1,24):=aw
def SK (p:Xac) (l c:Nat):Instr.fill (fun j=>some (j*1,1)) ((Array.range (1*1)).map ((Value.slice none 0 0).cells[· % (Value.slice none 0 0).cells.size]!)) [(0,.slice p l c)]=some ([.slice p l c]:List Xab).toArray:=aw
structure wm (h:Hp) (b:Nat) (st:cd) (tw:List (cd × List (cd × cH))):Prop where
 sl:SL h b 26 1 st.p st.l st.c (tw.map fun x=>[x.1.v])
 fI:∀ x,x∈tw->Ak h b x.1.p x.1.l x.1.c x.2
variable {e:TypeId}
def N9 {W:List Nat} {h':Hp} {b l c:Nat} {ws:List (cd × cH)} (s:Ak H b I l c ws) (k:Ch W H h') (a:∀ i,i∈W->∃ d,bF H i e d) (h1:64≠e) (h2:66≠e):Ak h' b I l c ws :=
 ⟨SL.jT s.sl k a h1,fun u f=>SL.jT (s.own u f) k a h2,s.ok⟩
def Fm {b b' l c:Nat} {ws:List (cd × cH)} (s:Ak H b I l c ws) (a:b'<=b):Ak H b' I l c ws:=⟨s.sl.mono a,fun u d=>(s.own u d).mono a,s.ok⟩
def wm.ai {W:List Nat} {h':Hp} {b:Nat} {st:cd} {tw:List (cd × List (cd × cH))} (s:wm H b st tw) (k:Ch W H h') {e':TypeId} (a:∀ i,i∈W->∃ c,bF H i e' c) (d:∀ i,i∈aF st.p->i∉W) (h1:64≠e') (h2:66≠e'):wm h' b st tw :=
 ⟨s.sl.br k d,fun x e=>N9 (s.fI x e) k a h1 h2⟩
def wm.ext {h':Hp} {b:Nat} {st:cd} {tw:List (cd × List (cd × cH))} (s:wm H b st tw) (k:Ext H h'):wm h' b st tw:=s.ai (e':=0) k aj aj bY bY
def wm.nil (h:Hp) (b:Nat):wm h b lZ []:=⟨SL.nil _ _ _ _,aj⟩
variable {Z:Lp} {Y:Xab->Hp->Prop}
def wm.push {h:Hp} {b:Nat} {st:cd} {tw:List (cd × List (cd × cH))} (s:wm h b st tw) {x:cd × List (cd × cH)} (g:Ak h b x.1.p x.1.l x.1.c x.2) (i:b<=h.size) (hl:tw.length<=2^20) {l:List (Xax × List Xab)} (e:∀ h',Ext h h'->T.BO h' l) {k:Xac->Nat->Nat->T}
  (hk:∀ p' c' h',wm h' b ⟨p',st.l+1,c'⟩ (tw++[x])->Ch (aF st.p) h h'->(p'=st.p\/∃ a,p'=some a/\h.size<=a.block)->k p' (st.l+1) c' Z Y h') :
  T.eN Xaz (Instr.buildSlice 68 1 #[(0,.slice x.1.p x.1.l x.1.c)]) false [(false,[.slice 0])] (fun q m j=>T.aD l (T.eN Xaz (Builtin.append_ #[68,68] 68 #[.slice st.p st.l st.c,.slice q m j]) false [(false,[.slice 0])] k)) Z Y h:=by
 have n:st.l=tw.length:=by have:=s.sl.1; rwa [YY] at this
 refine gn (vs:=[x.1.v]) W7 XZ rfl ad ad (SK _ _ _) rfl rfl s.sl i ad ad e ?_;intro p' c' h' o k' f;refine hk p' c' h' ⟨by rw [Za]; exact o,fun y d=>?_⟩ k' f;have hbx:=SL.r6 s.sl;rcases Zb.1 d with d | d
 ·exact N9 (s.fI y d) k' hbx bY bY
 ·rw [Zh.1 d];exact N9 g k' hbx bY bY
def P5 (S:Nat) (d:Xac) (b:Nat) (R c:Xax) (s:Xac) (t u:Nat):T :=
   T.loop [aK] [vI (0:Int)] <| fun (a:Int) =>
   bn a b
   (T.af (c.add 2) [.slice 26] <| fun (e:Xac) (f g:Nat) =>
   T.need (dF a b) <|
   T.aR d <| fun (h:Xax) =>
   T.af (h.add (ay a 4)) [.slice 64] <| fun (i:Xac) (j k:Nat) =>
   bz 65 [.pointer (some c),vI a,.slice i j k,.slice s t u] false [(false,[.slice 64])] <| fun (w:Xac) (x y:Nat) =>
   T.aD [((c.add 2),[.slice e f g])] <|
   bX (Instr.buildSlice 68 1 #[(0,.slice w x y)]) false [dp] <| fun (z:Xac) (A B:Nat) =>
   T.aD [((h.add (ay a 4)),[.slice i j k]),((c.add 2),[.slice e f g])] <|
   bX (Builtin.append_ #[68,68] 68 #[.slice e f g,.slice z A B]) false [dp] <| fun (C:Xac) (D E:Nat) =>
   T.aD [((h.add (ay a 4)),[.slice i j k])] <|
   T.ar (c.add 2) [.slice C D E] <|
   T.af (c.add 3) [.slice 26] <| fun (l:Xac) (m n:Nat) =>
   T.need (dF a b) <|
   T.aR d <| fun (o:Xax) =>
   T.af ((o.add (ay a 4)).add 1) [.slice 64] <| fun (p:Xac) (q r:Nat) =>
   bz 65 [.pointer (some c),vI a,.slice p q r,.slice s t u] false [(false,[.slice 64])] <| fun (F:Xac) (G H:Nat) =>
   T.aD [((c.add 3),[.slice l m n])] <|
   bX (Instr.buildSlice 68 1 #[(0,.slice F G H)]) false [dp] <| fun (I:Xac) (J K:Nat) =>
   T.aD [(((o.add (ay a 4)).add 1),[.slice p q r]),((c.add 3),[.slice l m n])] <|
   bX (Builtin.append_ #[68,68] 68 #[.slice l m n,.slice I J K]) false [dp] <| fun (L:Xac) (M N:Nat) =>
   T.aD [(((o.add (ay a 4)).add 1),[.slice p q r])] <|
   T.ar (c.add 3) [.slice L M N] <|
   T.again S [vI (bC (a+(1:Int)))])
   (T.ar R [vI (0:Int),vI (0:Int),cm] <|
   T.af R [.int .i64,.int .i64,.string] <| fun (O P:Int) (Q:Xaa) =>
   bK #[.pointer (some c),.agg #[vI O,vI P,.string Q]])
def zH (us:List bU) (L:List Lb) (es:List cX) (F:bU->List cH) (i:Nat) (tw:List (cd × List (cd × cH))):Prop :=
 tw.length=i/\∀ n u x,us[n]?=some u->tw[n]?=some x->x.2.map (·.2)=(F u).map (x7 us L es n)
variable {b:bU}
def zH.push {us:List bU} {L:List Lb} {F:bU->List cH} {i:Nat} {tw:List (cd × List (cd × cH))} (t:zH us L es F i tw) (d:us[i]?=some b) {x:cd × List (cd × cH)} (e:x.2.map (·.2)=(F b).map (x7 us L es i)):zH us L es F (i+1) (tw++[x]):=by
 obtain ⟨h1,h2⟩:=t;refine ⟨by rw [Y0,h1]; rfl,fun n v y hv a=>?_⟩
 by_cases hn:n<tw.length
 ·rw [ZE hn] at a;exact h2 n v y hv a
 ·rw [ZB ad] at a;have c:n=tw.length:=by
   have:=(Zn.1 a).1
   simp at this;omega
  subst c;rw [cd9] at a;cases a;rw [h1] at hv ⊢;rw [d] at hv;cases hv;exact e
structure Vx (us:List bU) (L:List Lb) (S:List Xaa) (n:Nat) (u:bU):Prop where
 text:∀ x,x∈u.text->PN us n x.e/\∀ t,t∈x.e.ah->dQ us L n t.1∈S
 data:∀ x,x∈u.data->PN us n x.e/\∀ t,t∈x.e.ah->dQ us L n t.1∈S
def C0 {h:Hp} {a:List Xab} {cs:List ey} {I:qX (flat cs)->Nat->Hp->Prop} {n:Nat} (y:qX (flat cs)) (m:Nat) (b:m<n) (c:a=parts cs (eA _ y)) (d:I y m h):T.again Z.length a (Z++[Jl I n]) Y h :=
 aG y m (by rw [ZB (Zc _),cd9]; rfl) b c d
variable {f g:Int}
def Sd {h0 h:Hp} {m lv:Nat} {su lb:cd} {LB:List Lb} {us:List bU} {M N:Nat} {S:List Xaa} (hlv:lv=Z.length) (hga:ga<m) (h0g:h0.size<=ga) (e0:Ext h0 h) (b1:bF h ga 54 [vI f,vI g,.string U])
  (pr:Ff h m su lb lZ lZ LB) (v:wh h0 su.p su.l us) (sz:Ml us) (hL:LB.length<=2^40) (ve:rW h I M es) (hq:∀ i,i∈aF I->m<i) (hb:∀ e,e∈es->∀ i,i∈aF e.p->m<i/\i<h.size) (hm:es.length<=2^40) (hS:S.length<=2^30) (hes:∀ e,e∈es->uB S e.x)
  (hW:∀ n u,us[n]?=some u->Vx us LB S n u)
  (hk:∀ h' st sd tw dw,Ext h0 h'->Ff h' m su lb st sd LB->wm h' h.size st tw->wm h' h.size sd dw->zH us LB es (·.text) us.length tw->zH us LB es (·.data) us.length dw->Y (.tuple #[.pointer (some ⟨m,0,none⟩),Q7 ⟨0,0,dV⟩]) h') :
  P5 lv su.p su.l ⟨ga,0,none⟩ ⟨m,0,none⟩ I M N Z Y h:=by
 subst hlv;unfold P5 bn ay bz bX bC dF bK cm aK dp;have hll:=v.len;have hmany:=sz.many;have hgs:=pr.box.lt;refine aU (cs:=cn) (fun y k h'=>∃ (i:Nat) (st sd:cd) (tw dw:List (cd × List (cd × cH))),y.1=(i:Int)/\k=us.length-i/\i<=us.length/\Ext h0 h'/\Ch [m] h h'/\bF h' m 70 [su.v,lb.v,st.v,sd.v]/\wm h' h.size st tw/\wm h' h.size sd dw/\(∀ j,j∈aF st.p->j∉aF sd.p) /\
  zH us LB es (·.text) i tw/\zH us LB es (·.data) i dw) ((0:Int),()) us.length rfl
  ⟨0,lZ,lZ,[],[],rfl,rfl,ad,e0,Ch.refl _ _,pr.box,wm.nil _ _,wm.nil _ _,by simp [lZ,aF],⟨rfl,fun n u x _ w=>by simp at w⟩,⟨rfl,fun n u x _ w=>by simp at w⟩⟩ ?_
 rintro ⟨n21,⟨⟩⟩ k h1 ⟨i,st,sd,tw,dw,hi,rfl,hle,e1,k1,b7,t1,d1,hdj,it,id⟩;simp only at hi;subst hi;refine ak ?_;have hw:=iC i;have z1:=k1.size;refine aP ?_ ?_<;>intro q
 ·have A:i<us.length:=ad
  have E:us[i]?=some us[i]:=YZ A;obtain ⟨au,sa,sb,sc,sd',hau,O,va⟩:=v.cells i A;have hum:=Y5 A;generalize us[i]=u at E O va hum;have uw:=hW i u E;have prk:∀ {h':Hp} {st' sd2:cd},Ch [m] h h'->bF h' m 70 [su.v,lb.v,st'.v,sd2.v]->Ff h' m su lb st' sd2 LB:=fun k bx=>⟨bx,pr.qu.br k (fun j o r=>by have:=(pr.qu.cj o).1; simp at r; omega)⟩
  have vek:∀ {h':Hp},Ch [m] h h'->rW h' I M es:=fun k=>ve.iy k (fun j o r=>by have:=hq j o; simp at r; omega) (fun e he _ j o r=>by have:=(hb e he j o).1; simp at r; omega)
  have P:∀ {h':Hp},Ext h0 h'->aI h' (au.add (i*4)) 0 [.slice sa.p sa.l sa.c]:=fun e=>⟨(aX e aj _ _ O).1,trivial⟩
  have Q:∀ {h':Hp},Ext h0 h'->aI h' ((au.add (i*4)).add 1) 0 [.slice sb.p sb.l sb.c]:=fun e=>⟨by rw [add_add]; exact (aX e aj _ _ O).2.1,trivial⟩
  rw [aC];refine az b7 ((st.p,st.l,st.c),()) (ak ?_);refine bP hau ?_;rw [cB i];refine av ((sa.p,sa.l,sa.c),()) (P e1) (ak ?_);refine aJ (Du (c:=sa.c) (d:=N) (prk k1 b7) (v.ai e1) sz A hL (va.ai e1).text (sz.text u hum) (fun x w=>(uw.text x w).1) (vek k1) (fun e he j o=>by have:=(hb e he j o).2; omega) hm hS hes (fun x w=>(uw.text x w).2)) ?_;rintro _ h2 ⟨R,p2,l2,c2,w2,rfl,o2,hm2⟩;refine ⟨((p2,l2,c2),()),rfl,ak ?_⟩;have z2:=R.size;have e02:=e1.trans R;have b72:=b7.ai R aj;refine ⟨⟨b72.cells _ rfl,trivial⟩,?_⟩;refine wm.push (x:=(⟨p2,l2,c2⟩,w2)) (t1.ext R) (Fm o2 z1) ad (by rw [it.1]; omega) (by exact fun h' e=>⟨P (e02.trans e),(b72.ai e aj).cells _ rfl,trivial⟩) ?_;intro p3 c3 h3 t3 k3 hp3;have B:∀ j,j∈aF st.p->h.size<=j/\j<h1.size:=fun j o=>t1.sl.cj o
  have e03:Ext h0 h3:=Ch.trans e02 k3 (fun j o hl=>by have:=B j o; have:=e0.size; omega);have kg3:Ch [m] h h3:=Ch.trans (Ch.trans k1 R aj) k3 (fun j o hl=>by have:=B j o; omega);have b73:=b72.ai k3 (fun o=>by have:=B _ o; omega);have d3:wm h3 h.size sd dw:=(d1.ext R).ai (e':=26) k3 (SL.r6 (t1.ext R).sl) (fun j o r=>hdj j r o) bY bY;have z3:=k3.size;refine ⟨⟨P e03,trivial⟩,?_⟩;rw [aC];refine bQ b73 ?_;intro h4 C k4 z4;have C:bF h4 m 70 [su.v,lb.v,(⟨p3,st.l+1,c3⟩:cd).v,sd.v]:=C;have hg0:∀ j,j∈[m]->h0.size<=j:=fun j o=>by simp at o; omega
  have F:Ext h0 h4:=Ch.trans e03 k4 (fun j o hl=>by have:=hg0 j o; omega);have W:Ch [m] h h4:=Ch.trans kg3 k4 (fun j o _=>o);have G:∀ {r:Hp} {xs:List Xab},bF r m 70 xs->∀ j,j∈[m]->∃ ys,bF r j 70 ys:=fun bx j o=>by
   rw [Zh] at o;subst o;exact ⟨_,bx⟩
  have H:∀ {r:Hp} {s:cd} {t:List (cd × List (cd × cH))},wm r h.size s t->∀ j,j∈aF s.p->j∉[m]:=fun t j o r=>by have:=(t.sl.cj o).1; simp at r; omega
  have t4:=t3.ai (e':=70) k4 (G b73) (H t3) bY bY;have d4:=d3.ai (e':=70) k4 (G b73) (H d3) bY bY;have J:∀ j,j∈aF p3->j∉aF sd.p:=fun j o r=>by
   rcases hp3 with h | ⟨a',h,h'⟩
   ·rw [h] at o; exact hdj j o r
   ·rw [h] at o;simp [aF] at o
    have:=(d1.sl.cj r).2
    omega
  refine az C ((sd.p,sd.l,sd.c),()) (ak ?_);refine bP hau ?_;refine av ((sb.p,sb.l,sb.c),()) (Q F) (ak ?_);refine aJ (Du (c:=sb.c) (d:=N) (prk W C) (v.ai F) sz A hL (va.ai F).data (sz.data u hum) (fun x w=>(uw.data x w).1) (vek W) (fun e he j o=>by have:=(hb e he j o).2; omega) hm hS hes (fun x w=>(uw.data x w).2)) ?_;rintro _ h5 ⟨X,p5,l5,c5,w5,rfl,o5,hm5⟩;refine ⟨((p5,l5,c5),()),rfl,ak ?_⟩;have z5:=X.size;have e05:=F.trans X;have b75:=C.ai X aj;refine ⟨⟨b75.cells _ rfl,trivial⟩,?_⟩;refine wm.push (x:=(⟨p5,l5,c5⟩,w5)) (d4.ext X) (Fm o5 ad) ad (by rw [id.1]; omega) (by exact fun h' e=>⟨Q (e05.trans e),(b75.ai e aj).cells _ rfl,trivial⟩) ?_;intro p6 c6 h6 d6 k6 hp6;have D:∀ j,j∈aF sd.p->h.size<=j/\j<h1.size:=fun j o=>d1.sl.cj o
  have e06:Ext h0 h6:=Ch.trans e05 k6 (fun j o hl=>by have:=D j o; have:=e0.size; omega);have kg6:Ch [m] h h6:=Ch.trans (Ch.trans W X aj) k6 (fun j o hl=>by have:=D j o; omega);have b76:=b75.ai k6 (fun o=>by have:=D _ o; omega);have t6:wm h6 h.size ⟨p3,st.l+1,c3⟩ (tw++[(⟨p2,l2,c2⟩,w2)]):=(t4.ext X).ai (e':=26) k6 (SL.r6 (d4.ext X).sl) J bY bY;refine ⟨⟨Q e06,trivial⟩,?_⟩;refine bQ b76 ?_;intro h7 b77 k7 z7;have b77:bF h7 m 70 [su.v,lb.v,(⟨p3,st.l+1,c3⟩:cd).v,(⟨p6,sd.l+1,c6⟩:cd).v]:=b77;have e07:Ext h0 h7:=Ch.trans e06 k7 (fun j o hl=>by have:=hg0 j o; omega);refine C0 (cs:=cn) (((i+1:Nat):Int),()) (us.length-(i+1)) ad (Zg (fun U=>[Value.int .i64 U]) hw) ⟨i+1,⟨p3,st.l+1,c3⟩,⟨p6,sd.l+1,c6⟩,_,_,rfl,rfl,ad,e07,Ch.trans kg6 k7 (fun j o _=>o),b77,
   t6.ai (e':=70) k7 (G b76) (H t6) bY bY,d6.ai (e':=70) k7 (G b76) (H d6) bY bY,fun j o r=>?_,it.push E hm2,id.push E hm5⟩
  rcases hp6 with h | ⟨a',h,h'⟩
  ·rw [h] at r; exact J j o r
  ·rw [h] at r;simp [aF] at r
   have:=(t4.sl.cj o).2
   omega
 ·have:i=us.length:=ad
  subst this;have b1':=b1.ai k1 (by simp; omega);refine bQ b1' ?_;intro h2 b2 k2 z2;have b2:bF h2 ga 54 [vI 0,vI 0,.string dV]:=b2;refine az b2 ((0:Int),(0:Int),dV,()) ?_;have hba:∀ j,j∈[ga]->∃ ys,bF h1 j 54 ys:=fun j o=>by
   rw [Zh] at o;subst o;exact ⟨_,b1'⟩
  have hna:∀ {s:cd} {t:List (cd × List (cd × cH))},wm h1 h.size s t->∀ j,j∈aF s.p->j∉[ga]:=fun t j o r=>by have:=(t.sl.cj o).1; simp at r; omega
  refine hk h2 st sd tw dw (bZ e1 k2) ⟨b7.ai k2 (by simp; omega),?_⟩ (t1.ai (e':=54) k2 hba (hna t1) bY bY) (d1.ai (e':=54) k2 hba (hna d1) bY bY) it id;refine pr.qu.br (Ch.trans (ws:=[m,ga]) (Ch.mono k1 aj) k2 aj) (fun j o r=>by have:=(pr.qu.cj o).1; simp at r; omega)
def rG (us:List bU):List Nat:=us.flatMap fun u=>List.range u.bf.length
theorem tH:∀ (us:List bU) (n:Nat),(eR n us).length=(rG us).length
 | [],n=>rfl
 | u::us,n=>by
  unfold rG;rw [eR,ZN,Y0,Y0,YY,as9,tH us (n+1)] <;> rfl
def OU (w:Nat) (b:Xac) (c:Nat) (u:Xax) (n:Xac) (o:Nat) (d:Int):T :=
   T.loop [aK,aK] [vI (0:Int),vI d] <| fun (a i:Int) =>
   T.need (dF a c) <|
   T.aR b <| fun (p:Xax) =>
   T.af ((p.add (ay a 4)).add 2) [.slice 88] <| fun (x:Xac) (q y:Nat) =>
   cond (decide (i>=(q:Int)))
   (T.need (dF a c) <|
   T.aR b <| fun (e:Xax) =>
   T.af ((e.add (ay a 4)).add 2) [.slice 88] <| fun (h:Xac) (f j:Nat) =>
   T.again w [vI (bC (a+(1:Int))),vI (bC (i-(f:Int)))])
   (T.need (dF a c) <|
   T.aR b <| fun (e:Xax) =>
   T.af ((e.add (ay a 4)).add 2) [.slice 88] <| fun (h:Xac) (f j:Nat) =>
   T.need (dF d o) <|
   T.aR n <| fun (k:Xax) =>
   T.af (k.add (ay d 1)) [.int .i64] <| fun (g:Int) =>
   T.need (dF g f) <|
   T.aR h <| fun (l:Xax) =>
   T.af (l.add (ay g 3)) [.string] <| fun (m:Xaa) =>
   T.aD [((l.add (ay g 3)),[.string m]),((k.add (ay d 1)),[vI g]),(((e.add (ay a 4)).add 2),[.slice h f j])] <|
   T.ar u [vI (24:Int),vI a,.string m] <|
   T.af u [.int .i64,.int .i64,.string] <| fun (r s:Int) (t:Xaa) =>
   bK #[.pointer none,.agg #[vI r,vI s,.string t]])
def Q5 {h0 h:Hp} {lv b l:Nat} {us:List bU} {C H i0:Nat} {q:Nat × oh} (J:lv=Z.length) (h0g:h0.size<=ga) (e0:Ext h0 h) (b1:bF h ga 54 [vI f,vI g,.string U]) (v:wh h I l us) (M:us.length<=2^20)
  (D:SL h b 3 1 a C H ((rG us).map Mr)) (hle:(eR 0 us).length<=2^40) (S:(eR 0 us)[i0]?=some q) (hk:∀ h',Ext h0 h'->Y (.tuple #[.pointer none,Q7 ⟨24,q.1,q.2.1⟩]) h'):OU lv I l ⟨ga,0,none⟩ a C i0 Z Y h:=by
 subst J;unfold OU ay bC dF bK aK;have hll:=v.len;have hi0:i0<(eR 0 us).length:=(Zn.1 S).1;have hkl:=tH us 0;refine aU (cs:=gk) (fun g k h'=>∃ (u r:Nat),g.1=(u:Int)/\g.2.1=(r:Int)/\k=us.length-u/\h'=h/\u<=us.length/\(eR u (us.drop u))[r]?=some q/\(rG (us.drop u))[r]?=(rG us)[i0]?/\r<=i0) ((0:Int),(i0:Int),()) us.length rfl
  ⟨0,i0,rfl,rfl,rfl,rfl,ad,S,rfl,Zc _⟩ ?_
 rintro ⟨n21,n22,⟨⟩⟩ k h' ⟨u,r,V,W,rfl,rfl,hul,j,m,hri⟩;simp only at V W;subst V W;refine ak ?_;have t:u<us.length:=by
  by_cases h:u<us.length
  ·exact h
  ·rw [ZO ad] at j;simp [eR] at j
 rw [Zj t] at j m;have m:(List.range us[u].bf.length++rG (us.drop (u+1)))[r]?=(rG us)[i0]?:=m;have j:(us[u].bf.map (fun e=>(u,e))++eR (u+1) (us.drop (u+1)))[r]?=some q:=j;obtain ⟨au,sa,sb,sc,sd,rfl,E,N⟩:=v.cells u t;generalize us[u]=w at m j E N;have hlq:=N.bf.len;have s:aI h' ((au.add (u*4)).add 2) 0 [.slice sc.p sc.l sc.c]:=⟨by rw [add_add]; exact E.2.2.1,trivial⟩
 refine bP rfl ?_;rw [cB u];refine av ((sc.p,sc.l,sc.c),()) s (ak ?_);refine aP ?_ ?_<;>intro d
 ·have F:w.bf.length<=r:=ad
  refine bP rfl ?_;refine av ((sc.p,sc.l,sc.c),()) s (ak ?_);have hw1:=iC u;have O:IntKind.wrap .i64 ((r:Int)-(sc.l:Int))=((r-w.bf.length:Nat):Int):=by rw [wrap_i64 ad ad]; omega
  rw [ZB (by rw [YY]; exact F),YY] at j;rw [ZB (by rw [as9]; exact F),as9] at m;exact C0 (cs:=gk) (((u+1:Nat):Int),((r-w.bf.length:Nat):Int),()) (us.length-(u+1)) ad (by rw [hw1,O]; rfl) ⟨u+1,r-w.bf.length,rfl,rfl,rfl,rfl,ad,j,m,ad⟩
 ·have o:r<w.bf.length:=ad
  rw [ZE (by rw [YY]; exact o),ZL,YZ o] at j;rw [ZE (by rw [as9]; exact o),am9 o] at m;have P:(u,w.bf[r])=q:=Zl j;subst P;refine bP rfl ?_;refine av ((sc.p,sc.l,sc.c),()) s (ak ?_);have A:i0<(rG us).length:=ad
  obtain ⟨a12,G,n⟩:=SL.cells D (i:=i0) (by rw [YY]; exact A);rw [Y7] at n;have Q:(rG us)[i0]=r:=by
   rw [YZ A] at m;exact (Zl m).symm
  rw [Q] at n;have X:C=(rG us).length:=by have:=D.1; rwa [YY] at this
  refine bP G ?_;rw [cB i0];refine av ((r:Int),()) n (ak ?_);obtain ⟨aq,pq,mq,cq,R,B,_,_⟩:=N.bf.cells r o;refine bP R ?_;rw [cB r];refine av (w.bf[r].1,()) ⟨B.1,trivial⟩ (ak ?_);refine ⟨⟨⟨B.1,trivial⟩,n,s,trivial⟩,?_⟩;refine bQ b1 ?_;intro h2 b2 k2 z2;have b2:bF h2 ga 54 [vI 24,vI (u:Int),.string w.bf[r].1]:=b2;refine az b2 ((24:Int),(u:Int),w.bf[r].1,()) ?_;exact hk h2 (bZ e0 k2)
def Tm (d:Xac) (b:Nat) (a1 t:Xax):T :=
  T.loop [dp,dp,aK] [aS,aS,vI (0:Int)] <| fun (p9:Xac) (l10 n:Nat) (o:Xac) (p u:Nat) (c:Int) =>
  bn c b
  (T.loop [dp,dp,aK] [.slice p9 l10 n,.slice o p u,vI (0:Int)] <| fun (f:Xac) (g h:Nat) (q:Xac) (r s:Nat) (e:Int) =>
  T.need (dF c b) <|
  T.aR d <| fun (w:Xax) =>
  T.af ((w.add (ay c 4)).add 2) [.slice 88] <| fun (p24:Xac) (x l26:Nat) =>
  bn e x
   (T.need (dF c b) <|
   T.aR d <| fun (y:Xax) =>
   T.af ((y.add (ay c 4)).add 2) [.slice 88] <| fun (z:Xac) (A l30:Nat) =>
   T.need (dF e A) <|
   T.aR z <| fun (B:Xax) =>
   T.af (B.add (ay e 3)) [.string,.slice 66,.int .u32] <| fun (TX:Xaa) (C:Xac) (D E:Nat) (F:Int) =>
   T.new [cm,aS,ax (0:Int)] 88 <| fun (a:Xax) =>
   T.ar a [.string TX,.slice C D E,ax F] <|
   T.af a [.string] <| fun (i:Xaa) =>
   T.af (a.add 1) [.slice 66,.int .u32] <| fun (j:Xac) (k l:Nat) (m:Int) =>
   bz 62 [.pointer (some t),vI c,.string i] false [(false,[.string])] <| fun (G:Xaa) =>
   T.aD [((a.add 1),[.slice j k l,ax m])] <|
   bz 63 [.pointer (some t),vI c,.agg #[.slice j k l,ax m]] false [(true,[.slice 66,.int .u32])] <| fun (H:Xac) (I J:Nat) (K:Int) =>
   T.aD [(a,[.string i])] <|
   bX (Instr.buildSlice 27 1 #[(0,.agg #[.string G,.slice H I J,ax K])]) false [dp] <| fun (L:Xac) (M N:Nat) =>
   T.aD [((a.add 1),[.slice j k l,ax m]),(a,[.string i])] <|
   bX (Builtin.append_ #[27,27] 27 #[.slice f g h,.slice L M N]) false [dp] <| fun (O:Xac) (P Q:Nat) =>
   T.aD [((a.add 1),[.slice j k l,ax m]),(a,[.string i])] <|
   bX (Instr.buildSlice 126 1 #[(0,vI e)]) false [dp] <| fun (R:Xac) (S U:Nat) =>
   bX (Builtin.append_ #[126,126] 126 #[.slice q r s,.slice R S U]) false [dp] <| fun (V:Xac) (W X:Nat) =>
   T.again 2 [.slice O P Q,.slice V W X,vI (bC (e+(1:Int)))])
   (T.again 1 [.slice f g h,.slice q r s,vI (bC (c+(1:Int)))]))
  (bz 64 [.slice p9 l10 n] true [(false,[.slice 88]),aK,aK] <| fun (f:Xac) (g h:Nat) (Y Z:Int) =>
  cond (Z != (0:Int)) (OU 2 d b a1 o p Y) (P5 2 d b a1 t f g h))
structure Wt (h:Hp) (b:Nat) (p:Xac) (l c:Nat) (q:Xac) (m d:Nat) (ms:List cX) (ks:List Nat):Prop where
 out:SL h b 88 3 p l c (ms.map AN)
 num:SL h b 3 1 q m d (ks.map Mr)
 fI:∀ e,e∈ms->SL h b 66 2 e.p e.l e.c (e.x.ah.map dh)
def Wt.ext {h':Hp} {b l c m d:Nat} {ms:List cX} {ks:List Nat} (s:Wt H b I l c a m d ms ks) (e:Ext H h'):Wt h' b I l c a m d ms ks :=
 ⟨s.out.br e aj,s.num.br e aj,fun x f=>(s.fI x f).br e aj⟩
def dR (us:List bU) (L:List Lb) (l:List bU):List (Xaa × cE):=(eR 0 l).map fun q=>(dQ us L q.1 q.2.1,ji us L q.1 q.2.2)
def KS (l:List bU) (u:bU):rG (l++[u])=rG l++List.range u.bf.length:=by
 unfold rG;rw [bb9]
 simp
def Rp (us:List bU) (L:List Lb) (l:List bU) (u:bU):dR us L (l++[u])=dR us L l++u.bf.map fun e=>(dQ us L l.length e.1,ji us L l.length e.2):=by
 unfold dR;rw [sS,Za,Zs];simp only [Nat.zero_add] <;> rfl
def Yr (us:List bU) (n:Nat) (u:bU):Prop:=∀ e,e∈u.bf->PN us n e.2/\(∃ o,jX us n e.1=some o)/\e.1.size<=2^60
def pu (n:Nat):om n=gQ n:=xR n
def Gy (n:Nat):∀ c,c∈Lib.decDigits n->c≠95:=by
 intro c hc e;rw [Lib.decDigits_eq] at hc;obtain ⟨t,_,rfl⟩:=Y9.1 hc;unfold Lib.dg at e;have h1:=Zg UInt8.toNat e;have h2:(UInt8.ofNat (48+n / 10^(Lib.nDigits n-1-t) % 10)).toNat=48+n / 10^(Lib.nDigits n-1-t) % 10:=by
  rw [UInt8.toNat_ofNat'];omega
 rw [h2] at h1;have a:(95:UInt8).toNat=95:=rfl;omega
theorem Ti:∀ {a b s t:List UInt8},(∀ c,c∈a->c≠95)->(∀ c,c∈b->c≠95)->a++95::s=b++95::t->a=b/\s=t
 | [],[],s,t,_,_,h=>by simpa using h
 | [],c::b,s,t,_,e,h=>by
  simp only [List.nil_append,List.cons_append,List.cons.injEq] at h;exact absurd h.1.symm (e c aj)
 | c::a,[],s,t,f,_,h=>by
  simp only [List.nil_append,List.cons_append,List.cons.injEq] at h;exact absurd h.1 (f c aj)
 | c::a,d::b,s,t,f,e,h=>by
  simp only [List.cons_append,List.cons.injEq] at h;obtain ⟨h1,h2⟩:=Ti (fun x g=>f x (Ze _ g)) (fun x g=>e x (Ze _ g)) h.2;exact ⟨by rw [h.1,h1],h2⟩
def EB (L:List Lb) (o:Nat) (s:Xaa):Vf L o s=oB (L.map Bs) (o,s):=by
 unfold Vf oB;rw [ck9]
 congr 1
 funext x
 show _=decide (Bs x=(o,s));unfold Bs;rw [cg9]
 simp
def Qs (L:List Lb) (k:Ky):Xaa:=y7 L k.1 k.2
def RF {L:List Lb} {k k':Ky} (h:Qs L k=Qs L k'):k=k':=by
 have d:∀ a b:Xaa,(⟨#[76]⟩:Xaa)++a≠(⟨#[69]⟩:Xaa)++b:=by
  intro a b e;have h1:=Zg (fun b:Xaa=>b.data.toList) e;simp only [eX] at h1;simp at h1
 have has:∀ a b c:Xaa,((⟨#[69]⟩++a)++⟨#[95]⟩)++b=(⟨#[69]⟩:Xaa)++(a++(⟨#[95]⟩++b)):=by
  intro a b c;simp only [ByteArray.append_assoc]
 obtain ⟨o,s⟩:=k;obtain ⟨o',s'⟩:=k';unfold Qs y7 at h;rw [EB,EB] at h;cases h1:oB (L.map Bs) (o,s) with
 | some i =>
  cases h2:oB (L.map Bs) (o',s') with
  | some j =>
   rw [h1,h2] at h;have h:(⟨#[76]⟩:Xaa)++gQ i=⟨#[76]⟩++gQ j:=h;rw [<- pu,<- pu] at h
   have:=ug (xB h)
   subst this;obtain ⟨a,g⟩:=j1 h1;obtain ⟨b,l⟩:=j1 h2;rw [<- g,<- l]
  | none =>
   rw [h1,h2] at h;have h:(⟨#[76]⟩:Xaa)++gQ i=((⟨#[69]⟩++gQ o')++⟨#[95]⟩)++s':=h;rw [has _ _ ⟨#[]⟩] at h;exact absurd h (d _ _)
 | none =>
  cases h2:oB (L.map Bs) (o',s') with
  | some j =>
   rw [h1,h2] at h;have h:((⟨#[69]⟩++gQ o)++⟨#[95]⟩)++s=(⟨#[76]⟩:Xaa)++gQ j:=h;rw [has _ _ ⟨#[]⟩] at h;exact absurd h.symm (d _ _)
  | none =>
   rw [h1,h2] at h;have h:((⟨#[69]⟩++gQ o)++⟨#[95]⟩)++s=((⟨#[69]⟩++gQ o')++⟨#[95]⟩)++s':=h;rw [has _ _ ⟨#[]⟩,has _ _ ⟨#[]⟩] at h;have h:=xB h;have h3:=Zg (fun b:Xaa=>b.data.toList) h;simp only [eX] at h3;have m:Lib.decDigits o++95::s.data.toList=Lib.decDigits o'++95::s'.data.toList:=by
    have e:∀ n:Nat,(gQ n).data.toList=Lib.decDigits n:=fun n=>by unfold gQ; simp
    rw [e,e] at h3;simpa using h3
   obtain ⟨p,f⟩:=Ti (Gy o) (Gy o') m;have q:o=o':=by
    apply ug;rw [pu,pu];unfold gQ;rw [p]
   subst q
   congr 1
   cases s; cases s';simp only at f
   congr 1
   exact Array.ext' f
structure sQ (us:List bU) (w:LW):Prop where
 right:∀ u,u∈us->fA u=0
 wi:WI w (cy 0 us) ((eR 0 us).map kn)
 gl:∀ s,w.gl s=QN us s
def V2 (us:List bU) (k:Ky):Prop:=k∈(cy 0 us).map Bs\/k∈(eR 0 us).map kn
def N3 {us:List bU} {n:Nat} (c:us[n]?=some b) (a:U∈fW b):V2 us (n,U):=by
 unfold fW at a;rw [Zb,Zb] at a;rcases a with a | a
 ·exact .inl ((yH U n us 0).2 ⟨b,cm9 _,by rw [cy9]; exact c,a⟩)
 ·exact .inr ((AT U n us 0).2 ⟨b,cm9 _,by rw [cy9]; exact c,a⟩)
def ML {u:bU} (h:fA u=0):∀ x,x∈u.aQ->x∈fW u:=by
 have h1:=(AY h).2;rw [yE] at h1;unfold yC at h1;simp only [Bool.and_eq_true,decide_eq_true_eq] at h1;exact fun x a=>((zc _ _ _ h1.2.2.2.2).1 x a).1
def xc {l:List Xaa} :gz l U=true↔U∈l:=by
 unfold gz;rw [ay9];constructor
 ·rintro ⟨x,a,b⟩;rw [<- Y3 b]; exact a
 ·intro h;exact ⟨U,h,Y4 rfl⟩
def Kr {us:List bU} (d:∀ u,u∈us->fA u=0) {n o:Nat} (h:jX us n U=some o):V2 us (o,U):=by
 unfold jX at h;split at h
 ·rename_i a;cases h;cases b:us[n]? with
  | none=>rw [b] at a; cases a
  | some u =>
   rw [b] at a;exact N3 b (xc.1 (Zl a))
 ·rw [Zr] at h;obtain ⟨c,h1,_⟩:=h;exact N3 (YZ c) (ML (d _ (Y5 c)) U (xc.1 h1))
def DH {us:List bU} {n:Nat} (a:us[n]?=some b) (c:U∈fW b):jX us n U=some n:=by
 unfold jX;rw [a,bt9,Y8 (by rw [xc.2 c])]
def NZ {us:List bU} (i0:WI O (cy 0 us) ((eR 0 us).map kn)) {k:Ky} (hk:V2 us k) (hn:k∉(eR 0 us).map kn):O.word k=Qs (cy 0 us) k:=by
 have hk:k∈(cy 0 us).map Bs:=hk.elim id fun h=>absurd h hn
 obtain ⟨i,hi⟩:=B8 hk;unfold LW.word Qs y7;rw [EB,i0.num];show (match oB ((cy 0 us).map Bs) k with | some n=>(⟨#[76]⟩:Xaa)++om n | none=>_)=match oB ((cy 0 us).map Bs) (k.1,k.2) with | some i=>(⟨#[76]⟩:Xaa)++gQ i | none=>_
 rw [hi];show (⟨#[76]⟩:Xaa)++om i=⟨#[76]⟩++gQ i;rw [pu]
def W4 (f:Xaa->Nat) (s:Xaa):j3 f (mK s)=f s % 4294967296:=by
 unfold j3 mK;show (0+(1*f s+0)) % 4294967296=_
 congr 1
 omega
def sQ.own {us:List bU} {w:LW} (A:sQ us w) {n:Nat} (hn:n<us.length) (s:Xaa):w.own n s=(jX us n s).map fun o=>(o,s):=Np A.wi A.gl hn s
def sQ.rel {us:List bU} (A:sQ us O) {n:Nat} (hn:n<us.length) (c:O.bad n V=none):zW (V2 us) O.word (Qs (cy 0 us)) (O.lin n V) (ji us (cy 0 us) n V):=by
 intro f g a;unfold LW.lin ji;rw [gh,gh];refine qk fun t d=>?_
 obtain ⟨k,hk⟩:=Bh c t d;rw [A.own hn] at hk;obtain ⟨o,b,rfl⟩:=cf9.1 hk;have hky:=Kr A.right b;unfold IS vU dQ;simp only [A.own hn,b,Option.map_some,Option.getD_some];rw [W4,W4,a _ hky] <;> rfl
def Ey {us:List bU} {q:Nat × oh} (a:q∈eR 0 us):∃ u,us[q.1]?=some u/\q.2∈u.bf:=by
 obtain ⟨i,hi,h1,h2⟩:=xd us 0 q a;rw [ZH] at h1;exact ⟨us[i],by rw [h1]; exact YZ hi,h2⟩
def sQ.two {us:List bU} (A:sQ us O) (d:gC O 0 us=none):wU (eR 0 us) kn (V2 us) O.word (Qs (cy 0 us)) (fun q=>O.lin q.1 q.2.2) fun q=>ji us (cy 0 us) q.1 q.2.2 where
 nd:=yb us 0 fun u b=>by
  have:=ya (A.right u b)
  unfold fW at this;rw [ZV] at this;exact this.2.1
 Qo:=fun q a=>.inr (Zm a)
 ia:=fun k k' hk c h=>word_inj A.wi hk c h
 ib:=fun k k' _ _ h=>RF h
 Jr:=fun k hk hn=>NZ A.wi hk hn
 rel:=fun q a=>by
  obtain ⟨u,b,_⟩:=Ey a;exact A.rel (Zn.1 b).1 (EX d a)
 fa:=fun q _=>ft _ _
 fb:=fun q _=>ft _ _
def Ns (w:LW) (us:List bU):xm w us=wD (eR 0 us) kn w.word fun q=>w.lin q.1 q.2.2:=rfl
def MB (us:List bU):dR us (cy 0 us) us=wD (eR 0 us) kn (Qs (cy 0 us)) fun q=>ji us (cy 0 us) q.1 q.2.2:=by
 unfold dR wD;refine ZR fun q a=>?_
 obtain ⟨u,b,c⟩:=Ey a
 have:jX us q.1 q.2.1=some q.1:=DH b (by
  unfold fW;exact Zv _ (Zm c))
 unfold dQ;rw [this] <;> rfl
def sQ.Wc {us:List bU} {w:LW} (A:sQ us w) (a:gC w 0 us=none):ov (xm w us)=dU (fG (dR us (cy 0 us) us)):=by
 rw [Ns,MB];exact (A.two a).Wc
def sQ.put {us:List bU} (A:sQ us O) (c:gC O 0 us=none) (hc:ov (xm O us)=none) {n:Nat} (hn:n<us.length) (a:O.bad n V=none) (b:V.num<4294967296) {ms:List cX} (d:ms.map fL=(dR us (cy 0 us) us).map fun y=>(y.1,fx (fG (dR us (cy 0 us) us)) y.1)) :
  xk (nV (xm O us)) (O.lin n V)=dC (cF ms) (ji us (cy 0 us) n V):=by
 have h1:cF ms=cF (fG (nV (dR us (cy 0 us) us))):=GR (by rw [qO,d]; rfl);rw [h1];show _=xk (nV (dR us (cy 0 us) us)) _;rw [MB];rw [Ns] at hc ⊢;exact (A.two c).same hc (A.rel hn a) (mW b) (mW b)
def F0 {fs:List cX} (h:es.map fL=fs.map fL):dU es=dU fs:=by
 unfold dU;have b:∀ (a:List cX),(a.findIdx? fun e=>@decide (kV (dJ a) e.name) (Classical.propDecidable _))=(a.map fL).findIdx? fun q=>@decide (kV (dJ a) q.1) (Classical.propDecidable _):=by
  intro a;rw [ck9] <;> rfl
 rw [b,b,h,B7 h]
def RX {J0:List Xab->Hp->Prop} {h0 h:Hp} {s:Nat} {su lb:cd} {LB:List Lb} {us:List bU} {S:List Xaa} (hga:ga<s) (h0g:h0.size<=ga) (e0:Ext h0 h) (b1:bF h ga 54 [vI f,vI g,.string U])
  (pr:Ff h s su lb lZ lZ LB) (v:wh h0 su.p su.l us) (sz:Ml us) (hL:LB.length<=2^40) (hE:∀ n u,us[n]?=some u->Yr us n u) (hW:∀ n u,us[n]?=some u->Vx us LB S n u) (hnd:((dR us LB us).map (·.1)).Nodup) (hlen:(eR 0 us).length<=2^20) (hS:S.length<=2^30)
  (hSd:∀ y,y∈dR us LB us->∀ t,t∈y.2.ah->t.1∈S)
  (hk1:∀ h' i q,dU (fG (dR us LB us))=some i->(eR 0 us)[i]?=some q->Ext h0 h'->Y (.tuple #[.pointer none,Q7 ⟨24,q.1,q.2.1⟩]) h')
  (hk0:∀ h' b' st sd tw dw ms,dU (fG (dR us LB us))=none->ms.map fL=(dR us LB us).map (fun y=>(y.1,fx (fG (dR us LB us)) y.1))->Ext h0 h'->Ff h' s su lb st sd LB->wm h' b' st tw->wm h' b' sd dw->zH us LB ms (·.text) us.length tw->zH us LB ms (·.data) us.length dw->Y (.tuple #[.pointer (some ⟨s,0,none⟩),Q7 ⟨0,0,dV⟩]) h') :
  Tm su.p su.l ⟨ga,0,none⟩ ⟨s,0,none⟩ [J0] Y h:=by
 unfold Tm bn ay bz bX bC dF ax aS cm aK dp;have hll:=v.len;have hmany:=sz.many;have hgs:=pr.box.lt;have hz0:=e0.size;refine aU (cs:=Q0) (fun y k h'=>∃ (i:Nat) (ms:List cX) (ks:List Nat),y.2.2.1=(i:Int)/\k=us.length-i/\i<=us.length/\Ext h h'/\Wt h' h.size y.1.1 y.1.2.1 y.1.2.2 y.2.1.1 y.2.1.2.1 y.2.1.2.2 ms ks/\ms.map fL=dR us LB (us.take i)/\ks=rG (us.take i))
  ((none,0,0),(none,0,0),(0:Int),()) us.length rfl ⟨0,[],[],rfl,rfl,ad,Ch.refl _ _,⟨SL.nil _ _ _ _,SL.nil _ _ _ _,aj⟩,rfl,rfl⟩ ?_
 rintro ⟨⟨p9,l10,l11⟩,⟨p12,l13,l14⟩,n15,⟨⟩⟩ k h1 ⟨i,ms,ks,hi,rfl,hle,e1,N,A,rfl⟩;simp only at hi N;subst hi;refine ak ?_;refine aP ?_ ?_<;>intro q
 ·have F:i<us.length:=ad
  have hug:us[i]?=some us[i]:=YZ F;have P:us.take (i+1)=us.take i++[us[i]]:=Y2 F;have hti:(us.take i).length=i:=by rw [Zi]; omega
  have hwt:=iC i;obtain ⟨au,sa,sb,sc,sd,hau,hcu,va⟩:=v.cells i F;have hum:=Y5 F;generalize us[i]=u at hug P hcu va hum;have ew:=hE i u hug;have hlq:=va.bf.len;have hue:=sz.bf u hum;refine aU (cs:=Q0) (fun y k h'=>∃ (j:Nat) (ms:List cX) (ks:List Nat),y.2.2.1=(j:Int)/\k=u.bf.length-j/\j<=u.bf.length/\Ext h h'/\Wt h' h.size y.1.1 y.1.2.1 y.1.2.2 y.2.1.1 y.2.1.2.1 y.2.1.2.2 ms ks /\
   ms.map fL=dR us LB (us.take i)++(u.bf.take j).map (fun e=>(dQ us LB i e.1,ji us LB i e.2))/\ks=rG (us.take i)++List.range j) ((p9,l10,l11),(p12,l13,l14),(0:Int),()) u.bf.length rfl ⟨0,ms,_,rfl,rfl,ad,e1,N,by simpa using A,aj⟩ ?_
  rintro ⟨⟨p16,G,l18⟩,⟨Q,H,R⟩,n22,⟨⟩⟩ k h2 ⟨j,I,ks2,hj,rfl,hlj,C,V,D,rfl⟩;simp only at hj V;subst hj;refine ak ?_;have e02:=e0.trans C;have z2:=C.size;have hwj:=iC j;have hcq:aI h2 ((au.add (i*4)).add 2) 0 [.slice sc.p sc.l sc.c]:=⟨by rw [add_add]; exact (aX e02 aj _ _ hcu).2.2.1,trivial⟩
  have hkl:=tH (us.take i) 0;have hsum1:(eR 0 (us.take i)).length<=(eR 0 us).length:=by
   have:=sS
   rw [tH,tH];unfold rG
   conv=>rhs; rw [<- ZG i us]
   rw [bb9,Y0];omega
  refine bP hau ?_;rw [cB i];refine av ((sc.p,sc.l,sc.c),()) hcq (ak ?_);refine aP ?_ ?_<;>intro r
  ·have W:j<u.bf.length:=ad
   have htj:u.bf.take (j+1)=u.bf.take j++[u.bf[j]]:=Y2 W;refine bP hau ?_;refine av ((sc.p,sc.l,sc.c),()) hcq (ak ?_);obtain ⟨aq,pq,mq,cq,haq,hce,O,_⟩:=(va.bf.ai e02).cells j W;have hem:=Y5 W;generalize u.bf[j]=e at htj hce O hem;obtain ⟨M,⟨o,hoo⟩,hsn⟩:=ew e hem;refine bP haq ?_;rw [cB j];refine av (e.1,(pq,mq,cq),(e.2.num:Int),()) hce (ak ?_);refine bG ?_;intro h3 b3 e3 z3;refine bQ b3 ?_;intro h4 b4 k4 z4;have b4:bF h4 h2.size 88 [.string e.1,.slice pq mq cq,.int .u32 (e.2.num:Int)]:=b4;have X:Ext h2 h4:=bZ e3 k4;refine az b4 (e.1,()) (ak ?_);rw [aC];refine az b4 ((pq,mq,cq),(e.2.num:Int),()) (ak ?_);have e04:=e02.trans X;have prk:∀ {h':Hp},Ext h h'->Ff h' s su lb lZ lZ LB:=fun e=>pr.ai e
   refine aJ (JT (prk (C.trans X)) (v.ai e04) sz F hL hoo hsn) ?_;rintro _ h5 ⟨rfl,e5⟩;refine ⟨(dQ us LB i e.1,()),rfl,ak ?_⟩;have b45:=b4.ai e5 aj;refine ⟨⟨b45.cells _ rfl,trivial⟩,?_⟩;have e25:=X.trans e5;refine aJ (FW (d:=cq) (prk (C.trans e25)) (v.ai (e02.trans e25)) sz F hL (O.vw.ai e25 aj) M.nf M.num M.len M.own M.sz) ?_;rintro _ h6 ⟨e6,p6,l6,c6,rfl,s6⟩;refine ⟨((p6,l6,c6),((ji us LB i e.2).num:Int),()),rfl,ak ?_⟩;have b46:=b45.ai e6 aj;refine ⟨⟨b46.cells _ rfl,trivial⟩,?_⟩;have e26:=e25.trans e6;have o6:=V.ext e26;have z26:=e26.size;have z25:=e25.size;have hl17:G=I.length:=by have:=V.out.1; rwa [YY] at this
   have hl20:H=(rG (us.take i)++List.range j).length:=by have:=V.num.1; rwa [YY] at this
   rw [Y0,as9] at hl20;have hm2:I.length=(eR 0 (us.take i)).length+j:=by
    have:=Zg List.length D
    rw [YY,Y0,YY,Zi,ZQ hlj] at this;unfold dR at this
    rwa [YY] at this
   refine gn (vs:=AN ⟨dQ us LB i e.1,p6,l6,c6,ji us LB i e.2⟩) C9 GH rfl ad ad (Ib _ _ _ _ _) rfl rfl o6.out ad ad ad (fun h' x=>⟨(b46.ai x aj).cells _ rfl,(b46.ai x aj).cells _ rfl,trivial⟩) ?_;intro p7 c7 h7 s7 k7 hp7;have hbx7:=SL.r6 o6.out;have hnb:h2.size∉aF p16:=fun hh=>by have:=(V.out.cj hh).2; omega
   have b47:=b46.ai k7 hnb;refine ⟨⟨b47.cells _ rfl,b47.cells _ rfl,trivial⟩,?_⟩;have n7:SL h7 h.size 3 1 Q H R ((rG (us.take i)++List.range j).map Mr):=SL.jT o6.num k7 hbx7 bY;have i7:∀ x,x∈I++[⟨dQ us LB i e.1,p6,l6,c6,ji us LB i e.2⟩]->SL h7 h.size 66 2 x.p x.l x.c (x.x.ah.map dh):=fun x L=>by
    rcases Zb.1 L with L | L
    ·exact SL.jT (o6.fI x L) k7 hbx7 bY
    ·rw [Zh.1 L];exact SL.jT (s6.mono ad) k7 hbx7 bY
   have z7:=k7.size;refine kg (vs:=Mr j) En Sq rfl ad ad (E2 _) rfl rfl n7 ad ad ad ?_;intro p8 c8 h8 s8 k8 hp8;have hbx8:=SL.r6 n7;have e7:Ext h h7:=Ch.trans (C.trans e26) k7 (fun q hq hl=>by have:=(V.out.cj hq).1; omega);have e8:Ext h h8:=Ch.trans e7 k8 (fun q hq hl=>by have:=(n7.cj hq).1; omega);refine aG (cs:=Q0) ((p7,G+1,c7),(p8,H+1,c8),((j+1:Nat):Int),()) (u.bf.length-(j+1)) rfl ad (Zg (fun U=>[Value.slice p7 (G+1) c7,.slice p8 (H+1) c8,Value.int .i64 U]) hwj)
    ⟨j+1,I++[⟨dQ us LB i e.1,p6,l6,c6,ji us LB i e.2⟩],_,rfl,rfl,ad,e8,⟨?_,?_,fun x L=>SL.jT (i7 x L) k8 hbx8 bY⟩,?_,rfl⟩
   ·have:SL h7 h.size 88 3 p7 (G+1) c7 ((I++[(⟨dQ us LB i e.1,p6,l6,c6,ji us LB i e.2⟩:cX)]).map AN):=by rw [Za]; exact s7
    exact SL.jT this k8 hbx8 bY
   ·rw [List.range_succ,<- Zp,Za];exact s8
   ·rw [htj,Za,Za,D,Zp] <;> rfl
  ·have:j=u.bf.length:=ad
   subst this;rw [ZA] at D;refine aG (cs:=Q0) ((p16,G,l18),(Q,H,R),((i+1:Nat):Int),()) (us.length-(i+1)) rfl ad (Zg (fun U=>[Value.slice p16 G l18,.slice Q H R,Value.int .i64 U]) hwt)
    ⟨i+1,I,_,rfl,rfl,ad,C,V,?_,?_⟩
   ·rw [D,P,Rp,hti]
   ·rw [P,KS]
 ·have:i=us.length:=ad
  subst this;rw [ZA] at A N;have z1:=e1.size;have e01:=e0.trans e1;have pr1:=pr.ai e1;have b11:=b1.ai e1 aj;have hkm:ms.map fL=(fG (dR us LB us)).map fL:=by rw [A,qO]
  have hml:ms.length=(eR 0 us).length:=by
   have:=Zg List.length A
   rw [YY] at this;rw [this];unfold dR;rw [YY]
  have hnm:(bh ms).Nodup:=by
   have:bh ms=(dR us LB us).map (·.1):=by
    rw [<- A,Zs] <;> rfl
   rw [this];exact hnd
  have hmem:∀ e,e∈ms->fL e∈dR us LB us:=fun e J=>by
   rw [<- A];exact Y9.2 ⟨e,J,rfl⟩
  have E:∀ e,e∈ms->uB S e.x:=fun e J=>by
   have h1:=hmem e J;have h2:=hSd _ h1;unfold dR at h1;obtain ⟨q,hq,hqe⟩:=Y9.1 h1;have L:e.x=ji us LB q.1 q.2.2:=(Zg (·.2) hqe).symm;obtain ⟨n,hn,hn1,hn2⟩:=xd us 0 q hq;have hqn:q.1=n:=ad
   have hew:=hE n us[n] (YZ hn) q.2 hn2;exact ⟨by rw [L]; exact KD _ _ _ _,by rw [L]; exact FN hew.1.num,h2⟩
  have ve:rW h1 p9 l10 ms:=⟨by have:=N.out.1; rwa [YY] at this,fun i hi=>by
   obtain ⟨f,ha,hc⟩:=SL.cells N.out (i:=i) (by rw [YY]; exact hi);rw [Y7] at hc;exact ⟨f,ha,hc⟩,fun e J=>(N.fI e J).Qk⟩
  refine aJ (Lz (c:=l11) (B:=h.size) z1 ve (fun e J i hi=>(N.fI e J).cj hi) hnm ad hS E) ?_;rintro w h2 ⟨C,hw⟩;rw [F0 hkm] at hw;cases hf:dU (fG (dR us LB us)) with
  | some i0 =>
   rw [hf] at hw;subst hw;refine ⟨((none,0,0),(i0:Int),(24:Int),()),rfl,ak ?_⟩;refine cL rfl ?_;have hi0:i0<(eR 0 us).length:=by
    have h1:=hf;unfold dU at h1;rw [Zr] at h1;obtain ⟨h2,_⟩:=h1
    have:(fG (dR us LB us)).length=(eR 0 us).length:=by unfold fG dR; rw [YY,YY]
    omega
   exact Q5 (lv:=2) (i0:=i0) rfl h0g (e01.trans C) (b11.ai C aj) (v.ai (e01.trans C)) hmany (N.num.br C aj) ad (YZ hi0) fun h' e'=>hk1 h' i0 _ hf (YZ hi0) e'
  | none =>
   rw [hf] at hw;obtain ⟨p',l',c',ns,rfl,on⟩:=hw;refine ⟨((p',l',c'),(0:Int),(0:Int),()),rfl,ak ?_⟩;refine cC rfl ?_;have hin:∀ m,m∈ns->∃ e,e∈ms/\m.name=e.name/\m.x=Tu (cF ms) ms.length e.x:=fun m hm=>by
    obtain ⟨j,hj,rfl⟩:=Zt hm;have hj':j<ms.length:=by rw [<- on.len]; exact hj
    obtain ⟨h1,h2⟩:=on.eq j ms[j] ns[j] (YZ hj') (YZ hj);exact ⟨ms[j],Y5 hj',h1,h2⟩
   have vn:rW h2 p' l' ns:=⟨by have:=on.out.1; rwa [YY] at this,fun i hi=>by
    obtain ⟨f,ha,hc⟩:=SL.cells on.out (i:=i) (by rw [YY]; exact hi);rw [Y7] at hc;exact ⟨f,ha,hc⟩,on.fI⟩
   have hkn:ns.map fL=(dR us LB us).map (fun y=>(y.1,fx (fG (dR us LB us)) y.1)):=by
    rw [<- A,Zs,A];apply ca9
    ·rw [YY,YY,on.len]
    ·intro j h1' Z;rw [YY] at h1' Z;rw [Y7,Y7];obtain ⟨h1,h2⟩:=on.eq j ms[j] ns[j] (YZ Z) (YZ h1');have h3:=RL hnm (fun e J=>(E e J).num) (Y5 Z);unfold fL;rw [h1,h2,h3];show _=(ms[j].name,fx (fG (dR us LB us)) ms[j].name);rw [Kd hkm]
   have z2:=C.size;refine Sd (lv:=2) (S:=S) rfl hga h0g (e01.trans C) (b11.ai C aj) (pr1.ai C) (v.ai (Ch.refl _ _)) sz hL vn (fun i hi=>by have:=(on.out.cj hi).1; omega) (fun e J i hi=>by have:=(on.low e J i hi).1; omega) (by rw [on.len]; omega) hS (fun e J=>by
    obtain ⟨d,hd,_,L⟩:=hin e J;rw [L];exact uB.it E (E d hd) _) hW ?_
   intro h' st sd tw dw e' pr' t' d' i1 i2;exact hk0 h' _ st sd tw dw ns hf hkn e' pr' t' d' i1 i2
theorem A2 (u:bU):∀ (l:List bU) (n:Nat),cy n (l++[u])=cy n l++G4 (n+l.length) u
 | [],n=>by simp [cy]
 | y::l,n=>by
  simp only [List.cons_append,cy,List.length_cons];rw [A2 u l (n+1),show n+1+l.length=n+(l.length+1) from ad,Zp]
def BD (us:List bU) (i:Nat):(cy 0 (us.take i)).length<=(cy 0 us).length:=by
 have c:∀ (a b:List bU) (n:Nat),(cy n a).length<=(cy n (a++b)).length:=by
  intro a
  induction a with
  | nil=>intro b n; simp [cy]
  | cons u a d =>
   intro b n;simp only [List.cons_append,cy,List.length_append]
   have:=d b (n+1)
   omega
 have:=c (us.take i) (us.drop i) 0
 rwa [ZG] at this
structure Tv (us:List bU) (S:List Xaa):Prop where
 sz:Ml us
 eO:(cy 0 us).length<=2^39
 bf:∀ n u,us[n]?=some u->Yr us n u
 items:∀ n u,us[n]?=some u->Vx us (cy 0 us) S n u
 nd:((dR us (cy 0 us) us).map (·.1)).Nodup
 len:(eR 0 us).length<=2^20
 names:S.length<=2^30
 fI:∀ y,y∈dR us (cy 0 us) us->∀ t,t∈y.2.ah->t.1∈S
def G0 (us:List bU) (su:cd) (w:Xab) (h':Hp):Prop :=
 if (gj us).vD≠0 then w=.tuple #[.pointer none,Q7 (gj us)]
 else (∃ i q,dU (fG (dR us (cy 0 us) us))=some i/\(eR 0 us)[i]?=some q/\w=.tuple #[.pointer none,Q7 ⟨24,q.1,q.2.1⟩]) \/
  ∃ g b' lb st sd tw dw ms,dU (fG (dR us (cy 0 us) us))=none/\w=.tuple #[.pointer (some ⟨g,0,none⟩),Q7 ⟨0,0,dV⟩]/\ms.map fL=(dR us (cy 0 us) us).map (fun y=>(y.1,fx (fG (dR us (cy 0 us) us)) y.1)) /\
   Ff h' g su lb st sd (cy 0 us)/\wm h' b' st tw/\wm h' b' sd dw/\zH us (cy 0 us) ms (·.text) us.length tw/\zH us (cy 0 us) ms (·.data) us.length dw
def K9 {su:cd} {us:List bU} {S:List Xaa} (v:wh H su.p su.l us) (N:(gj us).vD=0->Tv us S):HC Xaz 26 #[.slice su.p su.l su.c] H fun w h'=>Ext H h'/\G0 us su w h':=by
 refine bi (args:=[.slice su.p su.l su.c]) mixed Tryz.func26 aw (oS su.p su.l su.c) ?_;unfold kH aY bj bn ay jE bz aT bC ax bK aS cm aK dp;have hll:=v.len;refine bG ?_;intro h1 b1 J z1;refine aJ (IY (c:=su.c) (v.ai J)) ?_;rintro _ h2 ⟨rfl,r⟩;refine ⟨(((gj us).vD:Int),((gj us).unit:Int),(gj us).name,()),rfl,ak ?_⟩;have b12:=b1.ai r aj;have e02:=J.trans r;refine bG ?_;intro h3 O P z3;refine bQ O ?_;intro h4 f Q z4;have f:bF h4 h2.size 54 [vI ((gj us).vD:Int),vI ((gj us).unit:Int),.string (gj us).name]:=f;have j:Ext h2 h4:=bZ P Q;have e04:=e02.trans j;have b14:=b12.ai j aj;have z2:=r.size;refine az f (((gj us).vD:Int),()) (ak ?_);refine ao ?_ ?_<;>intro g
 ·have g:(gj us).vD≠0:=by
   intro R;rw [R] at g;cases g
  refine az f (((gj us).vD:Int),((gj us).unit:Int),(gj us).name,()) (ak ?_);refine ⟨⟨f.cells _ rfl,trivial⟩,?_⟩;refine bQ b14 ?_;intro s a U V;have a:bF s H.size 54 [vI ((gj us).vD:Int),vI ((gj us).unit:Int),.string (gj us).name]:=a;refine az a (((gj us).vD:Int),((gj us).unit:Int),(gj us).name,()) ?_;refine ⟨bZ e04 U,?_⟩;unfold G0;rw [Y8 g] <;> rfl
 ·have g:(gj us).vD=0:=by
   have:(((gj us).vD:Nat):Int)=0:=by simpa using g
   omega
  have C:=N g;refine bG ?_;intro s a W V;have a:bF s h4.size 70 [su.v,lZ.v,lZ.v,lZ.v]:=a;have v4:=v.ai e04;have hmany:=C.sz.many;refine aU (cs:=cn) (fun y k h'=>∃ (i:Nat) (lb:cd),y.1=(i:Int)/\k=us.length-i/\i<=us.length/\Ext h4 h'/\Ff h' h4.size su lb lZ lZ (cy 0 (us.take i))) ((0:Int),()) us.length rfl
   ⟨0,lZ,rfl,rfl,ad,W,⟨a,SL.nil _ _ _ _⟩⟩ ?_
  rintro ⟨n8,⟨⟩⟩ k h6 ⟨i,lb,hi,rfl,X,o,pr⟩;simp only at hi;subst hi;refine ak ?_;have hw:=iC i;refine aP ?_ ?_<;>intro q
  ·have b:i<us.length:=ad
   have m:us.take (i+1)=us.take i++[us[i]]:=Y2 b;have t:(us.take i).length=i:=by rw [Zi]; omega
   obtain ⟨K,sa,sb,sc,sd,n,d,x⟩:=v4.cells i b;have hum:=Y5 b;generalize us[i]=u at m d x hum;have h1t:=C.sz.text u hum;have h1d:=C.sz.data u hum;have hlt:=BD us i;have hlb:=C.eO;have hl1:=sR i 0 u.text 0;have L:∀ {h':Hp},Ext h4 h'->aI h' (K.add (i*4)) 0 [.slice sa.p sa.l sa.c]/\aI h' ((K.add (i*4)).add 1) 0 [.slice sb.p sb.l sb.c]:=fun e=>⟨⟨(aX e aj _ _ d).1,trivial⟩,⟨by rw [add_add]; exact (aX e aj _ _ d).2.1,trivial⟩⟩
   refine bP n ?_;rw [cB i];refine av ((sa.p,sa.l,sa.c),()) (L o).1 (ak ?_);refine aJ (Fp (c:=sa.c) (Zc _) o pr x.text ad i 0) ?_;rintro _ h7 ⟨rfl,M,z7,Y,A⟩;refine ⟨(),rfl,ak ?_⟩;refine bP n ?_;refine av ((sb.p,sb.l,sb.c),()) (L M).2 (ak ?_);refine aJ (Fp (c:=sb.c) (Zc _) M A x.data (by rw [Y0]; omega) i 1) ?_;rintro _ h8 ⟨rfl,Z,z8,B,D⟩;refine ⟨(),rfl,ak ?_⟩;refine aG (cs:=cn) (((i+1:Nat):Int),()) (us.length-(i+1)) rfl ad (Zg (fun z=>[Value.int .i64 z]) hw) ⟨i+1,B,rfl,rfl,ad,Z,?_⟩;rw [m,A2,t,ZH];unfold G4;rw [<- Zp];exact D
  ·have:i=us.length:=ad
   subst this;rw [ZA] at pr;have e06:=e04.trans o;refine RX (h0:=H) (S:=S) (by have:=e04.size; omega) (Zc _) e06 (b14.ai o aj) pr v C.sz (by have:=C.eO; omega) C.bf C.items C.nd C.len C.names C.fI (fun h' i q E hq F=>⟨F,?_⟩) (fun h' b' st sd tw dw ms E G F I t' d' i1 i2=>⟨F,?_⟩)
   ·unfold G0;rw [Y1 ad];exact .inl ⟨i,q,E,hq,rfl⟩
   ·unfold G0;rw [Y1 ad];exact .inr ⟨_,b',lb,st,sd,tw,dw,ms,E,rfl,G,I,t',d',i1,i2⟩
def KW {us:List bU} (A:sQ us O) {n:Nat} (hn:n<us.length) (x:cE):O.bad n x=nh us n x:=by
 unfold LW.bad nh
 have:(fun t:Xaa × Nat=>(O.own n t.1).isNone)=fun t=>(jX us n t.1).isNone:=by
  funext t
  rw [A.own hn]
  all_goals (cases jX us n t.1 <;> rfl)
 rw [this]
def yq (w:LW) (n:Nat) (u:bU):sV w n u=(cO u).findSome? (w.bad n):=by
 unfold sV LW.zR cO;rw [cj9,cj9,List.findSome?_map,List.findSome?_map,List.findSome?_map,Option.or_assoc] <;> rfl
theorem Fo {us:List bU} {n:Nat}:∀ (l:List cE),(∀ x,x∈l->∀ t,t∈x.ah->¬ t.1.data.toList=[])->((rN us n l).data.toList=[]↔l.findSome? (nh us n)=none)/\∀ s,l.findSome? (nh us n)=some s->rN us n l=s
 | [],_=>by
  refine ⟨⟨fun _=>rfl,fun _=>rfl⟩,fun s c=>by cases c⟩
 | x::l,h=>by
  obtain ⟨d,f⟩:=Fo l fun y g=>h y (Ze _ g)
  have hx:=h x aj;have b:rN us n (x::l)=if (et us n x).data.toList=[] then rN us n l else et us n x:=by
   unfold rN;rw [ZF,ch9]
   by_cases e:(et us n x).data.toList=[]
   ·rw [Y8 e];simp [e]
   ·rw [Y1 e];simp [e]
  rw [List.findSome?_cons];cases a:nh us n x with
  | none =>
   have:et us n x=⟨#[]⟩:=by unfold et; rw [a]; rfl
   rw [b,Y8 (by rw [this])];exact ⟨d,f⟩
  | some s =>
   have h1:et us n x=s:=by unfold et; rw [a]; rfl
   have h2:¬ s.data.toList=[]:=by
    unfold nh at a;obtain ⟨t,i,rfl⟩:=cf9.1 a;exact hx t (List.mem_of_find?_eq_some i)
   rw [b,Y1 (by rw [h1]; exact h2),h1];refine ⟨⟨fun k=>absurd k h2,fun k=>by cases k⟩,fun r j=>by cases j; rfl⟩
def U' {us:List bU} (A:sQ us O) (a:∀ u,u∈us->∀ x,x∈cO u->∀ t,t∈x.ah->¬ t.1.data.toList=[]) {n:Nat} (hn:n<us.length):BY us n=(sV O n us[n]).map fun s=>(n,s):=by
 have c:O.bad n=nh us n:=funext fun x=>KW A hn x
 obtain ⟨h1,h2⟩:=Fo (us:=us) (n:=n) (cO us[n]) (a _ (Y5 hn));unfold BY;rw [YZ hn,ak9,yq,c];cases b:(cO us[n]).findSome? (nh us n) with
 | none=>rw [Y8 (h1.2 b)]; rfl
 | some s =>
  rw [b] at h1;have h2:=h2 s b;rw [Y1 (fun k=>by cases h1.1 k),h2] <;> rfl
theorem Ju {us:List bU} {w:LW} (A:sQ us w) (b:∀ u,u∈us->∀ x,x∈cO u->∀ t,t∈x.ah->¬ t.1.data.toList=[]):∀ (k n:Nat),us.length-n=k->n<=us.length->(∀ j,j<n->BY us j=none)->Oy us=gC w n (us.drop n)
 | 0,n,hk,hn,c=>by
  have:n=us.length:=ad
  subst this;rw [ai9];exact km _ _ c
 | k+1,n,hk,hn,c=>by
  have a:n<us.length:=ad
  rw [Bp w us n a];have hu:=U' A b a;cases d:sV w n us[n] with
  | some s =>
   rw [d] at hu;exact kx _ _ _ n a c hu
  | none =>
   rw [d] at hu;refine Ju A b k (n+1) ad a fun j f=>?_
   by_cases e:j=n
   ·subst e; exact hu
   ·exact c j ad
def QV (g:Good V):∀ t,t∈V.ah->¬ t.1.data.toList=[]:=by
 intro t a e;have h:=g.NW t a;rw [e] at h;cases h
def Rt (g:Good V):∀ t,t∈V.ah->t.1.size<=32:=by
 intro t a;have h:=g.NW t a;unfold dr at h;simp only [Bool.and_eq_true] at h
 have:=Y3 h.1.1.1.2
 simpa using this
def P7 (us:List bU):Except Fl LP->Prop
 | .error f=>f.vD≠0/\(gj us=f\/((gj us).vD=0/\(us.length<=64/\∃ w,sQ us w/\gC w 0 us=none)/\∃ i q,dU (fG (dR us (cy 0 us) us))=some i/\(eR 0 us)[i]?=some q/\f=⟨24,q.1,q.2.1⟩))
 | .ok P=>(gj us).vD=0/\us.length<=64/\P.us=us/\P.D=xm P.w us/\sQ us P.w/\gC P.w 0 us=none/\ov (xm P.w us)=none/\dU (fG (dR us (cy 0 us) us))=none
def S0 {D:List (Xaa × cE)} {i:Nat} (h:ov D=some i):i<D.length:=by
 unfold ov at h;rw [Zr] at h;exact h.1
def Iv {us:List bU} (sm:∀ u,u∈us->∀ x,x∈cO u->x.num<4294967296/\∀ t,t∈x.ah->t.2<4294967296):P7 us (ry us):=by
 unfold ry
 by_cases h0:us.length=0
 ·rw [Y8 h0];refine ⟨aj,.inl ?_⟩;unfold gj;rw [Y8 h0]
 rw [Y1 h0]
 by_cases b:64<us.length
 ·rw [Y8 b];refine ⟨aj,.inl ?_⟩;unfold gj;rw [Y1 h0,Y8 b]
 rw [Y1 b];have a:gj us=match us.findIdx? fun u=>decide (fA u≠0) with
  | some n=>⟨31,n,dV⟩
  | none=>match Fh us with
   | some q=>⟨22,q.1,q.2⟩
   | none=>match Oy us with
    | some q=>⟨23,q.1,q.2⟩
    | none=>⟨0,0,dV⟩:=by
  unfold gj;rw [Y1 h0,Y1 b] <;> rfl
 cases e:us.findIdx? fun u=>decide (fA u≠0) with
 | some n =>
  rw [e] at a;exact ⟨aj,.inl a⟩
 | none =>
  rw [e] at a;have f:∀ u,u∈us->fA u=0:=by
   intro u hu;rw [ZJ] at e
   have:=Zf (e u hu)
   omega
  have i0:=Tp f;have g:∀ s,(oy 0 us Tj).gl s=none:=by
   have p:∀ (n sec:Nat) (l:List cH) (i:Nat) (w:LW),(jo n sec i l w).gl=w.gl:=by
    intro n sec l
    induction l with
    | nil=>intro i w; rfl
    | cons x l d =>
     intro i w;rw [jo,d];unfold j2;split <;> rfl
   have y:∀ (n:Nat) (l:List oh) (w:LW),(l.foldl (wx n) w).gl=w.gl:=by
    intro n l
    induction l with
    | nil=>intro w; rfl
    | cons x l d=>intro w; rw [ZD,d]; rfl
   have z:∀ (l:List bU) (n:Nat) (w:LW),(oy n l w).gl=w.gl:=by
    intro l
    induction l with
    | nil=>intro n w; rfl
    | cons u l d =>
     intro n w;rw [oy,d];unfold GM;rw [y,p,p]
   intro s;rw [z] <;> rfl
  have hm:=FJ us us.length 0 (oy 0 us Tj) ad (cm9 _) (fun s=>by rw [g]; rfl) (fun j h=>absurd h ad);rw [List.drop_zero] at hm;simp only;cases k:lx 0 us (oy 0 us Tj) with
  | error q =>
   rw [k] at hm;have hm:Fh us=some q:=hm;rw [hm] at a;exact ⟨aj,.inl a⟩
  | ok w =>
   rw [k] at hm;obtain ⟨B,C⟩:Fh us=none/\∀ s,w.gl s=QN us s:=hm
   rw [B] at a;have A:sQ us w:=⟨f,i0.meet k,C⟩
   have m:∀ u,u∈us->∀ x,x∈cO u->∀ t,t∈x.ah->¬ t.1.data.toList=[]:=fun u hu x D=>QV (BG (f u hu) (sm u hu) x D)
   have hu:=Ju A m us.length 0 ad (cm9 _) (fun j h=>absurd h ad);rw [List.drop_zero] at hu;rw [hu] at a;cases c:gC w 0 us with
   | some q =>
    rw [c] at a;simp only [c];exact ⟨aj,.inl a⟩
   | none =>
    rw [c] at a;have r:(gj us).vD=0:=by rw [a]
    have hcy:=A.Wc c;cases hc:ov (xm w us) with
    | some i =>
     have hi:=S0 hc;have hi:i<(eR 0 us).length:=by unfold xm at hi; rwa [YY] at hi
     simp only [c,hc];refine ⟨aj,.inr ⟨r,⟨ad,w,A,c⟩,i,(eR 0 us)[i],by rw [<- hcy,hc],YZ hi,?_⟩⟩;have o:((eR 0 us).map fun q=>(q.1,q.2.1)).getD i (0,dV)=((eR 0 us)[i].1,(eR 0 us)[i].2.1):=by
      rw [ZS,ZL,YZ hi] <;> rfl
     rw [o]
    | none =>
     simp only [c,hc];exact ⟨r,ad,rfl,rfl,A,c,hc,by rw [<- hcy,hc]⟩
def U5 (us:List bU):List Xaa:=((cy 0 us).map Bs++(eR 0 us).map kn).map (Qs (cy 0 us))
def OW {us:List bU} (sm:IJ us) (l:us.length<=64) (A:sQ us O) (E:gC O 0 us=none):Tv us (U5 us):=by
 have r:Hb us:=⟨A.right,l⟩
 have G:∀ u,u∈us->∀ x,x∈cO u->Good x:=fun u b=>BG (A.right u b) (sm.num u b)
 have m:∀ n u,us[n]?=some u->∀ x,x∈cO u->O.bad n x=none:=by
  intro n u b x c;have hn:=(Zn.1 b).1;have h1:=nC us 0 E n hn;have h:us[n]=u:=(Zn.1 b).2;rw [ZH,h,yq,Z4] at h1;exact h1 x c
 have i:∀ n u,us[n]?=some u->∀ x,x∈cO u->∀ t,t∈x.ah->∃ o,jX us n t.1=some o:=by
  intro n u b x c t j;obtain ⟨k,hk⟩:=Bh (m n u b x c) t j;rw [A.own (Zn.1 b).1] at hk;obtain ⟨o,C,_⟩:=cf9.1 hk;exact ⟨o,C⟩
 have d:∀ n u,us[n]?=some u->∀ x,x∈cO u->PN us n x:=by
  intro n u b x c;have hm:=ZU b;have g:=G u hm x c;refine ⟨g.nf,g.num,?_,i n u b x c,fun t j=>?_⟩
  ·have:=sm.len hm c
   omega
  ·have:=Rt g t j
   omega
 have D:∀ n u,us[n]?=some u->∀ x,x∈cO u->∀ t,t∈x.ah->dQ us (cy 0 us) n t.1∈U5 us:=by
  intro n u b x c t j;obtain ⟨o,C⟩:=i n u b x c t j;unfold dQ;rw [C,Option.getD_some];exact Zm (f:=Qs (cy 0 us)) (a:=(o,t.1)) (Zb.2 (Kr A.right C))
 have s:∀ u:bU,∀ x,x∈u.text->x.e∈cO u:=fun u x c=>Zq _ (Zq _ (Zm c))
 have z:∀ u:bU,∀ x,x∈u.data->x.e∈cO u:=fun u x c=>Zq _ (Zv _ (Zm c))
 have B:∀ u:bU,∀ e,e∈u.bf->e.2∈cO u:=fun u e h=>Zv _ (Zm h)
 refine ⟨Ml.of l A.right,?_,fun n u b e h=>⟨d n u b _ (B u e h),?_,?_⟩,fun n u b=>⟨fun x c=>⟨d n u b _ (s u x c),D n u b _ (s u x c)⟩,fun x c=>⟨d n u b _ (z u x c),D n u b _ (z u x c)⟩⟩,?_,?_,?_,?_⟩
 ·have:=r.eO; omega
 ·exact ⟨n,DH b (Zv _ (Zm h))⟩
 ·have h1:=(AY (A.right u (ZU b))).2;unfold xE at h1;simp only [Bool.and_eq_true] at h1;have h2:=(vr h1.1.2 e h).1;unfold dr at h2;simp only [Bool.and_eq_true] at h2;have h3:=Y3 h2.1.1.1.2;have J:e.1.size<=32:=by simpa using h3
  omega
 ·rw [MB];exact (A.two E).symm.VQ
 ·have:=r.eqs; omega
 ·unfold U5;rw [YY,Y0,YY,YY];have h1:=r.eO;have h2:=r.eqs;omega
 ·intro y F t j;unfold dR at F;obtain ⟨q,H,rfl⟩:=Y9.1 F;obtain ⟨u,b,h⟩:=Ey H;obtain ⟨p,I,e⟩:=Gr j;rw [e];exact D q.1 u b _ (B u q.2 h) p I
theorem iE {h:Hp} {a:Xax}:∀ (n:Nat) (b:List Xab) (i:Nat),aI h a i b->aI h a (i+n) (b.drop n)
 | 0,b,i,hc=>hc
 | n+1,[],i,hc=>trivial
 | n+1,v::b,i,hc=>by
  have:=iE n b (i+1) hc.2
  rw [show i+1+n=i+(n+1) from ad] at this;exact this
theorem jD {h:Hp} {a:Xax}:∀ (b:List Xab) (o i:Nat),aI h a (o+i) b->aI h (a.add o) i b
 | [],_,_,_=>trivial
 | v::b,o,i,h1=>⟨by have:=h1.1; rw [add_add]; exact this,jD b o (i+1) h1.2⟩
theorem fg {h:Hp} {a:Xax}:∀ (n:Nat) (b:List Xab) (i:Nat),aI h a i b->aI h a i (b.take n)
 | 0,b,i,hc=>trivial
 | n+1,[],i,hc=>trivial
 | n+1,v::b,i,hc=>⟨hc.1,fg n b (i+1) hc.2⟩
def _root_.Go.Sx.sC.tu {h':Hp} {b b2 l c m d sz:Nat} {ms:List cX} {j:List (List Xab)} (o:sC H b I l c ms) (t:SL H b2 e sz a m d j) (k:Ch (aF a) H h') (h1:e≠88) (h2:e≠66):sC h' b I l c ms :=
 ⟨o.out.br k (fun i hi f=>qz t o.out h1 i f hi),fun m f=>(o.fI m f).br k (fun i hi g=>qz t (o.fI m f) h2 i g hi),o.ap,o.dj⟩
def sy (of:Xaa->Option cE) (x:cH):cH:={ x with e:=dC of x.e }
def T' (c:Xac) (b:Nat) (d:Xac) (e f r:Nat) (k:T):T :=
 T.loop [aK] [vI (0:Int)] <| fun (a:Int) =>
     bn a b
     (T.need (dF a b) <|
     T.aR c <| fun (g:Xax) =>
     T.af ((g.add (ay a 10)).add 7) [.slice 66,.int .u32] <| fun (h:Xac) (i j:Nat) (l:Int) =>
     bz 50 [.agg #[.slice h i j,ax l],.slice d e f] false [(true,[.slice 66,.int .u32])] <| fun (m:Xac) (n o:Nat) (p:Int) =>
     T.need (dF a b) <|
     T.aR c <| fun (q:Xax) =>
     T.ar ((q.add (ay a 10)).add 7) [.slice m n o,ax p] <|
     T.again r [vI (bC (a+(1:Int)))])
     k
structure Mq (h:Hp) (b:Nat) (p:Xac) (l c:Nat) (ms:List cX):Prop where
 own:sC h b p l c ms
 ok:EqsOk ms
 het:∀ e,e∈ms->e.x.ah.length<=2^20
 VX:(ms.flatMap (·.x.ah)).length<=2^39
 len:ms.length<=2^20
def Mq.ext {h':Hp} {b l c:Nat} {ms:List cX} (s:Mq H b I l c ms) (k:Ext H h'):Mq h' b I l c ms:=⟨s.own.ai k aj,s.ok,s.het,s.VX,s.len⟩
def Mq.tu {h h':Hp} {b b2:Nat} {p q:Xac} {l c m d sz:Nat} {e:TypeId} {ms:List cX} {a:List (List Xab)} (o:Mq h b p l c ms) (t:SL h b2 e sz q m d a) (k:Ch (aF q) h h') (h1:e≠88) (h2:e≠66):Mq h' b p l c ms :=
 ⟨o.own.tu t k h1 h2,o.ok,o.het,o.VX,o.len⟩
def Jv (ws:List (cd × cH)):Prop:=∀ u,u∈ws->u.2.e.ah.length<=2^20/\u.2.e.num<4294967296/\∀ t,t∈u.2.e.ah->t.1.size<=maxLen
def S4 {L:Lp} {K:Xab->Hp->Prop} {h:Hp} {b N b2:Nat} {S:Nat->kZ} {w:Xac} {x n W:Nat} {k:T} {ms:List cX} (Q:W=L.length) (s:mh h b N S) {j:Nat} (C:j<N) (t:Mq h b2 w x n ms) (ok:Jv (S j).ws) (X:(S j).ws.length<=2^20)
  (hk:∀ h' f J,mh h' b N f->(∀ i,i≠j->f i=S i)->(f j).s=(S j).s->(f j).ws.map (·.2)=(S j).ws.map (fun u=>sy (cF ms) u.2)->Ch (aF (S j).s.p) h h'->Mq h' b2 w x n ms->k (L++[J]) K h') :
  T' (S j).s.p (S j).s.l w x n W k L K h:=by
 subst Q;unfold T' bn ay bz bC dF ax aK;have R:(S j).s.l=(S j).ws.length:=by have:=(s.sec j C).out.1; rwa [YY] at this
 generalize D:(S j).ws=ws at *;generalize hl:(S j).s.l=l at *;subst R;refine aU (cs:=cn) (fun y Y h'=>∃ (i:Nat) (f:Nat->kZ),y.1=(i:Int)/\i<=ws.length/\Y=ws.length-i/\mh h' b N f/\(∀ i,i≠j->f i=S i)/\(f j).s=(S j).s/\(f j).ws.length=ws.length/\(∀ m,(B:m<ws.length)->(E:m<(f j).ws.length)->if m<i then (f j).ws[m].2=sy (cF ms) ws[m].2 else (f j).ws[m]=ws[m])/\Ch (aF (S j).s.p) h h'/\Mq h' b2 w x n ms) ((0:Int),()) ws.length rfl
  ⟨0,S,rfl,ad,ad,s,fun _ _=>rfl,rfl,by rw [D],fun m B E=>by rw [Y1 ad]; simp only [D],Ch.refl _ _,t⟩ ?_
 clear s t;rintro ⟨n58,⟨⟩⟩ Y h1 ⟨i,f,hi,hil,rfl,s,Z,A,sl,U,k1,t⟩;simp only at hi;subst hi;refine ak ?_;refine aP ?_ ?_<;>intro q
 ·have F:i<ws.length:=ad
  have g:i<(f j).ws.length:=ad
  have sj:=s.sec j C;have hwi:=U i F g;rw [Y1 ad] at hwi;have okw:=ok ws[i] (Y5 F);have hin:=sj.fI _ (Y5 g);obtain ⟨a,G,hc⟩:=sj.out.cells (i:=i) (by simpa using g);rw [Y7,hwi] at hc;rw [hwi] at hin;rw [A] at G;generalize hu:ws[i]=u at okw hin hc;refine bP G ?_;rw [cB i];refine av ((u.1.p,u.1.l,u.1.c),(u.2.e.num:Int),()) (fg 2 [_,_,_] 0 (jD _ 7 0 (iE 7 _ 0 hc))) (ak ?_);refine aJ (NP (c:=u.1.c) (d:=n) (xX hin) (DO t.own) t.ok t.het t.VX t.len okw.1 okw.2.2) ?_;rintro _ h2 ⟨⟨p',l',c',rfl,s2⟩,V⟩;rw [zk (ft _ _) (mW okw.2.1)] at s2 ⊢;refine ⟨((p',l',c'),((dC (cF ms) u.2.e).num:Int),()),rfl,ak ?_⟩;refine bP G ?_;have s':=s.ext V;have sj':=s'.sec j C;have so2:=sj'.out;refine SL.part (P:=Xaz) so2 (i:=i) (by rw [YY]; exact g) (o:=7) aj (by simp [da]) (by rw [A]; exact G) ?_;intro h3 s3 O z3;have H:((f j).ws.map oc).set i (gK (((f j).ws.map oc)[i]'(by rw [YY]; exact g)) 7 [.slice p' l' c',.int .u32 ((dC (cF ms) u.2.e).num:Int)])=((f j).ws.set i (⟨p',l',c'⟩,sy (cF ms) u.2)).map oc:=by
   rw [ce9,Y7,hwi,hu] <;> rfl
  rw [H] at s3;have sp:=s'.put C g (q:=(⟨p',l',c'⟩,sy (cF ms) u.2)) (s2.mono (by have:=s.sec j C; exact show b<=h1.size from (by have:=(sj.out.cj (i:=a.block) (by rw [A,G]; simp [aF])); omega))) s3 O;have hw:=iC i;rw [hw];rw [A] at O;refine aG (cs:=cn) (((i+1:Nat):Int),()) (ws.length-(i+1)) (by rw [ZB (Zc _),cd9]; rfl) ad rfl ?_;refine ⟨i+1,_,rfl,ad,rfl,sp,fun m B=>?_,?_,?_,fun m B E=>?_,(k1.trans (V.mono aj) (fun i hi _=>hi)).trans O (fun i hi _=>hi),(t.ext V).tu so2 (by rw [A]; exact O) bY bY⟩
  ·unfold lP;rw [Y1 B];exact Z m B
  ·unfold lP;rw [Y8 rfl];exact A
  ·unfold lP;rw [Y8 rfl,Z7];exact sl
  ·have e1:(lP f j ⟨(f j).s,(f j).ws.set i (⟨p',l',c'⟩,sy (cF ms) u.2)⟩ j).ws=(f j).ws.set i (⟨p',l',c'⟩,sy (cF ms) u.2):=by
    unfold lP;rw [Y8 rfl]
   simp only [e1]
   by_cases I:m=i
   ·subst I;rw [Y8 ad,List.getElem_set_self,hu]
   ·have r:m<(f j).ws.length:=ad
    have:=U m B r
    rw [List.getElem_set_ne (Ne.symm I)]
    by_cases z:m<i
    ·rw [Y8 z] at this;rw [Y8 ad];exact this
    ·rw [Y1 z] at this;rw [Y1 ad];exact this
 ·have hi:i=ws.length:=ad
  subst hi;refine hk h1 f _ s Z A ?_ k1 t;refine ca9 (by rw [YY,YY]; exact sl) fun m M r=>?_
  rw [YY] at M r
  have:=U m r M
  rw [Y8 r] at this;rw [Y7,Y7];exact this
structure rn (h:Hp) (B:Nat) (w:LW) (usl lb:cd) (sp:Int) (N M:Nat) (S:Nat->kZ):Prop where
 box:Qm h (B+3) usl lb B (B+1) (B+2) sp
 maps:LM h B (B+1) (B+2) w
 qu:SL h (B+4) 76 4 lb.p lb.l lb.c (w.lb.map nS)
 un:SL h (B+4) 30 4 usl.p usl.l usl.c (nZ S N)
 yw:mh h (B+4) M S
section
variable {h h':Hp} {B N M:Nat} {w:LW} {usl lb:cd} {sp:Int} {S:Nat->kZ}
def rn.iy {ws:List Nat} (s:rn h B w usl lb sp N M S) (k:Ch ws h h') (b:∀ i,i∈ws->i<B):rn h' B w usl lb sp N M S :=
 ⟨s.box.ai k (fun a=>by have:=b _ a; omega),s.maps.ai k (fun a=>by have:=b _ a; omega) (fun a=>by have:=b _ a; omega) (fun a=>by have:=b _ a; omega),
  s.qu.br k (fun i hi a=>by have:=(s.qu.cj hi).1; have:=b _ a; omega),s.un.br k (fun i hi a=>by have:=(s.un.cj hi).1; have:=b _ a; omega),s.yw.iy k (fun i hi=>by have:=b _ hi; omega)⟩
def rn.ext (s:rn h B w usl lb sp N M S) (k:Ext h h'):rn h' B w usl lb sp N M S:=s.iy k aj
def rn.lt (s:rn h B w usl lb sp N M S):B+4<=h.size:=by have:=s.box.lt; omega
def rn.tu {b2 sz:Nat} {e:TypeId} {q:Xac} {m d:Nat} {c:List (List Xab)} (s:rn h B w usl lb sp N M S) (t:SL h b2 e sz q m d c) (k:Ch (aF q) h h') (j:B+4<=b2) (h1:e≠76) (h2:e≠30) (f:e≠64) (g:e≠66):rn h' B w usl lb sp N M S:=by
 have b:∀ i,i∈aF q->B+4<=i:=fun i hi=>by have:=(t.cj hi).1; omega
 exact ⟨s.box.ai k (fun a=>by have:=b _ a; omega),s.maps.ai k (fun a=>by have:=b _ a; omega) (fun a=>by have:=b _ a; omega) (fun a=>by have:=b _ a; omega),
  s.qu.br k (fun i hi a=>qz t s.qu h1 i a hi),s.un.br k (fun i hi a=>qz t s.un h2 i a hi),s.yw.tu t k f g⟩
def rn.XQ {S':Nat->kZ} {j:Nat} (s:rn h B w usl lb sp N M S) (d:j<M) (e:mh h' (B+4) M S') (c:∀ i,(S' i).s=(S i).s) (k:Ch (aF (S j).s.p) h h'):rn h' B w usl lb sp N M S':=by
 have t:=(s.yw.sec j d).out;have b:∀ i,i∈aF (S j).s.p->B+4<=i:=fun i hi=>(t.cj hi).1
 have f:nZ S' N=nZ S N:=by
  unfold nZ;apply ZR;intro i _;unfold za;rw [c,c]
 exact ⟨s.box.ai k (fun a=>by have:=b _ a; omega),s.maps.ai k (fun a=>by have:=b _ a; omega) (fun a=>by have:=b _ a; omega) (fun a=>by have:=b _ a; omega),
  s.qu.br k (fun i hi a=>qz t s.qu bY i a hi),by rw [f]; exact s.un.br k (fun i hi a=>qz t s.un bY i a hi),e⟩
end
def DI (of:Xaa->Option cE) (S a:Nat->kZ) (m:Nat):Prop:=∀ k,(a k).s=(S k).s/\if k<m then (a k).ws.map (·.2)=(S k).ws.map (fun u=>sy of u.2) else a k=S k
def DI.step {of:Xaa->Option cE} {S c e:Nat->kZ} {m:Nat} (d:DI of S c m) (h1:∀ i,i≠m->e i=c i) (h2:(e m).s=(c m).s) (g:(e m).ws.map (·.2)=(c m).ws.map (fun u=>sy of u.2)):DI of S e (m+1):=by
 intro k;obtain ⟨f,a⟩:=d k
 by_cases hk:k=m
 ·subst hk;rw [Y1 ad] at a;rw [Y8 ad];exact ⟨h2.trans f,by rw [g,a]⟩
 ·rw [h1 k hk];refine ⟨f,?_⟩
  by_cases b:k<m
  ·rw [Y8 b] at a;rw [Y8 ad];exact a
  ·rw [Y1 b] at a;rw [Y1 ad];exact a
def UJ (J K:Xax) (f:Xac) (g h:Nat):T :=
    (T.af K [.slice 30] <| fun (i:Xac) (d L:Nat) =>
    T.loop [aK] [vI (0:Int)] <| fun (a:Int) =>
    bn a d
    (T.need (dF a d) <|
    T.aR i <| fun (j:Xax) =>
    T.af (j.add (ay a 4)) [.slice 64,.slice 64,.slice 88,.slice 9] <| fun (k:Xac) (l m:Nat) (n:Xac) (o p:Nat) (q:Xac) (r s:Nat) (t:Xac) (u w:Nat) =>
    T.new [aS,aS,aS,aS] 30 <| fun (c:Xax) =>
    T.ar c [.slice k l m,.slice n o p,.slice q r s,.slice t u w] <|
    T.af c [.slice 64] <| fun (x:Xac) (y z:Nat) =>
    T.af (c.add 1) [.slice 64] <| fun (A:Xac) (B C:Nat) =>
    bX (Instr.buildSlice 68 2 #[(0,.slice x y z),(1,.slice A B C)]) false [dp] <| fun (D:Xac) (e M:Nat) =>
    T.loop [aK] [vI (0:Int)] <| fun (b:Int) =>
    bn b e
     (T.need (dF b e) <|
     T.aR D <| fun (E:Xax) =>
     T.af (E.add (ay b 1)) [.slice 64] <| fun (F:Xac) (G N:Nat) =>
     T' F G f g h 4 (T.again 3 [vI (bC (b+(1:Int)))]))
     (T.again 2 [vI (bC (a+(1:Int)))]))
    (T.ar J [vI (0:Int),vI (0:Int),cm] <|
    T.af J [.int .i64,.int .i64,.string] <| fun (H I:Int) (TX:Xaa) =>
    bK #[.pointer (some K),.agg #[vI H,vI I,.string TX]]))
def RN {J0 J1:List Xab->Hp->Prop} {h0 h:Hp} {A B N b2:Nat} {usl lb:cd} {sp:Int} {S:Nat->kZ} {f g:Nat} {ms:List cX}
  (hA:h0.size<=A) (hAB:A<B) (e0:Ext h0 h) (r:bF h A 37 [vI 0,vI 0,.string ⟨#[]⟩]) (s:rn h B O usl lb sp N (2*N) S) (t:Mq h b2 I f g ms) (hN:N<=2^20)
  (ok:∀ j,j<2*N->Jv (S j).ws/\(S j).ws.length<=2^20)
  (hk:∀ h' u,Ext h0 h'->rn h' B O usl lb sp N (2*N) u->DI (cF ms) S u (2*N)->Y (.tuple #[ptr (B+3),.agg #[vI 0,vI 0,.string ⟨#[]⟩]]) h') :
  UJ ⟨A,0,none⟩ ⟨B+3,0,none⟩ I f g [J0,J1] Y h:=by
 unfold UJ bn ay bX bC dF bK aS cm aK dp;refine az s.box ((usl.p,usl.l,usl.c),()) (ak ?_);have W:usl.l=N:=by have:=s.un.1; rwa [ma] at this
 rw [W];refine aU (cs:=cn) (fun y G h'=>∃ (n:Nat) (u:Nat->kZ),y.1=(n:Int)/\n<=N/\G=N-n/\Ext h0 h'/\bF h' A 37 [vI 0,vI 0,.string ⟨#[]⟩]/\rn h' B O usl lb sp N (2*N) u/\DI (cF ms) S u (2*n)/\Mq h' b2 I f g ms) ((0:Int),()) N rfl
  ⟨0,S,rfl,ad,ad,e0,r,s,fun k=>⟨rfl,by rw [Y1 ad]⟩,t⟩ ?_
 clear s t r e0;rintro ⟨n29,⟨⟩⟩ G h1 ⟨n,z,hn,hnN,rfl,X,r,s,d,t⟩;simp only at hn;subst hn;refine ak ?_;refine aP ?_ ?_<;>intro q
 ·have Z:n<N:=ad
  obtain ⟨a,ha,hc⟩:=s.un.cells (i:=n) (by rw [ma]; exact Z);rw [Dz] at hc;refine bP ha ?_;rw [cB n];generalize C:(z (2*n)).s=e;generalize D:(z (2*n+1)).s=b;have hc:aI h1 (a.add (n*4)) 0 [e.v,b.v,lZ.v,lZ.v]:=by rw [<- C,<- D]; exact hc
  refine av ((e.p,e.l,e.c),(b.p,b.l,b.c),(none,0,0),(none,0,0),()) hc (ak ?_);refine bG ?_;intro h2 m e2 z2;refine bQ m ?_;intro h3 H k3 z3;have H:bF h3 h1.size 30 [e.v,b.v,lZ.v,lZ.v]:=H;have M:Ext h1 h3:=bZ e2 k3;refine az H ((e.p,e.l,e.c),()) (ak ?_);rw [aC];refine az H ((b.p,b.l,b.c),()) (ak ?_);refine mF KH Xu ad ad (Kx e.p e.l e.c b.p b.l b.c) ?_;intro h4 b4 e4 z4;have b4:bF h4 h3.size 26 [e.v,b.v]:=b4;have e14:=M.trans e4;have P:∀ k,k<2->([e.v,b.v]:List Xab).drop k=(S (2*n+k)).s.v::([e.v,b.v]:List Xab).drop (k+1):=by
   intro k hk;have h0:∀ k,(z k).s=(S k).s:=fun k=>(d k).1
   have:k=0\/k=1:=ad
   rcases this with rfl | rfl
   ·rw [<- h0]; show [e.v,b.v]=(z (2*n)).s.v::[b.v]; rw [C]
   ·rw [<- h0]; show [b.v]=(z (2*n+1)).s.v::[]; rw [D]
  have hb3:∀ j,j<2*N->h3.size∉aF (S j).s.p:=by
   intro j F U;rw [<- (d j).1] at U
   have:=((s.yw.sec j F).out.cj U).2
   have:=M.size
   omega
  refine aU (cs:=cn) (fun y G h'=>∃ (j:Nat) (u:Nat->kZ),y.1=(j:Int)/\j<=2/\G=2-j/\Ext h0 h'/\bF h' A 37 [vI 0,vI 0,.string ⟨#[]⟩]/\rn h' B O usl lb sp N (2*N) u/\DI (cF ms) S u (2*n+j)/\Mq h' b2 I f g ms/\bF h' h3.size 26 [e.v,b.v]) ((0:Int),()) 2 rfl
   ⟨0,z,rfl,ad,ad,X.trans e14,r.ai e14 aj,s.ext e14,d,t.ext e14,b4⟩ ?_
  clear s t r d C D hc ha H;rintro ⟨n53,⟨⟩⟩ G h5 ⟨j,Q,F,R,rfl,e5,r,s,d,t,b5⟩;simp only at F;subst F;refine ak ?_;refine aP ?_ ?_<;>intro q
  ·have R:j<2:=ad
   refine bP rfl ?_;rw [cB j,aC];have hsj:=(d (2*n+j)).1;have E:Q (2*n+j)=S (2*n+j):=by
    have:=(d (2*n+j)).2
    rwa [Y1 ad] at this
   refine bm b5 (((S (2*n+j)).s.p,(S (2*n+j)).s.l,(S (2*n+j)).s.c),()) (by
    have:=P j R
    rw [show 0+j*1=j from ad,this];rfl) ?_
   refine ak ?_;rw [<- E];have o:2*n+j<2*N:=ad
   have okj:=ok _ o;rw [<- E] at okj;have key:=fun (L:Lp) (hL:4=L.length)=>@S4 L Y h5 (B+4) (2*N) b2 Q I f g 4 (T.again 3 [vI (IntKind.wrap .i64 ((j:Int)+(1:Int)))]) ms hL s.yw (2*n+j) o t okj.1 okj.2
   refine key _ ?_ ?_
   ·rfl
   clear key;intro h6 S3 J s6 so ss sw V sv6;have hw:=iC j;rw [hw];have hss:∀ i,(S3 i).s=(Q i).s:=by
    intro i
    by_cases hi:i=2*n+j
    ·rw [hi]; exact ss
    ·rw [so i hi]
   have x:∀ i,i∈aF (Q (2*n+j)).s.p->B+4<=i:=fun i hi=>((s.yw.sec _ o).out.cj hi).1
   have z0:=X.size;refine aG (cs:=cn) (((j+1:Nat):Int),()) (2-(j+1)) rfl ad rfl ?_;refine ⟨j+1,S3,rfl,ad,rfl,Ch.trans e5 V (fun i hi hl=>by have:=x i hi; omega),r.ai V (fun U=>by have:=x _ U; omega),s.XQ o s6 hss V,d.step so ss sw,sv6,b5.ai V (by rw [E]; exact hb3 _ o)⟩
  ·have F:j=2:=ad
   subst F;have hw:=iC n;rw [hw];refine aG (cs:=cn) (((n+1:Nat):Int),()) (N-(n+1)) rfl ad rfl ?_;exact ⟨n+1,Q,rfl,ad,rfl,e5,r,s,d,t⟩
 ·have hn:n=N:=ad
  subst hn;refine bQ r ?_;intro h2 m k2 z2;have m:bF h2 A 37 [vI 0,vI 0,.string ⟨#[]⟩]:=m;refine az m ((0:Int),(0:Int),(⟨#[]⟩:Xaa),()) ?_;exact hk h2 z (bZ X k2) (s.iy k2 (by simp; omega)) d
def FQ (k:Ky):List Xab:=[vI (k.1:Int),.string k.2]
def Vk:Tryz.prog.underlying 103=some (.slice 110):=aw
def YQ:(Tryz.prog.info? 110).map (fun i=>(i.zero,i.size,i.bytes))=some (some (.agg #[vI 0,.string ⟨#[]⟩]),2,24):=aw
def Un (n:Int) (s:Xaa):Instr.fill (fun j=>some (j*2,2)) ((Array.range (1*2)).map ((Value.agg #[vI 0,.string ⟨#[]⟩]).cells[· % (Value.agg #[vI 0,.string ⟨#[]⟩]).cells.size]!)) [(0,.agg #[vI n,.string s])]=some ([vI n,.string s]:List Xab).toArray:=aw
def CG {b x:Nat} {a:TypeId} {sz:Nat} {p:Xac} {l c:Nat} {f:List (List Xab)} {g:List Xab} (s:SL H b e sz p l c f) (t:bF H x a g) (i:e≠a):x∉aF p:=fun j=>by
 obtain ⟨zs,d⟩:=SL.r6 s x j;unfold bF at d t;rw [d] at t;simp only [Option.some.injEq,Obj.cells.injEq] at t;exact i t.2.1
def Jz (vD unit:Nat) (s:Xaa):Xab:=.tuple #[.pointer none,.agg #[vI (vD:Int),vI (unit:Int),.string s]]
def BC (h h':Hp):Prop:=∀ x e a,e≠88->e≠110->bF h x e a->bF h' x e a
def BC.ext {h' h2:Hp} (k:BC H h') (e:Ext h' h2):BC H h2:=fun x t a h1 h2 b=>(k x t a h1 h2 b).ai e aj
abbrev PM:List ey:=[(false,[.pointer 0]),(false,[.slice 0]),(false,[.slice 0]),(false,[.int .i64])]
def Vc (a1 a7:Xax) (c:Int) (s:Xac) (j:Nat) (t u:Xac) (w x:Nat) (y:Xac) (z A:Nat) (k:Xac->Xac->Nat->Nat->Xac->Nat->Nat->T):T :=
    T.loop [(false,[.pointer 0]),dp,dp,aK] [.pointer t,.slice u w x,.slice y z A,vI (0:Int)] <| fun (l m:Xac) (n o:Nat) (p:Xac) (q r:Nat) (d:Int) =>
    bn d j
     (T.need (dF d j) <|
     T.aR s <| fun (B:Xax) =>
     T.af (B.add (ay d 3)) [.string,.slice 66,.int .u32] <| fun (C:Xaa) (D:Xac) (E F:Nat) (G:Int) =>
     T.new [cm,aS,ax (0:Int)] 88 <| fun (a:Xax) =>
     T.ar a [.string C,.slice D E F,ax G] <|
     T.af (a.add 1) [.slice 66,.int .u32] <| fun (H:Xac) (I J:Nat) (K:Int) =>
     bz 46 [.pointer (some a7),vI c,.agg #[.slice H I J,ax K]] true [(true,[.slice 66,.int .u32]),(false,[.string]),cr] <| fun (L:Xac) (M N:Nat) (O:Int) (P:Xaa) (Q:Bool) =>
     T.new [aS,ax (0:Int)] 60 <| fun (b:Xax) =>
     T.ar b [.slice L M N,ax O] <|
     cond (!Q)
     (T.ar a1 [vI (23:Int),vI c,.string P] <|
     T.af a1 [.int .i64,.int .i64,.string] <| fun (R S:Int) (U:Xaa) =>
     bK #[.pointer none,.agg #[vI R,vI S,.string U]])
     (T.af a [.string] <| fun (e:Xaa) =>
     T.af b [.slice 66,.int .u32] <| fun (f:Xac) (g h:Nat) (i:Int) =>
     bz 47 [.pointer (some a7),.agg #[vI c,.string e]] false [(false,[.string])] <| fun (XD:Xaa) =>
     T.aD [(b,[.slice f g h,ax i]),(a,[.string e])] <|
     bX (Instr.buildSlice 27 1 #[(0,.agg #[.string XD,.slice f g h,ax i])]) false [dp] <| fun (V:Xac) (W X:Nat) =>
     T.aD [(b,[.slice f g h,ax i]),(a,[.string e])] <|
     bX (Builtin.append_ #[27,27] 27 #[.slice m n o,.slice V W X]) false [dp] <| fun (Y:Xac) (Z l92:Nat) =>
     T.aD [(b,[.slice f g h,ax i]),(a,[.string e])] <|
     T.af a [.string] <| fun (s93:Xaa) =>
     bX (Instr.buildSlice 103 1 #[(0,.agg #[vI c,.string s93])]) false [dp] <| fun (p94:Xac) (l95 l96:Nat) =>
     bX (Builtin.append_ #[103,103] 103 #[.slice p q r,.slice p94 l95 l96]) false [dp] <| fun (p97:Xac) (l98 l99:Nat) =>
     T.again 2 [.pointer l,.slice Y Z l92,.slice p97 l98 l99,vI (bC (d+(1:Int)))]))
     (k l m n o p q r)
structure DE (h:Hp) (b:Nat) (e k:cd) (D:List (Xaa × cE)) (ks:List Ky):Prop where
 eq:∃ ms,sC h b e.p e.l e.c ms/\ms.map fL=D
 ky:SL h b 110 2 k.p k.l k.c (ks.map FQ)
variable {c d:cd}
def DE.ext {h':Hp} {b:Nat} {D:List (Xaa × cE)} {ks:List Ky} (s:DE H b c d D ks) (x:Ext H h'):DE h' b c d D ks:=by
 obtain ⟨⟨ms,o,a⟩,y⟩:=s;exact ⟨⟨ms,o.ai x aj,a⟩,y.ai x aj⟩
def RY {h0 h:Hp} {A B N M n:Nat} {usl lb:cd} {sp:Int} {S:Nat->kZ} {l53:Nat} {es:List oh} {D:List (Xaa × cE)} {ks:List Ky}
  {k:Xac->Xac->Nat->Nat->Xac->Nat->Nat->T} 
  (hL:2=Z.length) (pw:iV h0) (hA:h0.size<=A) (hAB:A<B) (e0:Ext h0 h) (ba:bF h A 37 [vI 0,vI 0,.string ⟨#[]⟩]) (s:rn h B O usl lb sp N M S) (Lq:Qq O) (es0:DE h (B+4) c d D ks)
  (v:Ob.rW h0 I l53 es) (ge:∀ e,e∈es->FT e.2) (hl:es.length<=2^20) (hD:D.length<=2^20) (hks:ks.length<=2^20)
  (hbad:∀ h' q,Ext h0 h'->(es.findSome? fun e=>O.bad n e.2)=some q->Y (Jz 23 n q) h')
  (hk:∀ h' r u J,Ext h0 h'->bF h' A 37 [vI 0,vI 0,.string ⟨#[]⟩]->rn h' B O usl lb sp N M S->DE h' (B+4) r u (D++es.map fun e=>(O.word (n,e.1),O.lin n e.2)) (ks++es.map fun e=>(n,e.1)) ->
   BC h h'->(es.findSome? fun e=>O.bad n e.2)=none->k a r.p r.l r.c u.p u.l u.c (Z++[J]) Y h') :
  Vc ⟨A,0,none⟩ ⟨B+3,0,none⟩ (n:Int) I l53 a c.p c.l c.c d.p d.l d.c k Z Y h:=by
 unfold Vc bn ay bz bX bC dF ax bK aS cm aK cr dp;have hl53:=v.len
 refine aU (cs:=PM) (fun y m' h'=>∃ (i:Nat) (r u:cd),y.1=a/\y.2.1=(r.p,r.l,r.c)/\y.2.2.1=(u.p,u.l,u.c)/\y.2.2.2.1=(i:Int)/\i<=es.length/\m'=es.length-i/\Ext h0 h'/\bF h' A 37 [vI 0,vI 0,.string ⟨#[]⟩]/\rn h' B O usl lb sp N M S /\
   DE h' (B+4) r u (D++(es.take i).map fun e=>(O.word (n,e.1),O.lin n e.2)) (ks++(es.take i).map fun e=>(n,e.1))/\BC h h'/\∀ j,(o:j<i)->(X:j<es.length)->O.bad n es[j].2=none)
  (a,(c.p,c.l,c.c),(d.p,d.l,d.c),(0:Int),()) es.length rfl ⟨0,c,d,rfl,rfl,rfl,rfl,ad,ad,e0,ba,s,by simpa using es0,fun x e xs _ _ b=>b,by intro j o; omega⟩ ?_
 clear e0 ba s es0;rintro ⟨p55,⟨p56,l57,l58⟩,⟨p59,l60,l61⟩,n62,⟨⟩⟩ m' h1 ⟨i,C,P,hy1,hy2,hy3,hy4,hil,rfl,e1,ba,s,es1,ke,hok⟩;simp only [Prod.mk.injEq] at hy1 hy2 hy3 hy4;obtain ⟨rfl,rfl,rfl⟩:=hy2;obtain ⟨rfl,rfl,rfl⟩:=hy3;subst hy1 hy4;refine ak ?_;refine aP ?_ ?_<;>intro q
 ·have Q:i<es.length:=ad
  obtain ⟨aa,pp,ll,cc,haa,hc0,va0,hsz⟩:=v.cells i Q;have gxi:=ge es[i] (Y5 Q);have htk:es.take (i+1)=es.take i++[es[i]]:=Y2 Q;have hfs:∀ q,O.bad n es[i].2=some q->(es.findSome? fun e=>O.bad n e.2)=some q:=by
   intro q hq;have hsp:es=es.take i++es[i]::es.drop (i+1):=by rw [<- Zj Q,ZG]
   have hnone:((es.take i).findSome? fun e=>O.bad n e.2)=none:=by
    rw [Z4];intro x X;obtain ⟨j,o,rfl⟩:=Zt X;rw [Zi] at o;rw [List.getElem_take];exact hok j ad ad
   generalize hz:es[i]=z at hsp hq;rw [hsp,cj9,hnone,List.findSome?_cons,hq] <;> rfl
  have hnx:O.bad n es[i].2=none->∀ j,(o:j<i+1)->(X:j<es.length)->O.bad n es[j].2=none:=by
   intro hn j o X
   by_cases hji:j=i
   ·subst hji; exact hn
   ·exact hok j ad X
  generalize es[i]=x at hc0 va0 hsz gxi htk hfs hnx;refine bP haa ?_;rw [cB i];refine av (x.1,(pp,ll,cc),(x.2.num:Int),()) (aX e1 aj _ _ hc0) (ak ?_);refine bG ?_;intro h2 b2' e2 z2;refine bQ b2' ?_;intro h3 b3 k3 z3;have b3:bF h3 h1.size 88 [.string x.1,.slice pp ll cc,.int .u32 (x.2.num:Int)]:=b3;have F:Ext h1 h3:=bZ e2 k3;have e03:=e1.trans F;have s3:=s.ext F;rw [aC];refine az b3 ((pp,ll,cc),(x.2.num:Int),()) (ak ?_);refine aJ (y6 (c:=cc) (pw.ai e03 aj) s3.box s3.maps Lq n (va0.ai e03).vw gxi) ?_;rintro _ h4 ⟨e4,hq⟩;have z1:=e1.size;have l1:=s.lt;have q3:=b3.lt;cases hb:O.bad n x.2 with
  | some t =>
   rw [hb] at hq;subst hq;refine ⟨((none,0,0),(0:Int),t,false,()),rfl,ak ?_⟩;refine bG ?_;intro h5 b5' e5 z5;refine bQ b5' ?_;intro h6 b6 k6 z6;refine cL rfl ?_;have E:Ext h4 h6:=bZ e5 k6;have e16:=(F.trans e4).trans E;refine bQ (ba.ai e16 aj) ?_;intro h7 b7 k7 z7;have b7:bF h7 A 37 [vI 23,vI (n:Int),.string t]:=b7;refine az b7 ((23:Int),(n:Int),t,()) ?_;exact hbad h7 t (bZ (e1.trans e16) k7) (hfs t hb)
  | none =>
   rw [hb] at hq;obtain ⟨U,V,W,rfl,s7⟩:=hq;refine ⟨((U,V,W),((O.lin n x.2).num:Int),(⟨#[]⟩:Xaa),true,()),rfl,ak ?_⟩;refine bG ?_;intro h5 b5' e5 z5;refine bQ b5' ?_;intro h6 b6 k6 z6;have b6:bF h6 h4.size 60 [.slice U V W,.int .u32 ((O.lin n x.2).num:Int)]:=b6;have E:Ext h4 h6:=bZ e5 k6;have e16:=(F.trans e4).trans E;refine cC rfl ?_;have b36:=b3.ai (e4.trans E) aj;refine az b36 (x.1,()) (ak ?_);refine az b6 ((U,V,W),((O.lin n x.2).num:Int),()) (ak ?_);have s6:=s.ext e16;refine aJ (CY (pw.ai (e1.trans e16) aj) s6.box s6.maps Lq n x.1) ?_;rintro _ h8 ⟨rfl,e8⟩;refine ⟨(O.word (n,x.1),()),rfl,ak ?_⟩;have e18:=e16.trans e8;have b68:=b6.ai e8 aj;have b38:=b36.ai e8 aj;have hst:∀ h',Ext h8 h'->T.BO h' [(⟨h4.size,0,none⟩,[.slice U V W,.int .u32 ((O.lin n x.2).num:Int)]),(⟨h1.size,0,none⟩,[.string x.1])]:=fun h' e=>⟨(b68.ai e aj).cells _ rfl,(b38.ai e aj).cells _ rfl,trivial⟩
   refine ⟨hst h8 (Ch.refl _ _),?_⟩;obtain ⟨⟨ms,o1,hms⟩,y1⟩:=es1;have o8:=o1.ai e18 aj;have y8:=y1.ai e18 aj;have hml:ms.length=D.length+i:=by
    have:=Zg List.length hms
    rw [YY,Y0,YY,Zi,ZQ hil] at this;exact this
   have hel:C.l=ms.length:=by have:=o1.out.1; rwa [YY] at this
   have hkl:P.l=ks.length+i:=by
    have:=y1.1
    rw [YY,Y0,YY,Zi,ZQ hil] at this;exact this
   have z18:=e18.size;have z4:=e4.size;have z46:=E.size;have z8:=e8.size;have z13:=F.size;refine gn (vs:=AN ⟨O.word (n,x.1),U,V,W,O.lin n x.2⟩) C9 GH rfl ad ad (Ib _ U V W _) rfl rfl o8.out ad ad ad hst ?_;intro p9 c9 h9 s9 R hp9;have G:∀ j,h1.size<=j->j∉aF C.p:=fun j o hm=>by have:=(o1.out.cj hm).2; omega
   have b69:=b68.ai R (G _ ad);have b39:=b38.ai R (G _ ad);refine ⟨⟨b69.cells _ rfl,b39.cells _ rfl,trivial⟩,?_⟩;have XR:SL h8 (B+4) 66 2 U V W ((O.lin n x.2).ah.map dh):=(s7.ai (E.trans e8) aj).mono ad;have o9:sC h9 (B+4) p9 (C.l+1) c9 (ms++[⟨O.word (n,x.1),U,V,W,O.lin n x.2⟩]):=by
    refine o8.push XR (fun j o=>?_) (by rw [Za]; exact s9) R (fun j o=>?_)
    ·have hj3:=(s7.cj o).1;refine ⟨fun y hy m hm=>?_,G _ ad⟩
     have:=((o1.fI y hy).cj hm).2
     omega
    ·rcases hp9 with rfl | ⟨g,rfl,ha⟩
     ·exact .inl o
     ·simp [aF] at o;subst o;exact .inr ha
   have y9:=y8.br R (fun j o hm=>qz o8.out y8 bY j hm o);have g9:=(s.ext e18).tu o8.out R (Zc _) bY bY bY bY;have ba8:=ba.ai e18 aj;have ba9:=ba8.ai R (CG o8.out ba8 bY);have z9:=R.size;have ke8:BC h h8:=ke.ext e18;have ke9:BC h h9:=fun x e xs h1 h2 b=>by
    have b8:=ke8 x e xs h1 h2 b;exact b8.ai R (CG o8.out b8 (Ne.symm h1))
   have e09:Ext h0 h9:=Ch.trans (e1.trans e18) R (fun j o hl=>by have:=(o8.out.cj o).1; omega);refine az b39 (x.1,()) (ak ?_);refine kg (vs:=FQ (n,x.1)) Vk YQ rfl ad ad (Un _ _) rfl rfl y9 ad ad ad ?_;intro p10 c10 h10 s10 H hp10;have hw:=iC i;rw [hw];refine aG (cs:=PM) (p55,(p9,C.l+1,c9),(p10,P.l+1,c10),((i+1:Nat):Int),()) (es.length-(i+1)) (by rw [ZB ad,<- hL,cd9]; rfl) ad rfl ?_;refine ⟨i+1,⟨p9,C.l+1,c9⟩,⟨p10,P.l+1,c10⟩,rfl,rfl,rfl,rfl,ad,rfl,Ch.trans e09 H (fun j o hl=>by have:=(y9.cj o).1; omega),ba9.ai H (CG y9 ba9 bY),
    g9.tu y9 H (Zc _) bY bY bY bY,⟨⟨_,o9.tu y9 H bY bY,?_⟩,?_⟩,?_,hnx hb⟩
   ·rw [htk,Za,hms,Za,<- Zp] <;> rfl
   ·have he:(ks++(es.take (i+1)).map fun e=>(n,e.1)).map FQ=(ks++(es.take i).map fun e=>(n,e.1)).map FQ++[FQ (n,x.1)]:=by
     rw [htk]
     simp
    rw [he];exact s10
   ·intro x e xs h1 h2 b;have b9:=ke9 x e xs h1 h2 b;exact b9.ai H (CG y9 b9 (Ne.symm h2))
 ·have hi:i=es.length:=ad
  subst hi;rw [Zu (Zc _)] at es1;refine hk h1 C P _ e1 ba s es1 ke ?_;rw [Z4];intro x X;obtain ⟨j,o,rfl⟩:=Zt X;exact hok j o o
def U2:Tryz.prog.underlying 22=some (.slice 30):=aw
def Xq:(Tryz.prog.info? 30).map (fun i=>(i.zero,i.size,i.bytes))=some (some (.agg #[.slice none 0 0,.slice none 0 0,.slice none 0 0,.slice none 0 0]),4,96):=aw
def VB (a:Xac) (b c1:Nat) (c:Xac) (d e:Nat) (f:Xac) (g c3:Nat) (h:Xac) (i k:Nat):Instr.fill (fun j=>some (j*4,4)) ((Array.range (1*4)).map ((Value.agg #[.slice none 0 0,.slice none 0 0,.slice none 0 0,.slice none 0 0]).cells[· % (Value.agg #[.slice none 0 0,.slice none 0 0,.slice none 0 0,.slice none 0 0]).cells.size]!)) [(0,.agg #[.slice a b c1,.slice c d e,.slice f g c3,.slice h i k])]=some ([.slice a b c1,.slice c d e,.slice f g c3,.slice h i k]:List Xab).toArray:=aw
def VA (i r:Xax) (j:Xac) (k l:Nat) (b:Xac) (c s:Nat):T :=
   (bz 49 [.slice j k l] true [(false,[.slice 88]),aK,aK] <| fun (m:Xac) (n o:Nat) (a d:Int) =>
   cond (d != (0:Int))
    (T.need (dF a c) <|
    T.aR b <| fun (e:Xax) =>
    T.af (e.add (ay a 2)) [.int .i64] <| fun (f:Int) =>
    T.need (dF a c) <|
    T.aR b <| fun (g:Xax) =>
    T.af ((g.add (ay a 2)).add 1) [.string] <| fun (h:Xaa) =>
    T.aD [(((g.add (ay a 2)).add 1),[.string h]),((e.add (ay a 2)),[vI f])] <|
    T.ar i [vI d,vI f,.string h] <|
    T.af i [.int .i64,.int .i64,.string] <| fun (p q:Int) (TX:Xaa) =>
    bK #[.pointer none,.agg #[vI p,vI q,.string TX]])
    (UJ i r m n o))
def UA (e c:Xax) (w x:Xac) (y z:Nat) (A:Xac) (B C:Nat) (a:Int) (D:Xac) (E F:Nat) (G:Xac) (H I:Nat) (J:Xac) (K L:Nat) (M:Xac) (N O:Nat):T :=
   T.new [aS,aS,aS,aS] 30 <| fun (b:Xax) =>
   T.ar b [.slice D E F,.slice G H I,.slice J K L,.slice M N O] <|
   T.new [aS,aS,aS,aS] 30 <| fun (d:Xax) =>
   T.af b [.slice 64] <| fun (P:Xac) (Q R:Nat) =>
   bz 45 [.pointer (some c),vI a,.slice P Q R] true [(false,[.slice 64]),(false,[.string]),cr] <| fun (S:Xac) (U V:Nat) (W:Xaa) (X:Bool) =>
   T.ar d [.slice S U V] <|
   cond (!X)
    (T.ar e [vI (23:Int),vI a,.string W] <|
    T.af e [.int .i64,.int .i64,.string] <| fun (Y Z:Int) (s46:Xaa) =>
    bK #[.pointer none,.agg #[vI Y,vI Z,.string s46]])
    (T.af (b.add 1) [.slice 64] <| fun (p44:Xac) (l45 l46:Nat) =>
    bz 45 [.pointer (some c),vI a,.slice p44 l45 l46] true [(false,[.slice 64]),(false,[.string]),cr] <| fun (p47:Xac) (l48 l49:Nat) (s50:Xaa) (b51:Bool) =>
    T.ar (d.add 1) [.slice p47 l48 l49] <|
    cond (!b51)
    (T.ar e [vI (23:Int),vI a,.string s50] <|
    T.af e [.int .i64,.int .i64,.string] <| fun (n52 n53:Int) (s54:Xaa) =>
    bK #[.pointer none,.agg #[vI n52,vI n53,.string s54]])
    (T.af (b.add 2) [.slice 88] <| fun (p52:Xac) (l53 l54:Nat) =>
    Vc e c a p52 l53 w x y z A B C fun p55 p56 l57 l58 p59 l60 l61 =>
     (T.af c [.slice 30] <| fun (f:Xac) (g h:Nat) =>
     T.af d [.slice 64,.slice 64,.slice 88,.slice 9] <| fun (i:Xac) (j k:Nat) (l:Xac) (m n:Nat) (o:Xac) (p q:Nat) (r:Xac) (s t:Nat) =>
     bX (Instr.buildSlice 22 1 #[(0,.agg #[.slice i j k,.slice l m n,.slice o p q,.slice r s t])]) false [dp] <| fun (p78:Xac) (l79 l80:Nat) =>
     T.aD [(c,[.slice f g h])] <|
     bX (Builtin.append_ #[22,22] 22 #[.slice f g h,.slice p78 l79 l80]) false [dp] <| fun (p81:Xac) (l82 l83:Nat) =>
     T.aD [(d,[.slice i j k,.slice l m n,.slice o p q,.slice r s t])] <|
     T.ar c [.slice p81 l82 l83] <|
     T.af (c.add 6) [.int .i64] <| fun (u:Int) =>
     T.af b [.slice 64,.slice 64,.slice 88,.slice 9] <| fun (p85:Xac) (l86 l87:Nat) (p88:Xac) (l89 l90:Nat) (p91:Xac) (l92 l93:Nat) (p94:Xac) (l95 l96:Nat) =>
     bz 48 [.agg #[.slice p85 l86 l87,.slice p88 l89 l90,.slice p91 l92 l93,.slice p94 l95 l96]] false [aK] <| fun (n97:Int) =>
     T.aD [((c.add 6),[vI u])] <|
     T.ar (c.add 6) [vI (bC (u+n97))] <|
     T.again 1 [.pointer p55,.slice p56 l57 l58,.slice p59 l60 l61,vI (bC (a+(1:Int)))])))
def AH {S:Nat->kZ} {k n:Nat} {x:kZ} (hk:2*n<=k):nZ (lP S k x) n=nZ S n:=by
 unfold nZ;apply ZR;intro i hi;have hi:i<n:=ap9.1 hi;unfold za lP;rw [Y1 ad,Y1 ad]
section
variable {h h':Hp} {B N M:Nat} {w:LW} {usl lb:cd} {sp:Int} {S:Nat->kZ}
def rn.add (s:rn h B w usl lb sp N M S) (e:Ext h h') (a:2*N<=M) {x:kZ} (b:nX h' h.size x):rn h' B w usl lb sp N (M+1) (lP S M x):=by
 have s':=s.ext e;exact ⟨s'.box,s'.maps,s'.qu,by rw [AH a]; exact s'.un,s.yw.add e s.lt b⟩
end
section
variable {h h':Hp} {B N M:Nat} {w:LW} {usl lb:cd} {sp:Int} {S:Nat->kZ}
def rn.GV {x:Nat} {l:List Xab} (s:rn h B w usl lb sp N M S) (b:bF h x 30 l) (o:B+4<=x) (a:x∉aF usl.p) (k:Ch [x] h h'):rn h' B w usl lb sp N M S:=by
 have c:∀ {b2 sz:Nat} {e:TypeId} {q:Xac} {m d:Nat} {ys:List (List Xab)},SL h b2 e sz q m d ys->e≠30->SL h' b2 e sz q m d ys:=fun t n=>t.br k (fun i hi f=>by
  have:i=x:=by simpa using f
  subst this;exact CG t b n hi)
 exact ⟨s.box.ai k (by simp; omega),s.maps.ai k (by simp; omega) (by simp; omega) (by simp; omega),c s.qu bY,s.un.br k (fun i hi f=>by
  have:i=x:=by simpa using f
  subst this;exact a hi),⟨fun j g=>⟨c (s.yw.sec j g).out bY,fun u a=>c ((s.yw.sec j g).fI u a) bY⟩,s.yw.ap⟩⟩
def DE.GV {x b:Nat} {g:List Xab} {e k:cd} {D:List (Xaa × cE)} {ks:List Ky} (s:DE h b e k D ks) (bx:bF h x 30 g) (c:Ch [x] h h'):DE h' b e k D ks:=by
 have f:∀ {b2 sz:Nat} {e:TypeId} {q:Xac} {m d:Nat} {ys:List (List Xab)},SL h b2 e sz q m d ys->e≠30->SL h' b2 e sz q m d ys:=fun t j=>t.br c (fun i hi a=>by
  have:i=x:=by simpa using a
  subst this;exact CG t bx j hi)
 obtain ⟨⟨ms,o,a⟩,y⟩:=s;exact ⟨⟨ms,⟨f o.out bY,fun m a=>f (o.fI m a) bY,o.ap,o.dj⟩,a⟩,f y bY⟩
def DE.jT {b b2 sz:Nat} {q:Xac} {m d:Nat} {f:List (List Xab)} {e k:cd} {D:List (Xaa × cE)} {ks:List Ky} (s:DE h b e k D ks) (t:SL h b2 30 sz q m d f) (c:Ch (aF q) h h'):DE h' b e k D ks:=by
 obtain ⟨⟨ms,o,a⟩,y⟩:=s;exact ⟨⟨ms,o.tu t c bY bY,a⟩,y.br c (fun i hi a=>qz t y bY i a hi)⟩
def DE.TM {b x:Nat} {e k:cd} {D:List (Xaa × cE)} {ks:List Ky} (s:DE h b e k D ks) (d:x<b) (c:Ch [x] h h'):DE h' b e k D ks:=by
 obtain ⟨⟨ms,o,a⟩,y⟩:=s;exact ⟨⟨ms,o.ai c (fun i hi=>by have:i=x:=(by simpa using hi); omega),a⟩,y.br c (fun i hi a=>by
  have:i=x:=by simpa using a
  have:=(y.cj hi).1
  omega)⟩
end
def QA {h0 h:Hp} {A B n:Nat} {usl lb:cd} {sp:Nat} {S:Nat->kZ} {H td el kl:cd} {D:List (Xaa × cE)} {ks:List Ky} {a:qX (flat PM)->Nat->Hp->Prop} {m:Nat}
  (hL:2=Z.length) (hJ:Z[1]?=some (Jl a m)) (pw:iV h0) (tb0:Cw h0) (hA:h0.size<=A) (hAB:A<B) (e0:Ext h0 h) (ba:bF h A 37 [vI 0,vI 0,.string ⟨#[]⟩]) (s:rn h B O usl lb (sp:Int) n (2*n) S) (Lq:Qq O) (es0:DE h (B+4) el kl D ks)
  (v:jU h0 c d H td b) (ge:∀ x,x∈cO b->FT x) (hr:fA b=0) (hl1:b.text.length<=2^20) (hl2:b.data.length<=2^20) (hl3:b.bf.length<=2^20) (hD:D.length<=2^20) (hks:ks.length<=2^20) (hn:n<=2^20) (hsp:sp<=2^40)
  (M:∀ h' q,Ext h0 h'->sV O n b=some q->Y (Jz 23 n q) h')
  (hk:∀ h' U V usl' S',Ext h0 h'->bF h' A 37 [vI 0,vI 0,.string ⟨#[]⟩]->rn h' B O usl' lb ((sp+kq b.text:Nat):Int) (n+1) (2*(n+1)) S'->DE h' (B+4) U V (D++b.bf.map fun e=>(O.word (n,e.1),O.lin n e.2)) (ks++b.bf.map fun e=>(n,e.1)) ->
   sV O n b=none->(∀ k,k<2*n->S' k=S k)->(S' (2*n)).ws.map (·.2)=b.text.map (O.fN n)->(S' (2*n+1)).ws.map (·.2)=b.data.map (O.fN n) ->
   ∃ m',m'<m/\a (I,(U.p,U.l,U.c),(V.p,V.l,V.c),((n+1:Nat):Int),()) m' h') :
  UA ⟨A,0,none⟩ ⟨B+3,0,none⟩ I el.p el.l el.c kl.p kl.l kl.c (n:Int) c.p c.l c.c d.p d.l d.c H.p H.l H.c td.p td.l td.c Z Y h:=by
 unfold UA bz bX bC bK aS aK cr dp;have l0:=s.lt;have zA:=e0.size;refine bG ?_;intro h1 b1' e1 z1;refine bQ b1' ?_;intro h2 b2 k2 z2;have b2:bF h2 h.size 30 [c.v,d.v,H.v,td.v]:=b2;have e02:Ext h h2:=bZ e1 k2;refine bG ?_;intro h3 b3 e3 z3;have b23:=b2.ai e3 aj;refine az b23 ((c.p,c.l,c.c),()) (ak ?_);have e03:=e02.trans e3;have s3:=s.ext e03;have E3:=e0.trans e03;refine aJ (Ar (c:=c.c) (pw.ai E3 aj) s3.box s3.maps Lq n (v.ai E3).text hl1 (fun x hx=>ge _ (by unfold cO; simp only [List.mem_append]; exact .inl (.inl (Zm hx))))) ?_;rintro _ h4 ⟨G,N⟩;have z03:=e03.size;have z4:=G.size;have q3:=b3.lt;cases hb:O.zR n b.text with
 | some t =>
  rw [hb] at N;subst N;refine ⟨((none,0,0),t,false,()),rfl,ak ?_⟩;refine bQ (b3.ai G aj) ?_;intro h5 b5 k5 z5;refine cL rfl ?_;have e35:Ext h3 h5\/True:=.inr trivial;have ba5:=((ba.ai (e03.trans G) aj).ai k5 (by simp; omega))
  refine bQ ba5 ?_;intro h6 b6 k6 z6;have b6:bF h6 A 37 [vI 23,vI (n:Int),.string t]:=b6;refine az b6 ((23:Int),(n:Int),t,()) ?_;refine M h6 t ?_ (by unfold sV; rw [hb]; rfl);exact Ch.trans (bZ (E3.trans G) k5) k6 (fun i hi hl=>by simp at hi; omega)
 | none =>
  rw [hb] at N;obtain ⟨p4,c4,B4,w4,rfl,lc4,hB4,hw4⟩:=N;refine ⟨((p4,c.l,c4),(⟨#[]⟩:Xaa),true,()),rfl,ak ?_⟩;refine bQ (b3.ai G aj) ?_;intro h5 b5 k5 z5;have b5:bF h5 h2.size 30 [.slice p4 c.l c4,.slice none 0 0,.slice none 0 0,.slice none 0 0]:=b5;refine cC rfl ?_;have x4:nX h4 h3.size ⟨⟨p4,c.l,c4⟩,w4⟩:=⟨lc4.out,fun y hy=>(lc4.fI y hy).mono hB4⟩
  have s4:=s3.add G (Zc _) x4;have hu2:h2.size∉aF usl.p:=fun r=>by have:=(s.un.cj r).2; have:=e02.size; omega
  have l2:=e02.size;have s5:=s4.GV (b3.ai G aj) ad hu2 k5;have ba5:=(ba.ai (e03.trans G) aj).ai k5 (by simp; omega);have q2:=b2.lt;have b25:=(b23.ai G aj).ai k5 (by simp; omega);have E5:Ext h0 h5:=bZ (E3.trans G) k5;have es5:DE h5 (B+4) el kl D ks:=((es0.ext (e03.trans G))).GV (b3.ai G aj) k5;rw [aC];refine az b25 ((d.p,d.l,d.c),()) (ak ?_);refine aJ (Ar (c:=d.c) (pw.ai E5 aj) s5.box s5.maps Lq n (v.ai E5).data hl2 (fun x hx=>ge _ (by unfold cO; simp only [List.mem_append]; exact .inl (.inr (Zm hx))))) ?_;rintro _ h6 ⟨W,N⟩;have b56:=b5.ai W aj;have z6:=W.size;cases P:O.zR n b.data with
  | some t =>
   rw [P] at N;subst N;refine ⟨((none,0,0),t,false,()),rfl,ak ?_⟩;rw [aC];refine bQ b56 ?_;intro h7 b7 k7 z7;refine cL rfl ?_;have ba7:=(ba5.ai W aj).ai k7 (by simp; omega);refine bQ ba7 ?_;intro h8 b8 k8 z8;have b8:bF h8 A 37 [vI 23,vI (n:Int),.string t]:=b8;refine az b8 ((23:Int),(n:Int),t,()) ?_;refine M h8 t ?_ (by unfold sV; rw [hb,P]; rfl);exact Ch.trans (bZ (E5.trans W) k7) k8 (fun i hi hl=>by simp at hi; omega)
  | none =>
   rw [P] at N;obtain ⟨p6,c6,B6,w6,rfl,lc6,hB6,hw6⟩:=N;refine ⟨((p6,d.l,c6),(⟨#[]⟩:Xaa),true,()),rfl,ak ?_⟩;rw [aC];refine bQ b56 ?_;intro h7 b7 k7 z7;have b7:bF h7 h2.size 30 [.slice p4 c.l c4,.slice p6 d.l c6,.slice none 0 0,.slice none 0 0]:=b7;refine cC rfl ?_;have x6:nX h6 h5.size ⟨⟨p6,d.l,c6⟩,w6⟩:=⟨lc6.out,fun y hy=>(lc6.fI y hy).mono hB6⟩
   have s6:=s5.add W ad x6;have s7:=s6.GV b56 ad hu2 k7;have es7:=(es5.ext W).GV b56 k7;have ba7:=(ba5.ai W aj).ai k7 (by simp; omega);have b27:=(b25.ai W aj).ai k7 (by simp; omega);have E7:Ext h0 h7:=bZ (E5.trans W) k7;have Ul:=b27;rw [aC];refine az b27 ((H.p,H.l,H.c),()) (ak ?_);refine RY hL pw hA hAB E7 ba7 s7 Lq es7 v.bf (fun e he=>ge _ (by unfold cO; simp only [List.mem_append]; exact .inr (Zm he))) hl3 hD hks (fun h' q e N=>M h' q e (by unfold sV; rw [hb,P]; exact N)) ?_;intro h8 X kl8 J E8 ba8 C es8 ke8 hb3;have b78:=ke8 _ _ _ bY bY b7;have b28:=ke8 _ _ _ bY bY b27;generalize Q:lP (lP S (2*n) ⟨⟨p4,c.l,c4⟩,w4⟩) (2*n+1) ⟨⟨p6,d.l,c6⟩,w6⟩=S2 at C;refine az C.box ((usl.p,usl.l,usl.c),()) (ak ?_);refine az b78 ((p4,c.l,c4),(p6,d.l,c6),(none,0,0),(none,0,0),()) (ak ?_);have hul:usl.l=n:=by have:=s.un.1; rwa [ma] at this
   have z8':=E8.size;have l8:=C.lt;refine gn (vs:=[.slice p4 c.l c4,.slice p6 d.l c6,.slice none 0 0,.slice none 0 0]) U2 Xq rfl ad ad (VB p4 c.l c4 p6 d.l c6 none 0 0 none 0 0) rfl rfl C.un ad ad ad (fun h' e=>⟨(C.box.ai e aj).cells _ rfl,trivial⟩) ?_;intro p9 c9 h9 s9 R hp9;have b79:=b78.ai R hu2;have hu1:h.size∉aF usl.p:=fun r=>by have:=(s.un.cj r).2; omega
   have b29:=b28.ai R hu1;refine ⟨⟨b79.cells _ rfl,trivial⟩,?_⟩;have g:∀ i,i∈aF usl.p->B+4<=i:=fun i hi=>(C.un.cj hi).1
   have bx9:=C.box.ai R (fun r=>by have:=g _ r; omega);have ba9:=ba8.ai R (fun r=>by have:=g _ r; omega);have es9:=es8.jT C.un R;have E9:Ext h0 h9:=Ch.trans E8 R (fun i hi hl=>by have:=g _ hi; omega);have m9:=C.maps.ai R (fun r=>by have:=g _ r; omega) (fun r=>by have:=g _ r; omega) (fun r=>by have:=g _ r; omega);have lb9:=C.qu.br R (fun i hi r=>qz C.un C.qu bY i r hi);have se9:=C.yw.tu C.un R bY bY;have z9:=R.size;refine bQ bx9 ?_;intro h10 E j z10;have E:Qm h10 (B+3) ⟨p9,usl.l+1,c9⟩ lb B (B+1) (B+2) (sp:Int):=E;have es10:=es9.TM ad j;have ba10:=ba9.ai j (by simp; omega);have m10:=m9.ai j aj aj aj;have lb10:=lb9.br j (fun i hi=>by have:=(lb9.cj hi).1; simp; omega);have se10:=se9.iy j aj;have un10:=s9.br j (fun i hi=>by have:=(s9.cj hi).1; simp; omega);have E10:Ext h0 h10:=bZ E9 j;have b210:=b29.ai j (by simp; omega);rw [aC];refine az E ((sp:Int),()) (ak ?_);refine az b210 ((c.p,c.l,c.c),(d.p,d.l,d.c),(H.p,H.l,H.c),(td.p,td.l,td.c),()) (ak ?_);refine aJ (KX (tb0.ai E10 aj) (v.ai E10)) ?_;rintro _ h11 ⟨rfl,o⟩;rw [Y8 hr];refine ⟨(((kq b.text:Nat):Int),()),rfl,ak ?_⟩;have bx11:=E.ai o aj;refine ⟨⟨bx11.cells _ rfl,trivial⟩,?_⟩;have hsl:=AB b.text;refine bQ bx11 ?_;intro h12 F z z12;have hw1:IntKind.wrap .i64 ((sp:Int)+((kq b.text:Nat):Int))=((sp+kq b.text:Nat):Int):=by rw [wrap_i64 ad ad]; omega
   rw [hw1] at F;have F:Qm h12 (B+3) ⟨p9,usl.l+1,c9⟩ lb B (B+1) (B+2) ((sp+kq b.text:Nat):Int):=F;have hw:=iC n;rw [hw];have un11:=un10.ai o aj;have lb11:=lb10.ai o aj;obtain ⟨m',hm',hI⟩:=hk h12 X kl8 ⟨p9,usl.l+1,c9⟩ S2 (bZ (E10.trans o) z) ((ba10.ai o aj).ai z (by simp; omega))
    ⟨F,(m10.ai o aj aj aj).ai z aj aj aj,lb11.br z (fun i hi=>by have:=(lb11.cj hi).1; simp; omega),by
     have:=un11.br z (fun i hi=>by have:=(un11.cj hi).1; simp; omega)
     rw [<- Q,IC];rw [<- Q,AH ad,AH ad] at this;exact this,(se10.ext o).iy z aj⟩
    ((es10.ext o).TM ad z) (by unfold sV; rw [hb,P]; exact hb3) (fun k hk=>by rw [<- Q]; unfold lP; rw [Y1 ad,Y1 ad]) (by rw [<- Q]; unfold lP; rw [Y1 ad,Y8 rfl]; exact hw4) (by rw [<- Q]; unfold lP; rw [Y8 rfl]; exact hw6)
   exact aG (cs:=PM) (I,(X.p,X.l,X.c),(kl8.p,kl8.l,kl8.c),((n+1:Nat):Int),()) m' (by rw [ZE ad]; exact hJ) hm' rfl hI
def nk (us:List bU):Nat:=(us.map fun u=>kq u.text).sum
structure N6 (x:kZ):Prop where
 len:x.ws.length<=2^30
 WG:∀ u,u∈x.ws->u.2.e.ah.length<=2^40
 sz:∀ u,u∈x.ws->∀ t,t∈u.2.e.ah->t.1.size<=maxLen
def NF (h0:Hp) (us:List bU) (v:Xab) (h':Hp):Prop:=Ext h0 h'/\match ry us with
 | .error f=>v=Jz f.vD f.unit f.name
 | .ok P=>∃ B usl lb S,h0.size<=B/\v=.tuple #[ptr (B+3),.agg #[vI 0,vI 0,.string ⟨#[]⟩]]/\rn h' B P.w usl lb ((nk us:Nat):Int) us.length (2*us.length) S /\
   (∀ n,(hn:n<us.length)->(S (2*n)).ws.map (·.2)=us[n].text.map (P.fN n)/\(S (2*n+1)).ws.map (·.2)=us[n].data.map (P.fN n))/\∀ k,k<2*us.length->N6 (S k)
def Pc {ms:List cX} (ok:EqsOk ms) (het:∀ e,e∈ms->e.x.ah.length<=2^20) (hl:V.ah.length<=2^20) (d:∀ t,t∈V.ah->t.1.size<=maxLen):(dC (cF ms) V).ah.length<=2^40/\∀ t,t∈(dC (cF ms) V).ah->t.1.size<=maxLen:=by
 have c:∀ s y,cF ms s=some y->∃ e,e∈ms/\y=e.x:=by
  intro s y a;unfold cF at a;split at a
  ·next i =>
   obtain ⟨e,b,_,j⟩:=mY ((eP ms s).1 i);exact ⟨e,b,by cases a; exact j⟩
  ·cases a
 refine ⟨?_,fun t f=>?_⟩
 ·have hnf:=ft (cF ms) V;have h1:((dC (cF ms) V).ah.map (·.1)).Nodup:=Z3.2 (hnf.1.imp fun h=>kW h);have h2:=mj _ ((V.ah.flatMap (tg (cF ms))).map (·.1)) h1 (fun s d=>by
   obtain ⟨t,f,rfl⟩:=Y9.1 d;obtain ⟨p,g,e⟩:=E6 f;exact Y9.2 ⟨p,g,e⟩)
  rw [YY,YY] at h2;have h3:=rh (of:=cF ms) (B:=2^20) bY (fun s y a=>by
   obtain ⟨e,b,rfl⟩:=c s y a;exact het e b) V.ah
  exact ZK h2 (ZK h3 (ZK (ZT _ hl) bY))
 ·rcases tU f with ⟨p,g,b,_⟩ | ⟨p,y,u,_,a,k,b⟩
  ·rw [<- b]; exact d p g
  ·obtain ⟨e,l,rfl⟩:=c _ _ a;rw [<- b]; exact ok.ts e l u k
def Xp {x:cE} (g:Good x) (h:x.ah.length<=2^20):FT x :=
 ⟨g.nf,g.num,h,fun t a=>by
  have:=Iy (g.NW t a)
  have b:2000<=maxLen:=bY
  omega⟩
def IJ.DW {us:List bU} (s:IJ us) (r:Hb us) (a:b∈us) {x:cE} (c:x∈cO b):FT x :=
 Xp (BG (r.right b a) (s.num b a) x c) (s.len a c)
def FZ {us:List bU} (s:IJ us) (r:Hb us) (lb:Qq O) {u:bU} (f:u∈us) {n:Nat} (i:sV O n u=none) {l:List cH} (hl:l=u.text\/l=u.data) {ws:List (cd × cH)} (h:ws.map (·.2)=l.map (O.fN n)):Jv ws/\ws.length<=2^20:=by
 have hb':=CT i;have h2:=(r.bf f).2;refine ⟨fun y c=>?_,?_⟩
 ·have h1:y.2∈l.map (O.fN n):=by rw [<- h]; exact Zm c
  obtain ⟨x,b,j⟩:=Y9.1 h1;have a:O.bad n x.e=none:=by
   rcases hl with rfl | rfl
   ·exact hb'.1 x b
   ·exact hb'.2.1 x b
  have d:x.e∈cO u:=by
   unfold cO;simp only [List.mem_append];rcases hl with rfl | rfl
   ·exact .inl (.inl (Zm b))
   ·exact .inl (.inr (Zm b))
  have g:=s.DW r f d;have c:y.2.e=O.lin n x.e:=by rw [<- j]; rfl
  rw [c];exact ⟨ZK (Ao a) g.len,mW g.num,O1 lb a⟩
 ·have:=Zg List.length h
  rw [YY,YY] at this;rcases hl with rfl | rfl <;> omega
def M2 {D:List (Xaa × cE)} {es:List cX} (h:es.map fL=D) {i:Nat} (hi:i<es.length) (h1:kV (dJ es) es[i].name) (h2:∀ j,(a:j<i)->¬ kV (dJ es) es[j].name):ov D=some i:=by
 classical
 have b:dJ (fG D)=dJ es:=B7 (by rw [qO,h]);have hl:D.length=es.length:=by rw [<- h,YY]
 have hn:∀ j,(a:j<es.length)->(D[j]'ad).1=es[j].name:=by
  intro j a;subst h;rw [Y7] <;> rfl
 unfold ov;rw [Zr];refine ⟨ad,?_,fun j a=>?_⟩
 ·refine Y4 ?_;rw [b,hn i hi];exact h1
 ·intro hd;have hd:=Y3 hd;rw [b,hn j ad] at hd;exact h2 j a hd
def MG {D:List (Xaa × cE)} {es:List cX} (h:es.map fL=D) (h2:∀ v,¬ kV (dJ es) v):ov D=none:=by
 have a:dJ (fG D)=dJ es:=B7 (by rw [qO,h]);unfold ov;rw [ZJ];intro x b;rw [decide_eq_false_iff_not,a];exact h2 _
def OE {D:List (Xaa × cE)} {es ms:List cX} (h:es.map fL=D) (a:ms.map (fun m=>(m.name,m.x))=es.map (fun e=>(e.name,fx es e.name))):cF ms=cF (fG (nV D)):=by
 refine GR ?_;rw [qO];show ms.map (fun m=>(m.name,m.x))=_;rw [a];unfold nV;have b:fx (fG D)=fx es:=Kd (by rw [qO,h]);rw [b,<- h,Zs] <;> rfl
def QZ {Z J1:List Xab->Hp->Prop} {h0 h:Hp} {A B:Nat} {usl lb:cd} {S:Nat->kZ} {us:List bU} 
  (hA:h0.size<=A) (L:A<B) (e0:Ext h0 h) (U:bF h A 37 [vI 0,vI 0,.string ⟨#[]⟩]) (s:rn h B O usl lb ((nk us:Nat):Int) us.length (2*us.length) S)
  (M:DE h (B+4) c d (xm O us) ((eR 0 us).map kn)) (r:Hb us) (sm:IJ us) (i0:WI O (cy 0 us) ((eR 0 us).map kn)) (V:gC O 0 us=none)
  (W:∀ n,(hn:n<us.length)->(S (2*n)).ws.map (·.2)=us[n].text.map (O.fN n)/\(S (2*n+1)).ws.map (·.2)=us[n].data.map (O.fN n))
  (x:ry us=match ov (xm O us) with
    | some i=>.error ⟨24,((eR 0 us).map fun q=>(q.1,q.2.1)).getD i (0,dV) |>.1,((eR 0 us).map fun q=>(q.1,q.2.1)).getD i (0,dV) |>.2⟩
    | none=>.ok ⟨O,us,xm O us⟩) :
  VA ⟨A,0,none⟩ ⟨B+3,0,none⟩ c.p c.l c.c d.p d.l d.c [Z,J1] (NF h0 us) h:=by
 unfold VA ay bz dF bK aK;obtain ⟨⟨es,o,f⟩,y⟩:=M;have eo:=Uu r sm i0 V f;have hl:es.length=(eR 0 us).length:=by
  have:=Zg List.length f
  unfold xm at this;simpa using this
 have hl2:=r.eqs;refine aJ (GB (c:=c.c) (DO o) eo (fun i hi=>(o.out.cj hi).2) ad) ?_;rintro _ h1 ⟨N,t⟩;rcases N with ⟨i,hi,P,z,rfl⟩ | ⟨C,p',l',c',ms,rfl,Q,D⟩
 ·refine ⟨((none,0,0),(i:Int),(24:Int),()),rfl,ak ?_⟩;refine cL rfl ?_;have y1:=y.ai t aj;have hkl:d.l=(eR 0 us).length:=by have:=y.1; rwa [YY,YY] at this
  have E:i<(eR 0 us).length:=ad
  obtain ⟨a,X,hc⟩:=y1.cells (i:=i) (by rw [YY,YY]; exact E);rw [Y7,Y7] at hc;generalize N:(eR 0 us)[i]=q at hc;have hc:aI h1 (a.add (i*2)) 0 [vI (q.1:Int),.string q.2.1]:=hc;refine bP X ?_;rw [cB i];refine av ((q.1:Int),()) (fg 1 _ 0 hc) (ak ?_);refine bP X ?_;have F:aI h1 ((a.add (i*2)).add 1) 0 [.string q.2.1]:=jD _ 1 0 (iE 1 _ 0 hc);refine av (q.2.1,()) F (ak ?_);refine ⟨⟨F,fg 1 _ 0 hc,trivial⟩,?_⟩;refine bQ (U.ai t aj) ?_;intro h2 b2 G z2;have b2:bF h2 A 37 [vI 24,vI (q.1:Int),.string q.2.1]:=b2;refine az b2 ((24:Int),(q.1:Int),q.2.1,()) ?_;refine ⟨bZ (e0.trans t) G,?_⟩;rw [x,M2 f hi P z];have hg:((eR 0 us).map fun q=>(q.1,q.2.1)).getD i (0,dV)=(q.1,q.2.1):=by
   rw [ZS,ZL,YZ E,N] <;> rfl
  simp only [hg] <;> rfl
 ·refine ⟨((p',l',c'),(0:Int),(0:Int),()),rfl,ak ?_⟩;refine cC rfl ?_;obtain ⟨R,G,k3,k4⟩:=Md eo C D ad;have hmany:=r.many;have g:∀ j,j<2*us.length->Jv (S j).ws/\(S j).ws.length<=2^20:=by
   intro j hj;have hn:j / 2<us.length:=ad
   have hbn:=nC us 0 V (j / 2) hn;rw [ZH] at hbn;have hSn:=W (j / 2) hn
   by_cases h2:j % 2=0
   ·have:j=2*(j / 2):=ad
    rw [this];exact FZ sm r (r.Lq i0) (Y5 hn) hbn (.inl rfl) hSn.1
   ·have:j=2*(j / 2)+1:=ad
    rw [this];exact FZ sm r (r.Lq i0) (Y5 hn) hbn (.inr rfl) hSn.2
  refine RN hA L (e0.trans t) (U.ai t aj) (s.ext t) ⟨Q,R,G,k3,k4⟩ ad g ?_
  ·intro h' J E' s' b;refine ⟨E',?_⟩;rw [x,MG f C];refine ⟨B,usl,lb,J,ad,rfl,s',fun n hn=>?_,fun k hk=>?_⟩
   rotate_left
   ·have hd:=(b k).2;rw [Y8 hk] at hd;obtain ⟨K,q2⟩:=g k hk;have Y:(J k).ws.length=(S k).ws.length:=by
     have:=Zg List.length hd
     rwa [YY,YY] at this
    have m:∀ u,u∈(J k).ws->∃ v,v∈(S k).ws/\u.2=sy (cF ms) v.2:=by
     intro u H;have h1:u.2∈(S k).ws.map (fun u=>sy (cF ms) u.2):=by rw [<- hd]; exact Zm H
     obtain ⟨v,hv,I⟩:=Y9.1 h1;exact ⟨v,hv,I.symm⟩
    refine ⟨ad,fun u H=>?_,fun u H=>?_⟩
    ·obtain ⟨v,hv,I⟩:=m u H;rw [I];exact (Pc R G (K v hv).1 (K v hv).2.2).1
    ·obtain ⟨v,hv,I⟩:=m u H;rw [I];exact (Pc R G (K v hv).1 (K v hv).2.2).2
   have hSn:=W n hn;have hlo:=OE f D;have hd:∀ (k:Nat) (l:List cH),k<2*us.length->(S k).ws.map (·.2)=l.map (O.fN n)->(J k).ws.map (·.2)=l.map ((⟨O,us,xm O us⟩:LP).fN n):=by
    intro k l hk hl
    have:=(b k).2
    rw [Y8 hk] at this;rw [this,show (S k).ws.map (fun u=>sy (cF ms) u.2)=((S k).ws.map (·.2)).map (sy (cF ms)) by rw [Zs]; rfl,hl,Zs,hlo] <;> rfl
   exact ⟨hd _ _ ad hSn.1,hd _ _ ad hSn.2⟩
def Xk (y z:Xax) (B c:Xac) (b A:Nat):T :=
   (T.loop [(false,[.pointer 0]),dp,dp,aK] [.pointer B,aS,aS,vI (0:Int)] <| fun (j d:Xac) (e f:Nat) (g:Xac) (h i:Nat) (a:Int) =>
   bn a b
   (T.need (dF a b) <|
   T.aR c <| fun (k:Xax) =>
   T.af (k.add (ay a 4)) [.slice 64,.slice 64,.slice 88,.slice 9] <| fun (l:Xac) (m n:Nat) (o:Xac) (p q:Nat) (r:Xac) (s t:Nat) (u:Xac) (w x:Nat) =>
   UA y z j d e f g h i a l m n o p q r s t u w x)
   (VA y z d e f g h i))
def OY (w:LW) (us:List bU) (u:bU):xm w (us++[u])=xm w us++u.bf.map fun e=>(w.word (us.length,e.1),w.lin us.length e.2):=by
 unfold xm;rw [sS,Za,Zs,ZH] <;> rfl
def LJ (us:List bU) (u:bU):(eR 0 (us++[u])).map kn=(eR 0 us).map kn++u.bf.map fun e=>(us.length,e.1):=by
 rw [sS,Za,Zs,ZH] <;> rfl
def Io (us:List bU) (u:bU):nk (us++[u])=nk us+kq u.text:=by
 unfold nk
 simp
theorem G8:∀ us:List bU,nk us<=uu us
 | []=>by simp [nk,uu]
 | u::us=>by
  have h1:=G8 us;have h2:=AB u.text;unfold nk uu at *;simp only [List.map_cons,List.sum_cons];omega
def Ie (us:List bU) (n:Nat):nk (us.take n)<=nk us:=by
 have h:us=us.take n++us.drop n:=(ZG n us).symm
 conv=>rhs; rw [h]
 unfold nk;rw [Za,List.sum_append];omega
def NV (us:List bU) (n:Nat):(eR 0 (us.take n)).length<=(eR 0 us).length:=by
 have e:∀ (a b:List bU) (k:Nat),eR k (a++b)=eR k a++eR (k+a.length) b:=by
  intro a
  induction a with
  | nil=>intro b k; simp [eR]
  | cons x a c =>
   intro b k;rw [by9,eR,eR,c,Zp,Z1,show k+1+a.length=k+(a.length+1) from ad]
 have h:=e (us.take n) (us.drop n) 0;rw [ZG] at h;rw [h,Y0];omega
def QQ {J0:List Xab->Hp->Prop} {h0 h:Hp} {A B:Nat} {lb:cd} {us:List bU} {pp:Xac} {Z cc:Nat}
  (pw:iV h0) (J:Cw h0) (hA:h0.size<=A) (m:A<B) (e0:Ext h0 h) (o:bF h A 37 [vI 0,vI 0,.string ⟨#[]⟩]) (s:Fk h B lZ lb 0 O)
  (v:wh h0 pp Z us) (r:Hb us) (sm:IJ us) (i0:WI O (cy 0 us) ((eR 0 us).map kn))
  (f:ry us=match gC O 0 us with
   | some q=>.error ⟨23,q.1,q.2⟩
   | none=>match ov (xm O us) with
    | some i=>.error ⟨24,((eR 0 us).map fun q=>(q.1,q.2.1)).getD i (0,dV) |>.1,((eR 0 us).map fun q=>(q.1,q.2.1)).getD i (0,dV) |>.2⟩
    | none=>.ok ⟨O,us,xm O us⟩) :
  Xk ⟨A,0,none⟩ ⟨B+3,0,none⟩ none pp Z cc [J0] (NF h0 us) h:=by
 unfold Xk bn ay dF aS aK dp;have hll:=v.len;have hmany:=r.many;have hlwb:=r.Lq i0;have s0:rn h B O lZ lb ((0:Nat):Int) 0 (2*0) (fun _=>WX):=⟨s.box,s.maps,s.qu,SL.nil _ _ _ _,mh.nil _ _ _⟩
 refine aU (cs:=PM) (fun y m' h'=>∃ (n:Nat) (usl t z:cd) (S:Nat->kZ),y.1=none/\y.2.1=(t.p,t.l,t.c)/\y.2.2.1=(z.p,z.l,z.c)/\y.2.2.2.1=(n:Int)/\n<=us.length/\m'=us.length-n/\Ext h0 h'/\bF h' A 37 [vI 0,vI 0,.string ⟨#[]⟩]/\rn h' B O usl lb ((nk (us.take n):Nat):Int) n (2*n) S /\
   DE h' (B+4) t z (xm O (us.take n)) ((eR 0 (us.take n)).map kn)/\gC O 0 us=gC O n (us.drop n)/\∀ j,(hj:j<n)->(I:j<us.length)->(S (2*j)).ws.map (·.2)=us[j].text.map (O.fN j)/\(S (2*j+1)).ws.map (·.2)=us[j].data.map (O.fN j))
  (none,(none,0,0),(none,0,0),(0:Int),()) us.length rfl
  ⟨0,lZ,lZ,lZ,fun _=>WX,rfl,rfl,rfl,rfl,ad,ad,e0,o,by simpa [nk] using s0,⟨⟨[],⟨SL.nil _ _ _ _,aj,List.Pairwise.nil,aj⟩,rfl⟩,SL.nil _ _ _ _⟩,rfl,by intro j hj; omega⟩ ?_
 clear e0 o s s0;rintro ⟨p13,⟨p14,l15,l16⟩,⟨p17,l18,l19⟩,n20,⟨⟩⟩ m' h1 ⟨n,usl,t,z,S,C,D,F,G,hnl,rfl,K,o,s,g,b,hS⟩;simp only [Prod.mk.injEq] at C D F G;obtain ⟨rfl,rfl,rfl⟩:=D;obtain ⟨rfl,rfl,rfl⟩:=F;subst C G;refine ak ?_;refine aP ?_ ?_<;>intro q
 ·have d:n<us.length:=ad
  obtain ⟨a,L,M,N,P,ha,hc,hu⟩:=v.cells n d;have hmem:=Y5 d;have k:us.take (n+1)=us.take n++[us[n]]:=Y2 d;have Q:(us.take n).length=n:=by rw [Zi]; omega
  rw [Bp O us n d] at b;have hre:=r.bf hmem;have hrr:=r.right _ hmem;have hgood:=fun x I=>sm.DW r hmem (x:=x) I
  have hsu:=Ie us n;have hsu2:=G8 us;have hit:=sm.items;have hek:=NV us n;have hek2:=r.eqs;generalize R:us[n]=u at hc hu k b hre hrr hgood;refine bP ha ?_;rw [cB n];refine av ((L.p,L.l,L.c),(M.p,M.l,M.c),(N.p,N.l,N.c),(P.p,P.l,P.c),()) (aX K aj _ _ hc) (ak ?_);refine QA rfl rfl pw J hA m K o s hlwb g hu hgood hrr ad ad ad (by unfold xm; rw [YY]; omega) (by rw [YY]; omega) ad ad ?_ ?_
  ·intro h' q E hq;refine ⟨E,?_⟩;rw [hq] at b;rw [f,b]
  ·intro h' U V H S' E W s' X hb e h1 h2;rw [hb] at b;refine ⟨us.length-(n+1),ad,n+1,H,U,V,S',rfl,rfl,rfl,rfl,ad,rfl,E,W,?_,?_,b,fun j hj I=>?_⟩
   ·rw [k,Io];exact s'
   ·rw [k,OY,LJ,Q];exact X
   ·by_cases Y:j=n
    ·subst Y;rw [R];exact ⟨h1,h2⟩
    ·rw [e _ ad,e _ ad];exact hS j ad I
 ·have hn:n=us.length:=ad
  subst hn;rw [ar9 (Zc _)] at b;rw [Zu (Zc _)] at s g;have b:gC O 0 us=none:=b;rw [b] at f;exact QZ hA m K o s g r sm i0 b (fun n hn=>hS n hn hn) f
def RQ (pw:iV H) (D:Cw H) {l c:Nat} {us:List bU} (v:wh H I l us) (sm:IJ us):HC Xaz 14 #[.slice I l c] H (NF H us):=by
 refine bi (args:=[.slice I l c]) mixed Tryz.func14 aw (AK I l c) ?_;unfold zD aY bj bn ay dl jE bz aT bX bC ax bK aS cm aK cr dp;have hll:=v.len;have hmany:=v.many;refine bG ?_;intro h1 b1 R z1;refine ao ?_ ?_<;>intro q
 ·have q:l=0:=by
   have:=Y3 q
   omega
  refine bQ b1 ?_;intro h2 b2 W z2;have b2:bF h2 H.size 37 [vI 25,vI 0,.string ⟨#[]⟩]:=b2;refine az b2 ((25:Int),(0:Int),(⟨#[]⟩:Xaa),()) ?_;refine ⟨bZ R W,?_⟩;unfold ry;rw [Y8 ad] <;> rfl
 have f:¬ us.length=0:=by
  have:=Zf q
  omega
 refine ao ?_ ?_<;>intro q
 ·have q:=Y3 q;refine bQ b1 ?_;intro h2 b2 W z2;have b2:bF h2 H.size 37 [vI 4,vI 0,.string ⟨#[]⟩]:=b2;refine az b2 ((4:Int),(0:Int),(⟨#[]⟩:Xaa),()) ?_;refine ⟨bZ R W,?_⟩;unfold ry;rw [Y1 f,Y8 ad] <;> rfl
 have d:¬ 64<us.length:=by
  have:=Zf q
  omega
 have E:∀ n,us.findIdx? (fun u=>decide (fA u≠0))=some n->ry us=.error ⟨31,n,dV⟩:=by
  intro n hn;unfold ry;rw [Y1 f,Y1 d,hn]
 refine aU (cs:=[(false,[.pointer 0]),(false,[.int .i64])]) (fun y m' h'=>∃ n:Nat,y.1=none/\y.2.1=(n:Int)/\n<=us.length/\m'=us.length-n/\Ext H h'/\bF h' H.size 37 [vI 0,vI 0,.string ⟨#[]⟩]/\∀ j,(g:j<n)->(hx:j<us.length)->fA us[j]=0) (none,(0:Int),()) us.length rfl
  ⟨0,rfl,rfl,ad,ad,R,b1,by intro j g; omega⟩ ?_
 clear R b1;rintro ⟨p2,n3,⟨⟩⟩ m' h2 ⟨n,F,G,hnl,rfl,J,b2,k⟩;simp only at F G;subst F G;refine ak ?_;refine aP ?_ ?_<;>intro q
 ·have K:n<us.length:=ad
  obtain ⟨a,m,o,s,t,ha,hc,L⟩:=v.cells n K;refine bP ha ?_;rw [cB n];refine av ((m.p,m.l,m.c),(o.p,o.l,o.c),(s.p,s.l,s.c),(t.p,t.l,t.c),()) (aX J aj _ _ hc) (ak ?_);refine bG ?_;intro h3 X Y z3;refine bQ X ?_;intro h4 Z k4 z4;have Z:bF h4 h2.size 30 [m.v,o.v,s.v,t.v]:=Z;have M:Ext h2 h4:=bZ Y k4;have e04:=J.trans M;refine az Z ((m.p,m.l,m.c),(o.p,o.l,o.c),(s.p,s.l,s.c),(t.p,t.l,t.c),()) (ak ?_);refine aJ (xp (D.ai e04 aj) (L.ai e04)) ?_;rintro _ h5 ⟨rfl,B⟩;refine ⟨(((fA us[n]:Nat):Int),()),rfl,ak ?_⟩;have b5:=b2.ai (M.trans B) aj;have e05:=e04.trans B;refine ao ?_ ?_<;>intro q
  ·have hne:fA us[n]≠0:=by
    intro h0;rw [h0] at q;exact absurd q bY
   refine bQ b5 ?_;intro h6 C k6 z6;have C:bF h6 H.size 37 [vI 31,vI (n:Int),.string ⟨#[]⟩]:=C;refine az C ((31:Int),(n:Int),(⟨#[]⟩:Xaa),()) ?_;refine ⟨bZ e05 k6,?_⟩;rw [E n (by
    rw [Zr];exact ⟨K,Y4 hne,fun j g=>by rw [k j g ad]; decide⟩)]
   rfl
  ·have hz:fA us[n]=0:=by
    have hb:(((fA us[n]:Nat):Int) != 0)=false:=q
    by_cases h0:fA us[n]=0
    ·exact h0
    ·have:(((fA us[n]:Nat):Int) != 0)=true:=by
      rw [bne_iff_ne];omega
     rw [this] at hb;cases hb
   have hw:=iC n;rw [hw];refine aG (cs:=[(false,[.pointer 0]),(false,[.int .i64])]) (none,((n+1:Nat):Int),()) (us.length-(n+1)) rfl ad rfl ⟨n+1,rfl,rfl,ad,rfl,e05,b5,fun j g hx=>?_⟩
   by_cases hjn:j=n
   ·subst hjn; exact hz
   ·exact k j ad hx
 ·have hn:n=us.length:=ad
  subst hn;have r:Hb us:=⟨fun u L=>by
   obtain ⟨j,g,rfl⟩:=Zt L;exact k j g g,ad⟩
  have N:us.findIdx? (fun u=>decide (fA u≠0))=none:=by
   rw [ZJ];intro u L;rw [r.right u L];decide
  have q2:=b2.lt;refine Nr (kv:=Qr) (en:=eI) ?_;intro h3 m3 Y z3;refine Nr (kv:=Qr) (en:=eI) ?_;intro h4 m4 e4 z4;refine zG (en:=eI) ?_;intro h5 m5 B z5;refine bG ?_;intro h6 C S z6;have e26:=((Y.trans e4).trans B).trans S;have O:h4.size=h2.size+2:=ad
  have P:h5.size=h2.size+3:=ad
  rw [z3] at m4;rw [O] at m5;rw [P,z3,O] at C;rw [P];have p6:Fk h6 h2.size lZ lZ 0 Tj:=⟨C,⟨((m3.ai e4 aj).ai B aj).ai S aj,(m4.ai B aj).ai S aj,m5.ai S aj⟩,SL.nil _ _ _ _⟩
  have v2:=v.ai J;have hit:=sm.items;refine aJ (HQ (c:=c) rfl e26 p6 v2 (by show 0+uu us<=_; omega) ad rfl) ?_;rintro _ h7 ⟨rfl,lb7,p7,e7⟩;refine ⟨(),rfl,ak ?_⟩;refine aJ (KO (c:=c) rfl e7 p7 v2 ad) ?_;rintro _ h8 ⟨U,V⟩;have b28:=b2.ai U aj;have z8:=U.size;have w0:=Tp r.right;cases Q:lx 0 us (oy 0 us Tj) with
  | error q =>
   rw [Q] at V;subst V;refine ⟨((22:Int),(q.1:Int),q.2,true,()),rfl,ak ?_⟩;refine bG ?_;intro h9 x e9 z9;refine bQ x ?_;intro h10 e z z10;have e:bF h10 h8.size 37 [vI 22,vI (q.1:Int),.string q.2]:=e;have b:Ext h8 h10:=bZ e9 z;refine cL rfl ?_;refine az e ((22:Int),(q.1:Int),q.2,()) ?_;refine ⟨⟨e.cells _ rfl,trivial⟩,?_⟩;refine bQ (b28.ai b aj) ?_;intro h11 A k11 z11;have A:bF h11 H.size 37 [vI 22,vI (q.1:Int),.string q.2]:=A;refine az A ((22:Int),(q.1:Int),q.2,()) ?_;refine ⟨bZ ((J.trans U).trans b) k11,?_⟩;unfold ry;rw [Y1 f,Y1 d,N];simp only [Q] <;> rfl
  | ok w =>
   rw [Q] at V;obtain ⟨rfl,p8⟩:=V;refine ⟨((0:Int),(0:Int),(⟨#[]⟩:Xaa),false,()),rfl,ak ?_⟩;refine bG ?_;intro h9 x e9 z9;refine bQ x ?_;intro h10 e z z10;have b:Ext h8 h10:=bZ e9 z;refine cC rfl ?_;have e010:=(J.trans U).trans b;refine QQ (cc:=c) pw D (Zc _) q2 e010 (b28.ai b aj) (p8.ai b) v r sm (w0.meet Q) ?_;unfold ry;rw [Y1 f,Y1 d,N];simp only [Q];cases gC w 0 us with
   | some q=>rfl
   | none =>
    cases ov (xm w us) with
    | some i=>rfl
    | none=>rfl
structure Gh (h:Hp) (b:Nat) (s:cd) (ws:List (cd × cH)):Prop where
 out:SL h b 64 10 s.p s.l s.c (ws.map oc)
 fI:∀ u,u∈ws->SL h b 66 2 u.1.p u.1.l u.1.c (u.2.e.ah.map dh)
def Gh.vd {b:Nat} {ws:List (cd × cH)} (o:Gh H b c ws):VF H c.p c.l ws :=
 ⟨by have:=o.out.1; rwa [YY] at this,fun i hi=>by
  obtain ⟨a,d,hc⟩:=o.out.cells (i:=i) (by simpa using hi);rw [Y7] at hc;exact ⟨a,d,hc⟩⟩
def XY (c:Xac) (b d:Nat):T :=
   T.loop [aK] [vI (0:Int)] <| fun (a:Int) =>
   bn a b
    (T.need (dF a b) <|
    T.aR c <| fun (e:Xax) =>
    T.af ((e.add (ay a 10)).add 7) [.slice 66] <| fun (f:Xac) (g h:Nat) =>
    bz 54 [.slice f g h] false [(false,[.slice 66])] <| fun (i:Xac) (j k:Nat) =>
    T.need (dF a b) <|
    T.aR c <| fun (l:Xax) =>
    T.ar ((l.add (ay a 10)).add 7) [.slice i j k] <|
    T.again 0 [vI (bC (a+(1:Int)))])
    (T.ret (.slice c b d))
def yd (h:Hp) (us:List cH) (v:Xab) (h':Hp):Prop:=Ext h h'/\∃ s ws,v=cd.v s/\Gh h' h.size s ws/\ws.map (·.2)=us
def Uf {h0 h:Hp} {b0:Nat} {s:cd} {ws:List (cd × cH)} (e0:Ext h0 h) (o:SL h h0.size 64 10 s.p s.l s.c (ws.map oc)) (hin:∀ u,u∈ws->SL h0 b0 66 2 u.1.p u.1.l u.1.c (u.2.e.ah.map dh)) (hl:ws.length<=2^30) (ht:∀ u,u∈ws->u.2.e.ah.length<=2^40) :
  XY s.p s.l s.c [] (yd h0 (ws.map (·.2))) h:=by
 unfold XY bn ay bz bC dF aK;have J:s.l=ws.length:=by have:=o.1; rwa [YY] at this
 have z0:=e0.size
 refine aU (cs:=cn) (fun y G h'=>∃ (i:Nat) (b:List (cd × cH)),y.1=(i:Int)/\i<=ws.length/\G=ws.length-i/\Ext h0 h'/\SL h' h0.size 64 10 s.p s.l s.c (b.map oc)/\b.length=ws.length /\
   ∀ m,(f:m<ws.length)->(r:m<b.length)->b[m].2=ws[m].2/\if m<i then SL h' h0.size 66 2 b[m].1.p b[m].1.l b[m].1.c (b[m].2.e.ah.map dh) else b[m]=ws[m]) ((0:Int),()) ws.length rfl
  ⟨0,ws,rfl,ad,ad,e0,o,rfl,fun m f r=>⟨rfl,by rw [Y1 ad]⟩⟩ ?_
 clear e0 o z0;rintro ⟨K,⟨⟩⟩ G h1 ⟨i,b,hi,L,rfl,B,o,t,eA⟩;simp only at hi;subst hi;refine ak ?_;have z1:=B.size;refine aP ?_ ?_<;>intro q
 ·have n:i<ws.length:=ad
  have d:i<b.length:=ad
  have hi:=(eA i n d).2;rw [Y1 ad] at hi;obtain ⟨a,D,hc⟩:=o.cells (i:=i) (by simpa using d);rw [Y7,hi] at hc;have hin:=hin ws[i] (Y5 n);have ht:=ht ws[i] (Y5 n);generalize C:ws[i]=u at hin hc ht;refine bP D ?_;rw [cB i];refine av ((u.1.p,u.1.l,u.1.c),()) (fg 1 [_,_,_] 0 (jD _ 7 0 (iE 7 _ 0 hc))) (ak ?_);refine aJ (Hr (c:=u.1.c) (xX (hin.ai B aj)) ht) ?_;rintro _ h2 ⟨⟨p',l',c',rfl,H⟩,E⟩;refine ⟨((p',l',c'),()),rfl,ak ?_⟩;refine bP D ?_;have o2:=o.ai E aj;refine SL.part (P:=Xaz) o2 (i:=i) (by rw [YY]; exact d) (o:=7) aj (by simp [da]) D ?_;intro M I F z3;have w:(b.map oc).set i (gK ((b.map oc)[i]'(by rw [YY]; exact d)) 7 [.slice p' l' c'])=(b.set i (⟨p',l',c'⟩,u.2)).map oc:=by
   rw [ce9,Y7,hi,C] <;> rfl
  rw [w] at I;have hw:=iC i;rw [hw];refine aG (cs:=cn) (((i+1:Nat):Int),()) (ws.length-(i+1)) rfl ad rfl ?_;refine ⟨i+1,_,rfl,ad,rfl,Ch.trans (B.trans E) F (fun j x hl=>by have:=(o2.cj x).1; omega),I,by rw [Z7]; exact t,fun m f r=>?_⟩
  by_cases z:m=i
  ·subst z;rw [Y8 ad,List.getElem_set_self,C];exact ⟨rfl,(H.br F (fun j x f=>qz o2 H bY j f x)).mono z1⟩
  ·have g:m<b.length:=ad
   have:=eA m f g
   rw [List.getElem_set_ne (Ne.symm z)];refine ⟨this.1,?_⟩;have this:=this.2
   by_cases k:m<i
   ·rw [Y8 k] at this;rw [Y8 ad]
    have:=this.ai E aj
    exact this.br F (fun j x f=>qz o2 this bY j f x)
   ·rw [Y1 k] at this;rw [Y1 ad];exact this
 ·have hi:i=ws.length:=ad
  subst hi;refine ⟨B,s,b,rfl,⟨o,fun u C=>?_⟩,?_⟩
  ·obtain ⟨m,f,rfl⟩:=Zt C
   have:=(eA m ad f).2
   rwa [Y8 ad] at this
  ·refine ca9 (by rw [YY,YY]; exact t) fun m A g=>?_
   rw [YY] at A g;rw [Y7,Y7];exact (eA m g A).1
section
variable {h:Hp} {B N M:Nat} {w:LW} {usl lb:cd} {sp:Int} {S:Nat->kZ}
def uZ (S:Nat->kZ) (N:Nat) (n k:Int):List cH:=if 0<=n/\n<N/\(k=0\/k=1) then (S (2*n.toNat+k.toNat)).ws.map (·.2) else []
def qI (h:Hp):yd h [] (.slice none 0 0) h:=⟨Ch.refl _ _,lZ,[],rfl,⟨SL.nil _ _ _ _,aj⟩,rfl⟩
def Nn (s:rn h B w usl lb sp N M S) (K:2*N<=M) (L:N<=2^30) (hs:∀ k,k<2*N->(S k).ws.length<=2^30/\∀ u,u∈(S k).ws->u.2.e.ah.length<=2^40) (n k:Int) (hn:-9223372036854775808<=n/\n<=9223372036854775807) :
  HC Xaz 17 #[ptr (B+3),vI n,vI k] h (yd h (uZ S N n k)):=by
 refine bi (args:=[ptr (B+3),vI n,vI k]) mixed Tryz.func17 aw (ow (some ⟨B+3,0,none⟩) n k) ?_;unfold jK aY bj bn ay bz aS aK;have D:usl.l=N:=by have:=s.un.1; rwa [ma] at this
 have d:¬ (0<=n/\n<N/\(k=0\/k=1))->uZ S N n k=[]:=fun h=>by unfold uZ; rw [Y1 h]
 refine ao ?_ ?_<;>intro q
 ·have q:=Y3 q;rw [d ad];exact qI h
 have q1:=Zf q;refine aH rfl ?_;refine az s.box ((usl.p,usl.l,usl.c),()) (ak ?_);refine ao ?_ ?_<;>intro q
 ·have q:=Y3 q;rw [d ad];exact qI h
 have q2:=Zf q;refine ao ?_ ?_<;>intro q
 ·have q:=Y3 q;rw [d ad];exact qI h
 have q3:=Zf q;refine ao ?_ ?_<;>intro q
 ·have q:=Y3 q;rw [d ad];exact qI h
 have q4:=Zf q;have o:n.toNat<N:=ad
 obtain ⟨a,C,hc⟩:=s.un.cells (i:=n.toNat) (by rw [ma]; exact o);rw [Dz] at hc;generalize A:n.toNat=m at hc o;have g:∀ j,j<2->∃ f:cd,f=(S (2*m+j)).s/\VF h f.p f.l (S (2*m+j)).ws:=by
  intro j E;have hs:=s.yw.sec (2*m+j) ad;exact ⟨_,rfl,Gh.vd (b:=B+4) ⟨hs.out,hs.fI⟩⟩
 have hit:k=0\/k=1->uZ S N n k=(S (2*m+k.toNat)).ws.map (·.2):=fun hk=>by
  unfold uZ;rw [Y8 ⟨ad,ad,hk⟩,A]
 refine aH rfl ?_;refine az s.box ((usl.p,usl.l,usl.c),()) (ak ?_);refine bP C ?_;obtain ⟨f,r,F⟩:=g 0 ad;obtain ⟨x,y,G⟩:=g 1 ad;have hc:aI h (a.add (m*4)) 0 [f.v,x.v,lZ.v,lZ.v]:=by rw [r,y]; exact hc
 refine av ((f.p,f.l,f.c),()) (fg 1 _ 0 hc) (ak ?_);have z:∀ (j:Nat) (t:cd),j<2->t=(S (2*m+j)).s->VF h t.p t.l (S (2*m+j)).ws->(T.call Xaz 53 [.slice t.p t.l t.c] false [(false,[.slice 64])] fun p l c=>XY p l c) [] (yd h ((S (2*m+j)).ws.map (·.2))) h:=by
  intro j t E O H;have hsz:=hs (2*m+j) ad;have se:=s.yw.sec (2*m+j) ad;refine aJ (DB (c:=t.c) H hsz.1) ?_;rintro _ h1 ⟨⟨p',c',rfl,I⟩,J⟩;refine ⟨((p',t.l,c'),()),rfl,ak ?_⟩;exact Uf (s:=⟨p',t.l,c'⟩) J I se.fI hsz.1 hsz.2
 refine ao ?_ ?_<;>intro q
 ·have hk:k=1:=by simpa using q
  rw [hit (.inr hk),hk];refine aH rfl ?_;refine az s.box ((usl.p,usl.l,usl.c),()) (ak ?_);refine bP C ?_;refine av ((x.p,x.l,x.c),()) (fg 1 [_,_,_] 0 (jD _ 1 0 (iE 1 _ 0 hc))) (ak ?_);exact z 1 x ad y G
 ·have hk:k=0:=by
   have:¬ k=1:=by
    intro h;rw [h] at q;exact absurd q bY
   omega
  rw [hit (.inl hk),hk];exact z 0 f ad r F
variable {H:Xac}
def UN {h:Hp} {b:Nat} {e:TypeId} {sz l c:Nat} {d:List (List Xab)} (s:SL h b e sz H l c d):(H=none/\d=[])\/∃ a,H=some a/\aI h a 0 d.flatten:=by
 cases H with
 | none=>exact .inl ⟨rfl,s.2.2.2⟩
 | some a =>
  refine .inr ⟨a,rfl,?_⟩
  have:=jr (h:=h) (a:=a) (sz:=sz) d 0 s.2.1 (fun i hi=>by
   obtain ⟨a',f,hc⟩:=s.cells hi;cases f;rw [ZH];exact hc)
  rwa [cx9] at this
def IL (a:List Lb):(a.map nS).flatten.all da=true:=by
 rw [Zx];intro v hv;obtain ⟨x,b,hv⟩:=bn9.1 hv;obtain ⟨t,_,rfl⟩:=Y9.1 b;simp only [nS,List.mem_cons,List.not_mem_nil,or_false] at hv;rcases hv with rfl | rfl | rfl | rfl <;> rfl
def K0 (a:List Lb):∀ y,y∈a.map nS->y.length=4:=by
 intro y b;obtain ⟨u,_,rfl⟩:=Y9.1 b;rfl
def Lx {h:Hp} {b l c:Nat} {d:List Lb} (s:SL h b 76 4 H l c (d.map nS)) (hl:d.length<=2^30) :
  HC Xaz 55 #[.slice H l c] h fun w h'=>(∃ p' c',w=.slice p' l c'/\SL h' h.size 76 4 p' l c' (d.map nS))/\Ext h h':=by
 refine bi (args:=[.slice H l c]) mixed Tryz.func55 aw (fR H l c) ?_;unfold dS aT aS;have f:l=d.length:=by have:=s.1; rwa [YY] at this
 cases H with
 | none =>
  refine cL rfl ?_;have h2:d=[]:=by simpa using s.2.2.2
  subst h2;subst f;exact ⟨⟨none,0,rfl,SL.nil _ _ _ _⟩,Ch.refl _ _⟩
 | some a =>
  refine cC rfl ?_;refine nt (e:=76) (z:=.agg #[vI 0,vI 0,vI 0,.string ⟨#[]⟩]) (sz:=4) (by':=40) Ts We rfl (UN s) (by simpa using f) (K0 d) (IL d) ad ad ?_;intro p' c' h' i j;exact ⟨⟨p',c',rfl,i⟩,j⟩
def pP (s:rn h B w usl lb sp N M S) (hl:w.lb.length<=2^30):HC Xaz 18 #[ptr (B+3)] h fun v h'=>Ext h h'/\∃ p l c,v=.slice p l c/\SL h' h.size 76 4 p l c (w.lb.map nS):=by
 refine bi (args:=[ptr (B+3)]) mixed Tryz.func18 aw (nP (some ⟨B+3,0,none⟩)) ?_;unfold jl bz;refine aH rfl ?_;rw [aC];refine az s.box ((lb.p,lb.l,lb.c),()) (ak ?_);refine aJ (Lx (c:=lb.c) s.qu hl) ?_;rintro _ h1 ⟨⟨p',c',rfl,a⟩,b⟩;exact ⟨((p',lb.l,c'),()),rfl,b,p',lb.l,c',rfl,a⟩
end
def KA (us:List bU) (P:LP) (F:bU->List cH) (tw:List (cd × List (cd × cH))):Prop :=
 tw.length=us.length/\∀ n u x,us[n]?=some u->tw[n]?=some x->x.2.map (·.2)=(F u).map (P.fN n)
structure Cs (h0 h':Hp) (us:List bU) (su:cd) (P:LP) (B:Nat) (usl lb:cd) (S:Nat->kZ) (g b':Nat) (lb2 st sd:cd) (tw dw:List (cd × List (cd × cH))):Prop where
 le:h0.size<=B
 pg:rn h' B P.w usl lb ((nk us:Nat):Int) us.length (2*us.length) S
 U8:∀ n,(hn:n<us.length)->(S (2*n)).ws.map (·.2)=us[n].text.map (P.fN n)/\(S (2*n+1)).ws.map (·.2)=us[n].data.map (P.fN n)
 sz:∀ k,k<2*us.length->N6 (S k)
 pr:Ff h' g su lb2 st sd (cy 0 us)
 tx:wm h' b' st tw
 dx:wm h' b' sd dw
 ti:KA us P (·.text) tw
 di:KA us P (·.data) dw
def Pd {us:List bU} {P:LP} (c:P7 us (.ok P)) (sm:IJ us) {ms:List cX} (d:ms.map fL=(dR us (cy 0 us) us).map fun y=>(y.1,fx (fG (dR us (cy 0 us) us)) y.1)) {F:bU->List cH} (f:∀ u x,x∈F u->x.e∈cO u)
  {tw:List (cd × List (cd × cH))} (t:zH us (cy 0 us) ms F us.length tw):KA us P F tw:=by
 obtain ⟨z1,k,l,g,h,b1,c1,m⟩:=c;refine ⟨t.1,fun n u x b i=>?_⟩;rw [t.2 n u x b i];refine ZR fun y j=>?_
 have hn:=(Zn.1 b).1;have hyl:=f u y j;have a:P.w.bad n y.e=none:=by
  have h1:=nC us 0 b1 n hn;rw [ZH,(Zn.1 b).2,yq,Z4] at h1;exact h1 _ hyl
 have e1:=h.put b1 c1 hn a (sm.num u (ZU b) _ hyl).1 d;unfold LP.fN x7;rw [g,e1]
end Go.Sx.Lk
namespace Go.Sx.Ob
open Go.Proofs
structure Yk where
 kind:Nat
 items:List cH
 name:Xaa
 e:cE
 sec:Nat
def XE (k:Nat):List UInt8:=(wB k).data.toList
structure Ym where
 text:List cH
 data:List cH
 bf:List oh
 names:List Xaa
 aQ:List (Xaa × Nat)
 sec:Nat
def W8 (w:Ym) (Jr:Xaa) (t:Yk):Prop:=(Jr≠dV/\gz w.names Jr=true)\/(t.kind=3/\(gz w.names t.name=true\/t.name=Jr))
instance (w:Ym) (Jr:Xaa) (t:Yk):Decidable (W8 w Jr t):=by unfold W8; infer_instance
end Go.Sx.Ob
namespace Go.Sx.Lk
open Go.Proofs Go.Sx.Ob
def S8:Tryz.prog.underlying 76=some (.struct (Ca Xaz 76)):=aw
def TL (a b c:Int) (s:Xaa) (a' b' c':Int) (d:Xaa):(Ca Xaz 76).all (HB #[vI a,vI b,vI c,.string s] #[vI a',vI b',vI c',.string d])=(a==a' && (b==b' && (c==c' && (s==d && true)))):=by
 rw [<- aj9]
 kernel_rfl
def II (u v:Operand) (x y:Lb) (h:Hp) (K:Xab->Hp->Prop) (hk:K (.bool (decide (x≠y))) h) :
  aZ Xaz (Sx.jk (BinOp.neq) 76 u v (.agg #[vI (x.u:Int),vI (x.s:Int),vI (x.i:Int),.string x.n]) (.agg #[vI (y.u:Int),vI (y.s:Int),vI (y.i:Int),.string y.n])) h K:=by
 refine rZ S8 aw aw aw K ?_;have e:(!((x.u:Int)==(y.u:Int) && ((x.s:Int)==(y.s:Int) && ((x.i:Int)==(y.i:Int) && (x.n==y.n && true)))))=decide (x≠y):=by
  obtain ⟨a,b,c,s⟩:=x;obtain ⟨a',b',c',d⟩:=y;rw [cg9];simp only [vF,Bool.not_eq_true',Bool.and_true,decide_eq_true_eq,ne_eq,Lb.mk.injEq,Bool.and_eq_false_iff,beq_eq_false_iff_ne,decide_eq_false_iff_not,Int.natCast_inj]
  by_cases h1:a=a' <;> by_cases h2:b=b' <;> by_cases f:c=c' <;> by_cases g:s=d <;> simp [h1,h2,f,g]
 rw [TL,e];exact hk
variable {H:Hp} {I:Nat}
def Mc {b':Nat} {p q:Xac} {l c m d:Nat} {f ys:List Lb} (s:SL H I 76 4 p l c (f.map nS)) (t:SL H b' 76 4 q m d (ys.map nS)) (hl:f.length<=2^60):xL Xaz 31 [.slice p l c,.slice q m d] H (.bool (decide (f=ys))):=by
 refine fh mixed Tryz.func31 aw (iQ p l c q m d) ?_;unfold fj aY bj bn ay ei bH dZ aK cr;have h1:l=f.length:=by have:=s.1; rwa [YY] at this
 have h2:m=ys.length:=by have:=t.1; rwa [YY] at this
 refine ao ?_ ?_<;>intro q
 ·have k:¬ f=ys:=by
   intro e;rw [e] at h1;rw [h1,h2] at q;simp at q
  exact ⟨by rw [Y6 k],rfl⟩
 have w:l=m:=by
  by_cases w:l=m
  ·exact w
  ·exfalso
   have:((l:Int) != (m:Int))=true:=by
    rw [bne_iff_ne];omega
   rw [this] at q;cases q
 refine aU (cs:=W2) (fun y G h'=>∃ n:Nat,y.1=false/\y.2.1=(n:Int)/\n<=l/\G=l-n/\h'=H/\∀ j,(C:j<n)->f[j]?=ys[j]?) (false,(0:Int),()) l rfl ⟨0,rfl,rfl,ad,ad,rfl,by intro j C; omega⟩ ?_;rintro ⟨b2,P,⟨⟩⟩ G h' ⟨n,z,A,L,rfl,rfl,B⟩;simp only at z A;subst z A;refine ak ?_;refine aP ?_ ?_<;>intro q
 ·have J:n<f.length:=ad
  have K:n<ys.length:=ad
  obtain ⟨a,M,hc⟩:=s.cells (i:=n) (by simpa using J);obtain ⟨a',D,o⟩:=t.cells (i:=n) (by simpa using K);rw [Y7] at hc o;have g:f[n]?=some f[n]:=YZ J;have r:ys[n]?=some ys[n]:=YZ K;generalize f[n]=x at hc g;generalize ys[n]=y at o r;refine bP M ?_;rw [cB n];refine av ((x.u:Int),(x.s:Int),(x.i:Int),x.n,()) hc (ak ?_);refine dO (aH D ?_);refine av ((y.u:Int),(y.s:Int),(y.i:Int),y.n,()) o (ak ?_);refine mU (fun Q N=>II _ _ x y _ _ N) ?_;refine ao ?_ ?_<;>intro q
  ·have q:=Y3 q;have k:¬ f=ys:=by
    intro e;rw [e,r] at g;exact q (Zl g).symm
   exact ⟨by rw [Y6 k],rfl⟩
  ·have E:x=y:=by
    by_cases H:x=y
    ·exact H
    ·exact absurd H (Zf q)
   have hw:=iC n;rw [hw];refine aG (cs:=W2) (false,((n+1:Nat):Int),()) (l-(n+1)) rfl ad rfl ⟨n+1,rfl,rfl,ad,rfl,rfl,fun j C=>?_⟩
   by_cases F:j=n
   ·subst F;rw [g,r,E]
   ·exact B j ad
 ·have hn:n=l:=ad
  subst hn;have O:f=ys:=by
   refine Z9 fun j=>?_
   by_cases C:j<n
   ·exact B j C
   ·rw [ZC ad,ZC ad]
  exact ⟨by rw [Y4 O],rfl⟩
def Gh.vw {s:cd} {ws:List (cd × cH)} (o:Gh H I s ws) (hl:ws.length<=2^60) (c:∀ x,x∈ws.map (·.2)->x.name.size<=maxLen/\Sm x.inst.op/\x.e.ah.length<=2^60/\∀ t,t∈x.e.ah->t.1.size<=maxLen):zV H s.p s.l (ws.map (·.2)) :=
 ⟨by have:=o.out.1; rw [YY] at this ⊢; exact this,by rw [YY]; exact hl,fun i hi=>by
  rw [YY] at hi;obtain ⟨a,d,hc⟩:=o.out.cells (i:=i) (by simpa using hi);rw [Y7] at hc;rw [Y7];have h1:=c ws[i].2 (Zm (Y5 hi));exact ⟨a,_,_,_,d,hc,⟨xX (o.fI _ (Y5 hi)),h1.2.2.1,h1.2.2.2⟩,h1.1,h1.2.1⟩⟩
section
variable {L:Lp} {K:Xab->Hp->Prop}
end
section
variable {h0 h h':Hp} {us:List bU} {su:cd} {P:LP} {B:Nat} {usl lb:cd} {S:Nat->kZ} {g b':Nat} {lb2 st sd:cd} {tw dw:List (cd × List (cd × cH))}
def Cs.ext (b:Cs h0 h us su P B usl lb S g b' lb2 st sd tw dw) (e:Ext h h'):Cs h0 h' us su P B usl lb S g b' lb2 st sd tw dw :=
 ⟨b.le,b.pg.ext e,b.U8,b.sz,b.pr.ai e,b.tx.ext e,b.dx.ext e,b.ti,b.di⟩
structure One (h0 h':Hp) (us:List bU) (P:LP) (B:Nat) (usl lb:cd) (S:Nat->kZ):Prop where
 le:h0.size<=B
 pg:rn h' B P.w usl lb ((nk us:Nat):Int) us.length (2*us.length) S
 U8:∀ n,(hn:n<us.length)->(S (2*n)).ws.map (·.2)=us[n].text.map (P.fN n)/\(S (2*n+1)).ws.map (·.2)=us[n].data.map (P.fN n)
 sz:∀ k,k<2*us.length->N6 (S k)
def Cs.one (b:Cs h0 h us su P B usl lb S g b' lb2 st sd tw dw):One h0 h us P B usl lb S:=⟨b.le,b.pg,b.U8,b.sz⟩
def Ad (u:bU) (j:Nat):List cH:=if j=0 then u.text else u.data
def One.sec (b:One h0 h us P B usl lb S) {n j:Nat} (hn:n<us.length) (a:j<2):(S (2*n+j)).ws.map (·.2)=(Ad us[n] j).map (P.fN n):=by
 unfold Ad
 by_cases h:j=0
 ·rw [Y8 h,h]; exact (b.U8 n hn).1
 ·rw [Y1 h,show j=1 from ad]; exact (b.U8 n hn).2
def One.item (b:One h0 h us P B usl lb S) {n j:Nat} (hn:n<us.length) (a:j<2):uZ S us.length (n:Int) (j:Int)=(Ad us[n] j).map (P.fN n):=by
 unfold uZ;rw [Y8 ⟨ad,ad,ad⟩];rw [show ((n:Int)).toNat=n from ad,show ((j:Int)).toNat=j from ad];exact b.sec hn a
variable {H:Xac}
def One.ok (b:One h0 h us P B usl lb S) {hv:Hp} {l:Nat} (v:wh hv H l us) {n j:Nat} (hn:n<us.length) (s:j<2):∀ x,x∈(Ad us[n] j).map (P.fN n)->x.name.size<=maxLen/\Sm x.inst.op/\x.e.ah.length<=2^60/\∀ t,t∈x.e.ah->t.1.size<=maxLen:=by
 intro x f;obtain ⟨y,c,rfl⟩:=Y9.1 f;have hz:=b.sz (2*n+j) ad;rw [<- b.sec hn s] at f;obtain ⟨w,o,u⟩:=Y9.1 f;have h1:=hz.WG w o;have h2:=hz.sz w o;rw [u] at h1 h2;obtain ⟨a,sa,sb,sc,z,D,hc,r⟩:=v.cells n hn;have hi:nu hv none 0 y\/(y.name.size<=maxLen/\Sm y.inst.op):=by
  right
  have d:∀ {q:Xac} {m:Nat} {k:List cH},zV hv q m k->y∈k->y.name.size<=maxLen/\Sm y.inst.op:=by
   intro q m k A C;obtain ⟨i,hi,rfl⟩:=Zt C;obtain ⟨_,_,_,_,_,_,it⟩:=A.cells i hi;exact ⟨it.name,it.op⟩
  unfold Ad at c
  by_cases h:j=0
  ·rw [Y8 h] at c; exact d r.text c
  ·rw [Y1 h] at c; exact d r.data c
 have hi:y.name.size<=maxLen/\Sm y.inst.op:=hi.elim (fun it=>⟨it.name,it.op⟩) id;exact ⟨hi.1,hi.2,ad,h2⟩
def One.many (b:One h0 h us P B usl lb S) {n j:Nat} (hn:n<us.length) (a:j<2):(Ad us[n] j).length<=2^30:=by
 have h1:=(b.sz (2*n+j) ad).len;have h2:=Zg List.length (b.sec hn a);rw [YY,YY] at h2;omega
def One.out (b:One h0 h us P B usl lb S) (f:us.length<=2^20) {hv:Hp} {l:Nat} (v:wh hv H l us) {n j:Nat} (hn:n<us.length) (d:j<2) :
  HC Xaz 17 #[ptr (B+3),vI (n:Int),vI (j:Int)] h fun w h'=>Ext h h'/\∃ t ws,w=cd.v t/\Gh h' h.size t ws/\ws.map (·.2)=(Ad us[n] j).map (P.fN n)/\zV h' t.p t.l ((Ad us[n] j).map (P.fN n)):=by
 have hit:=Nn b.pg (Zc _) ad (fun k hk=>⟨(b.sz k hk).len,(b.sz k hk).WG⟩) n j ad;rw [b.item hn d] at hit;refine HC.mono hit fun w h' i=>?_
 obtain ⟨e,t,ws,m,o,c⟩:=i;refine ⟨e,t,ws,m,o,c,?_⟩;have hmn:=b.many hn d;have a:ws.length<=2^60:=by
  have:=Zg List.length c
  rw [YY,YY] at this;omega
 have:=o.vw a (by rw [c]; exact b.ok v hn d)
 rwa [c] at this
def Cs.Yo (b:Cs h0 h us su P B usl lb S g b' lb2 st sd tw dw) {hv:Hp} {l:Nat} (v:wh hv H l us) {n j:Nat} (hn:n<us.length) (m:j<2) :
  ∃ (a:Xax) (t:cd),(if j=0 then st else sd).p=some a/\(if j=0 then st else sd).l=us.length/\aI h (a.add (n*1)) 0 [t.v]/\zV h t.p t.l ((Ad us[n] j).map (P.fN n)):=by
 have c:∀ {s:cd} {w:List (cd × List (cd × cH))} {F:bU->List cH},wm h b' s w->KA us P F w->F us[n]=Ad us[n] j->∃ (a:Xax) (t:cd),s.p=some a/\s.l=us.length/\aI h (a.add (n*1)) 0 [t.v]/\zV h t.p t.l ((Ad us[n] j).map (P.fN n)):=by
  intro s w F f d q;have k:n<w.length:=by rw [d.1]; exact hn
  obtain ⟨a,r,hc⟩:=SL.cells f.sl (i:=n) (by rw [YY]; exact k);rw [Y7] at hc;have hl:s.l=w.length:=by have:=f.sl.1; rwa [YY] at this
  have hin:=f.fI _ (Y5 k);have hd:=d.2 n us[n] w[n] (YZ hn) (YZ k);rw [q] at hd;refine ⟨a,w[n].1,r,by rw [hl,d.1],hc,?_⟩;have o:Gh h b' w[n].1 w[n].2:=⟨hin.sl,hin.own⟩
  have hm:=b.one.many hn m;have e:w[n].2.length<=2^60:=by
   have:=Zg List.length hd
   rw [YY,YY] at this;omega
  have:=o.vw e (by rw [hd]; exact b.one.ok v hn m)
  rwa [hd] at this
 by_cases h:j=0
 ·subst h;exact c b.tx b.ti rfl
 ·have:j=1:=ad
  subst this;exact c b.dx b.di rfl
end
end Go.Sx.Lk
namespace Go.Sx.Cr
open Go.Proofs Go.MapKept Go.WideAt Go.WideMaps Go.Maps Go.RowKit Go.WideElems Go.Sort Go.Shelf
def H6 {h:Hp} {q b:Nat} {D:List (Xaa × Xab)} {cs:Array Xab} {e:TypeId} {f:Nat × Nat} (u:h[q]?=some (.cells cs e f)) (hc:cs[0]?=some (.map (some b))) (m:fm h b D) (hl:D.length<=1024) :
  HC Xaz 108 #[.func (.func 124) #[] #[.pointer (some ⟨q,0,none⟩)]] h fun v h'=>∃ a:List (List UInt8),a.Perm (D.map fun p=>p.1.data.toList)/\(v=.slice none 0 0↔a=[])/\Ext h h' /\
   a.length=((a.mergeSort fun x y=>decide (x<=y)).map encStr).length /\
   ((v=.slice none 0 0/\a.length=0)\/∃ g cap jW,v=.slice (some ⟨g,0,none⟩) a.length cap/\h.size<=g/\h'[g]?=some (.cells jW 9 (0,0))/\a.length<=cap/\cap<=maxLen/\jW.size=cap*1/\jW.toList.take (a.length*1)=(a.mergeSort fun x y=>decide (x<=y)).map encStr):=by
 intro W w;subst w;obtain ⟨k,l,j,c⟩:=fm.owns m (by unfold maxLen; omega);have jj:W.cell? ⟨q,0,none⟩=some (.map (some b)):=by
  unfold World.cell?;rw [u];exact hc
 have n:SeqGives Fence.wide 2 Xaz 124 #[.pointer (some ⟨q,0,none⟩)] encStr (fun a=>a.Perm (strKeys k)) (Maps.size k) W :=
  AnyZ.keys_gives (ρ:=Tryz.sZ) { Tryz.D6 with } Fence.wide _ trivial rfl ad q b D.length k _ (fF u) jj l
 have o:Maps.size k<=maxLen:=by rw [c]; unfold maxLen; omega
 have d:Maps.size k*16<=140737488355328:=by rw [c]; omega
 have:=AnyZ.sorted_in Tryz.C2 Fence.wide 5 trivial trivial trivial trivial rfl ad (Tryz.Gj _) (enters_of Tryz.func123 aw rfl) 124 #[.pointer (some ⟨q,0,none⟩)] trivial (enters_of Tryz.func124 aw rfl) _ _ o d _ n
 refine (callsIn_wide.1 this).mono fun e w' z=>?_
 obtain ⟨v,a,A,B,r,s,t⟩:=z;obtain ⟨h1,h2⟩:=r;exact ⟨v,A,⟨t.os,t.tape,t.output⟩,a,B.trans j,s,⟨t.size,fun i hi _=>t.block i hi⟩,by rw [h1]; simp,h2⟩
theorem xQ (x:Xaa):∀ l,(EZ x l).Perm (x::l)
 | []=>List.Perm.refl _
 | y::l=>by
  unfold EZ;split
  ·exact List.Perm.refl _
  ·exact ((xQ x l).cons y).trans (List.Perm.swap x y l)
theorem Bw:∀ l,(sO l).Perm l
 | []=>List.Perm.refl _
 | x::l=>(xQ x (sO l)).trans ((Bw l).cons x)
theorem zr (x:Xaa):∀ l:List Xaa,(l.Pairwise fun a b=>a.data.toList<=b.data.toList)->((EZ x l).Pairwise fun a b=>a.data.toList<=b.data.toList)
 | [],_=>by simp [EZ]
 | y::l,h=>by
  rw [aq9] at h;unfold EZ;rw [Proofs.bytesLess_eq]
  by_cases c:x.data.toList<y.data.toList
  ·rw [Y4 c];have e:x.data.toList<=y.data.toList:=List.le_of_lt c;refine aq9.2 ⟨fun b d=>?_,aq9.2 h⟩;rcases Zo.1 d with rfl | d
   ·exact e
   ·exact List.le_trans e (h.1 b d)
  ·rw [Y6 c];refine aq9.2 ⟨fun b d=>?_,zr x l h.2⟩;rcases Zo.1 ((xQ x l).mem_iff.1 d) with rfl | d
   ·exact List.not_lt.1 c
   ·exact h.1 b d
theorem wu:∀ l,(sO l).Pairwise fun a b=>a.data.toList<=b.data.toList
 | []=>List.Pairwise.nil
 | x::l=>zr x _ (wu l)
def Jc {ss:List (List UInt8)} {ks:List Xaa} (d:ss.Perm (ks.map fun k=>k.data.toList)):(ss.mergeSort fun x y=>decide (x<=y)).map encStr=(sO ks).map Value.string:=by
 have h1:ss.mergeSort (fun x y=>decide (x<=y))=(sO ks).map fun k=>k.data.toList:=by
  have e:∀ a b c:List UInt8,decide (a<=b)=true->decide (b<=c)=true->decide (a<=c)=true:=fun a b c h1 h2=>by simp only [decide_eq_true_eq] at *; exact List.le_trans h1 h2
  have to:∀ a b:List UInt8,(decide (a<=b) || decide (b<=a))=true:=fun a b=>by simp only [Bool.or_eq_true,decide_eq_true_eq]; exact List.le_total a b
  refine List.Perm.eq_of_pairwise (le:=fun a b=>decide (a<=b)=true) (fun a b _ _ h1 h2=>?_) (List.pairwise_mergeSort e to ss) ?_ ((List.mergeSort_perm ss _).trans (d.trans ((Bw ks).map _).symm))
  ·simp only [decide_eq_true_eq] at h1 h2;exact List.le_antisymm h1 h2
  ·rw [Z3];exact (wu ks).imp fun h=>by simpa using h
 rw [h1,Zs];refine ZR fun k _=>?_
 show encStr k.data.toList=.string k;unfold encStr
 congr 1
noncomputable def Ye (a:List Xab):Cx:=⟨Xaz,110,110,0,108,124,144,3,fun | 0=>some a | _=>none⟩
def U1:Tryz.prog.cellsOf 9=1:=aw
def U7 (c:List Xab):Ok (Ye c) where
 kt k hk:=by
  have hk:(Nat.beq k 110 || Nat.beq k 110)=true:=hk;rw [Bool.or_eq_true] at hk;have e:k=110:=hk.elim Zd Zd;subst e;exact Ob.Xt
 ki k hk:=by cases (show false=true from hk)
 idx x n h K hk:=by
  show aZ Xaz (IZ 144 #[.string x,.int .u8 n]) h K;refine GU (e:=Extern.BytealgIndexByte.indexByte) Tryz.func144 T3 Tb Tt TQ ?_;rw [sA];exact hk
 TA h q b D cs e f z hc m hl:=by
  show HC Xaz 108 #[.func (.func 124) #[] #[.pointer (some ⟨q,0,none⟩)]] h _;refine HC.mono (H6 z hc m hl) fun v h' A=>?_
  obtain ⟨d,w,i,j,y,l⟩:=A;refine ⟨j,?_⟩;have a:d.length=D.length:=by rw [w.length_eq]; simp
  cases D with
  | nil =>
   have:d=[]:=Z6 (by rw [a]; rfl)
   exact i.2 this
  | cons p D =>
   rcases l with ⟨_,h0⟩ | ⟨g,cap,jW,hv,B,o,t,r,u,s⟩
   ·rw [a] at h0; simp at h0
   ·have hk:=Jc (ss:=d) (ks:=(p::D).map (·.1)) (by rw [Zs]; exact w);rw [hk] at s;refine ⟨g,jW.toList.drop d.length,cap,B,by rw [<- a]; exact hv,by unfold maxLen at r; omega,?_,by rw [<- a]; exact t,?_⟩
    ·have C:jW.toList.length=cap*1:=by rw [ab9]; exact u
     rw [show (Ye c).P.cellsOf 9=1 from U1,ZI,C,<- a]; omega
    ·unfold bF;rw [o,<- s,Nat.mul_one,ZG]
open Go.Proofs
def opsV:List Xab:=Ob.mf Ob.wB Ob.xv
noncomputable def cx:Cx:=Ye opsV
end Go.Sx.Cr
