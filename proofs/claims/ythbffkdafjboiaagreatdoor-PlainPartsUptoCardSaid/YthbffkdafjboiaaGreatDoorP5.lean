/- Contracts over heaps, part 5. Condition: as each statement says. -/
import Derived.Test.YthbffkdafjboiaaGreatDoorP4
import Derived.Test.YthbffkdafjboiaaGreatDoorBtH
import Derived.Test.YthbffkdafjboiaaGreatDoorRows
import Derived.ProofKit
import Derived.LaidMore
import Derived.LaidLaws
import Derived.OpenShut
import Derived.ChangeSame
import Derived.ChangeStays
import Derived.ChangeOld
import Derived.ChangeSlices
import Derived.ChangeMaps5
import Derived.JoinedCond
import Derived.Lib.LaidTab
import Derived.Stop.Joined
set_option linter.all false
set_option maxRecDepth 100000
set_option maxHeartbeats 4000000
namespace Go.Sx.Lk
open Go.Proofs Go.Sx.Ob
def D3 {es fs:List cI} (h:es.map fe=fs.map fe):dB es=dB fs:=by
 unfold dB;have hf:∀ (gs:List cI),(gs.findIdx? fun e=>@decide (j6 (dl gs) e.name) (Classical.propDecidable _))=(gs.map fe).findIdx? fun q=>@decide (j6 (dl gs) q.1) (Classical.propDecidable _):=by
  intro gs;rw [Y4] <;> rfl
 rw [hf,hf,h,Ao h]
def PJ {J0:List ZB->Hp->Prop} {K:ZB->Hp->Prop} {h0 h:Hp} {ga g:Nat} {su lb:cv} {LB:List Lb} {us:List cd} {a b:Int} {z:ZA} {S:List ZA} (hga:ga<g) (h0g:h0.size<=ga) (e0:Ext h0 h) (b1:bH h ga 75 [.int .i64 a,.int .i64 b,.string z])
  (pr:Di h g su lb lX lX LB) (v:xX h0 su.p su.l us) (sz:J7 us) (hL:LB.length<=2^40) (hE:∀ n u,us[n]?=some u->Ws us n u) (hW:∀ n u,us[n]?=some u->Tu us LB S n u) (hnd:((dR us LB us).map (·.1)).Nodup) (hlen:(ef 0 us).length<=2^20) (hS:S.length<=2^30)
  (hSd:∀ y,y∈dR us LB us->∀ t,t∈y.2.ai->t.1∈S)
  (hk1:∀ h' i q,dB (eY (dR us LB us))=some i->(ef 0 us)[i]?=some q->Ext h0 h'->K (.tuple #[.pointer none,N' ⟨24,q.1,q.2.1⟩]) h')
  (hk0:∀ h' b' st sd tw dw ms,dB (eY (dR us LB us))=none->ms.map fe=(dR us LB us).map (fun y=>(y.1,eO (eY (dR us LB us)) y.1))->Ext h0 h'->Di h' g su lb st sd LB->uo h' b' st tw->uo h' b' sd dw->xT us LB ms (·.text) us.length tw->xT us LB ms (·.data) us.length dw->K (.tuple #[.pointer (some ⟨g,0,none⟩),N' ⟨0,0,dF⟩]) h') :
  Q1 su.p su.l ⟨ga,0,none⟩ ⟨g,0,none⟩ [J0] K h:=by
 unfold Q1 bG aQ bK bR bt fo aH bi bT aR dh;have hll:=v.len;have hmany:=sz.many;have hgs:=pr.box.lt;have hz0:=e0.size;refine aU (cs:=[(false,[.slice 0]),(false,[.slice 0]),(false,[.int .i64])]) (fun y k h'=>∃ (i:Nat) (ms:List cI) (ks:List Nat),y.2.2.1=(i:Int)/\k=us.length-i/\i<=us.length/\Ext h h'/\Ut h' h.size y.1.1 y.1.2.1 y.1.2.2 y.2.1.1 y.2.1.2.1 y.2.1.2.2 ms ks/\ms.map fe=dR us LB (us.take i)/\ks=pP (us.take i))
  ((none,0,0),(none,0,0),(0:Int),()) us.length rfl ⟨0,[],[],rfl,rfl,ad,Ch.refl _ _,⟨SL.nil _ _ _ _,SL.nil _ _ _ _,aj⟩,rfl,rfl⟩ ?_
 rintro ⟨⟨p9,l10,l11⟩,⟨p12,l13,l14⟩,n15,⟨⟩⟩ k h1 ⟨i,ms,ks,hi,rfl,hle,e1,o1,hms,rfl⟩;simp only at hi o1;subst hi;refine ao ?_;refine ak (fun q=>?_) (fun q=>?_)
 ·have q:=W2 q;have hil:i<us.length:=ad
  have hug:us[i]?=some us[i]:=W5 hil;have htk:us.take (i+1)=us.take i++[us[i]]:=W7 hil;have hti:(us.take i).length=i:=by rw [Xr]; omega
  have hwt:IntKind.wrap .i64 ((i:Int)+1)=((i+1:Nat):Int):=by rw [wrap_i64 ad ad]; omega
  obtain ⟨au,sa,sb,sc,sd,hau,hcu,va⟩:=v.cells i hil;have hum:=Xe hil;generalize us[i]=u at hug htk hcu va hum;have ew:=hE i u hug;have hlq:=va.bg.len;have hue:=sz.bg u hum;refine aU (cs:=[(false,[.slice 0]),(false,[.slice 0]),(false,[.int .i64])]) (fun y k h'=>∃ (j:Nat) (ms:List cI) (ks:List Nat),y.2.2.1=(j:Int)/\k=u.bg.length-j/\j<=u.bg.length/\Ext h h'/\Ut h' h.size y.1.1 y.1.2.1 y.1.2.2 y.2.1.1 y.2.1.2.1 y.2.1.2.2 ms ks /\
   ms.map fe=dR us LB (us.take i)++(u.bg.take j).map (fun e=>(dy us LB i e.1,ik us LB i e.2))/\ks=pP (us.take i)++List.range j) ((p9,l10,l11),(p12,l13,l14),(0:Int),()) u.bg.length rfl ⟨0,ms,_,rfl,rfl,ad,e1,o1,by simpa using hms,aj⟩ ?_
  rintro ⟨⟨p16,l17,l18⟩,⟨p19,l20,l21⟩,n22,⟨⟩⟩ k h2 ⟨j,ms2,ks2,hj,rfl,hlj,e2,o2,hms2,rfl⟩;simp only at hj o2;subst hj;refine ao ?_;have e02:=e0.trans e2;have z2:=e2.size;have hwj:IntKind.wrap .i64 ((j:Int)+1)=((j+1:Nat):Int):=by rw [wrap_i64 ad ad]; omega
  have hcq:aJ h2 ((au.add (i*4)).add 2) 0 [.slice sc.p sc.l sc.c]:=⟨by rw [add_add]; exact (aX e02 aj _ _ hcu).2.2.1,trivial⟩
  have hkl:=rk (us.take i) 0;have hsum1:(ef 0 (us.take i)).length<=(ef 0 us).length:=by
   have:=qF
   rw [rk,rk];unfold pP
   conv=>rhs; rw [<- XN i us]
   rw [Yz,W8];omega
  refine ay ⟨ad,ad⟩ (ax hau ?_);rw [show Int.toNat (i:Int)=i from ad];refine aC ((sc.p,sc.l,sc.c),()) hcq (ao ?_);refine ak (fun r=>?_) (fun r=>?_)
  ·have r:=W2 r;have hjl:j<u.bg.length:=ad
   have htj:u.bg.take (j+1)=u.bg.take j++[u.bg[j]]:=W7 hjl;refine ay ⟨ad,ad⟩ (ax hau ?_);refine aC ((sc.p,sc.l,sc.c),()) hcq (ao ?_);obtain ⟨aq,pq,mq,cq,haq,hce,hlin,_⟩:=(va.bg.an e02).cells j hjl;have hem:=Xe hjl;generalize u.bg[j]=e at htj hce hlin hem;obtain ⟨hsw,⟨o,hoo⟩,hsn⟩:=ew e hem;refine ay ⟨ad,ad⟩ (ax haq ?_);rw [show Int.toNat (j:Int)=j from ad];refine aC (e.1,(pq,mq,cq),(e.2.num:Int),()) hce (ao ?_);refine bk ?_;intro h3 b3 e3 z3;refine aw b3 rfl aj ?_;intro h4 b4 k4 z4;have b4:bH h4 h2.size 100 [.string e.1,.slice pq mq cq,.int .u32 (e.2.num:Int)]:=b4;have e24:Ext h2 h4:=Ch.trans e3 k4 (fun q hq hl=>by simp at hq; omega);refine af b4 (e.1,()) rfl (ao ?_);rw [aG];refine af b4 ((pq,mq,cq),(e.2.num:Int),()) rfl (ao ?_);have e04:=e02.trans e24;have prk:∀ {h':Hp},Ext h h'->Di h' g su lb lX lX LB:=fun e=>pr.an e
   refine aK (HQ (prk (e2.trans e24)) (v.an e04) sz hil hL hoo hsn) ?_;rintro _ h5 ⟨rfl,e5⟩;refine ⟨(dy us LB i e.1,()),rfl,ao ?_⟩;have b45:=b4.an e5 aj;refine ⟨⟨b45.cells _ rfl,trivial⟩,?_⟩;have e25:=e24.trans e5;refine aK (DY (d:=cq) (prk (e2.trans e25)) (v.an (e02.trans e25)) sz hil hL (hlin.vw.an e25 aj) hsw.nf hsw.num hsw.len hsw.own hsw.sz) ?_;rintro _ h6 ⟨e6,p6,l6,c6,rfl,s6⟩;refine ⟨((p6,l6,c6),((ik us LB i e.2).num:Int),()),rfl,ao ?_⟩;have b46:=b45.an e6 aj;refine ⟨⟨b46.cells _ rfl,trivial⟩,?_⟩;have e26:=e25.trans e6;have o6:=o2.ext e26;have z26:=e26.size;have z25:=e25.size;have hl17:l17=ms2.length:=by have:=o2.out.1; rwa [W3] at this
   have hl20:l20=(pP (us.take i)++List.range j).length:=by have:=o2.num.1; rwa [W3] at this
   rw [W8,Yy] at hl20;have hm2:ms2.length=(ef 0 (us.take i)).length+j:=by
    have:=Xj List.length hms2
    rw [W3,W8,W3,Xr,Yc hlj] at this;unfold dR at this
    rwa [W3] at this
   refine gI (vs:=yZ ⟨dy us LB i e.1,p6,l6,c6,ik us LB i e.2⟩) Bo JO rfl ad ad (Gh _ _ _ _ _) rfl rfl o6.out ad ad ad (fun h' x=>⟨(b46.an x aj).cells _ rfl,(b46.an x aj).cells _ rfl,trivial⟩) ?_;intro p7 c7 h7 s7 k7 hp7;have hbx7:=SL.Au o6.out;have hnb:h2.size∉aP p16:=fun hh=>by have:=(o2.out.cj hh).2; omega
   have b47:=b46.an k7 hnb;refine ⟨⟨b47.cells _ rfl,b47.cells _ rfl,trivial⟩,?_⟩;have n7:SL h7 h.size 3 1 p19 l20 l21 ((pP (us.take i)++List.range j).map Ke):=SL.rm o6.num k7 hbx7 cn;have i7:∀ x,x∈ms2++[⟨dy us LB i e.1,p6,l6,c6,ik us LB i e.2⟩]->SL h7 h.size 117 2 x.p x.l x.c (x.x.ai.map dc):=fun x hx=>by
    rcases Xl.1 hx with hx | hx
    ·exact SL.rm (o6.fm x hx) k7 hbx7 cn
    ·rw [Xm.1 hx];exact SL.rm (s6.mono ad) k7 hbx7 cn
   have z7:=k7.size;refine mi (vs:=Ke j) Cz P' rfl ad ad (Dd _) rfl rfl n7 ad ad ad ?_;intro p8 c8 h8 s8 k8 hp8;have hbx8:=SL.Au n7;have e7:Ext h h7:=Ch.trans (e2.trans e26) k7 (fun q hq hl=>by have:=(o2.out.cj hq).1; omega);have e8:Ext h h8:=Ch.trans e7 k8 (fun q hq hl=>by have:=(n7.cj hq).1; omega);refine aI (cs:=[(false,[.slice 0]),(false,[.slice 0]),(false,[.int .i64])]) ((p7,l17+1,c7),(p8,l20+1,c8),((j+1:Nat):Int),()) (u.bg.length-(j+1)) rfl ad (Xj (fun z=>[Value.slice p7 (l17+1) c7,.slice p8 (l20+1) c8,Value.int .i64 z]) hwj)
    ⟨j+1,ms2++[⟨dy us LB i e.1,p6,l6,c6,ik us LB i e.2⟩],_,rfl,rfl,ad,e8,⟨?_,?_,fun x hx=>SL.rm (i7 x hx) k8 hbx8 cn⟩,?_,rfl⟩
   ·have:SL h7 h.size 100 3 p7 (l17+1) c7 ((ms2++[(⟨dy us LB i e.1,p6,l6,c6,ik us LB i e.2⟩:cI)]).map yZ):=by rw [Xf]; exact s7
    exact SL.rm this k8 hbx8 cn
   ·rw [List.range_succ,<- Xs,Xf];exact s8
   ·rw [htj,Xf,Xf,hms2,Xs] <;> rfl
  ·have r:=W4 r
   have:j=u.bg.length:=ad
   subst this;rw [XB] at hms2;refine aI (cs:=[(false,[.slice 0]),(false,[.slice 0]),(false,[.int .i64])]) ((p16,l17,l18),(p19,l20,l21),((i+1:Nat):Int),()) (us.length-(i+1)) rfl ad (Xj (fun z=>[Value.slice p16 l17 l18,.slice p19 l20 l21,Value.int .i64 z]) hwt)
    ⟨i+1,ms2,_,rfl,rfl,ad,e2,o2,?_,?_⟩
   ·rw [hms2,htk,O8,hti]
   ·rw [htk,IP]
 ·have q:=W4 q
  have:i=us.length:=ad
  subst this;rw [XB] at hms o1;have z1:=e1.size;have e01:=e0.trans e1;have pr1:=pr.an e1;have b11:=b1.an e1 aj;have hkm:ms.map fe=(eY (dR us LB us)).map fe:=by rw [hms,oT]
  have hml:ms.length=(ef 0 us).length:=by
   have:=Xj List.length hms
   rw [W3] at this;rw [this];unfold dR;rw [W3]
  have hnm:(aZ ms).Nodup:=by
   have:aZ ms=(dR us LB us).map (·.1):=by
    rw [<- hms,Xv] <;> rfl
   rw [this];exact hnd
  have hmem:∀ e,e∈ms->fe e∈dR us LB us:=fun e he=>by
   rw [<- hms];exact Xd.2 ⟨e,he,rfl⟩
  have hsum:∀ e,e∈ms->sf S e.x:=fun e he=>by
   have h1:=hmem e he;have h2:=hSd _ h1;unfold dR at h1;obtain ⟨q,hq,hqe⟩:=Xd.1 h1;have hx:e.x=ik us LB q.1 q.2.2:=(Xj (·.2) hqe).symm;obtain ⟨n,hn,hn1,hn2⟩:=uJ us 0 q hq;have hqn:q.1=n:=ad
   have hew:=hE n us[n] (W5 hn) q.2 hn2;exact ⟨by rw [hx]; exact IA _ _ _ _,by rw [hx]; exact DQ hew.1.num,h2⟩
  have ve:tk h1 p9 l10 ms:=⟨by have:=o1.out.1; rwa [W3] at this,fun i hi=>by
   obtain ⟨a,ha,hc⟩:=SL.cells o1.out (i:=i) (by rw [W3]; exact hi);rw [Xc] at hc;exact ⟨a,ha,hc⟩,fun e he=>(o1.fm e he).QD⟩
  refine aK (Jv (c:=l11) (B:=h.size) z1 ve (fun e he i hi=>(o1.fm e he).cj hi) hnm ad hS hsum) ?_;rintro w h2 ⟨e2,hw⟩;rw [D3 hkm] at hw;cases hf:dB (eY (dR us LB us)) with
  | some i0 =>
   rw [hf] at hw;subst hw;refine ⟨((none,0,0),(i0:Int),(24:Int),()),rfl,ao ?_⟩;refine bn rfl ?_;have hi0:i0<(ef 0 us).length:=by
    have h1:=hf;unfold dB at h1;rw [Xt] at h1;obtain ⟨h2,_⟩:=h1
    have:(eY (dR us LB us)).length=(ef 0 us).length:=by unfold eY dR; rw [W3,W3]
    omega
   exact OQ (lv:=2) (i0:=i0) rfl h0g (e01.trans e2) (b11.an e2 aj) (v.an (e01.trans e2)) hmany (o1.num.bM e2 aj) ad (W5 hi0) fun h' e'=>hk1 h' i0 _ hf (W5 hi0) e'
  | none =>
   rw [hf] at hw;obtain ⟨p',l',c',ns,rfl,on⟩:=hw;refine ⟨((p',l',c'),(0:Int),(0:Int),()),rfl,ao ?_⟩;refine bJ rfl ?_;have hin:∀ m,m∈ns->∃ e,e∈ms/\m.name=e.name/\m.x=Q8 (cr ms) ms.length e.x:=fun m hm=>by
    obtain ⟨j,hj,rfl⟩:=Xw hm;have hj':j<ms.length:=by rw [<- on.len]; exact hj
    obtain ⟨h1,h2⟩:=on.eq j ms[j] ns[j] (W5 hj') (W5 hj);exact ⟨ms[j],Xe hj',h1,h2⟩
   have vn:tk h2 p' l' ns:=⟨by have:=on.out.1; rwa [W3] at this,fun i hi=>by
    obtain ⟨a,ha,hc⟩:=SL.cells on.out (i:=i) (by rw [W3]; exact hi);rw [Xc] at hc;exact ⟨a,ha,hc⟩,on.fm⟩
   have hkn:ns.map fe=(dR us LB us).map (fun y=>(y.1,eO (eY (dR us LB us)) y.1)):=by
    rw [<- hms,Xv,hms];apply Zc
    ·rw [W3,W3,on.len]
    ·intro j h1' h2';rw [W3] at h1' h2';rw [Xc,Xc];obtain ⟨h1,h2⟩:=on.eq j ms[j] ns[j] (W5 h2') (W5 h1');have h3:=Pw hnm (fun e he=>(hsum e he).num) (Xe h2');unfold fe;rw [h1,h2,h3];show _=(ms[j].name,eO (eY (dR us LB us)) ms[j].name);rw [H' hkm]
   have z2:=e2.size;refine PY (lv:=2) (S:=S) rfl hga h0g (e01.trans e2) (b11.an e2 aj) (pr1.an e2) (v.an (Ch.refl _ _)) sz hL vn (fun i hi=>by have:=(on.out.cj hi).1; omega) (fun e he i hi=>by have:=(on.low e he i hi).1; omega) (by rw [on.len]; omega) hS (fun e he=>by
    obtain ⟨d,hd,_,hx⟩:=hin e he;rw [hx];exact sf.it hsum (hsum d hd) _) hW ?_
   intro h' st sd tw dw e' pr' t' d' i1 i2;exact hk0 h' _ st sd tw dw ns hf hkn e' pr' t' d' i1 i2
theorem zi (u:cd):∀ (l:List cd) (n:Nat),bY n (l++[u])=bY n l++E4 (n+l.length) u
 | [],n=>by simp [bY]
 | y::l,n=>by
  simp only [List.cons_append,bY,List.length_cons];rw [zi u l (n+1),show n+1+l.length=n+(l.length+1) from ad,Xs]
def zT (us:List cd) (i:Nat):(bY 0 (us.take i)).length<=(bY 0 us).length:=by
 have key:∀ (a b:List cd) (n:Nat),(bY n a).length<=(bY n (a++b)).length:=by
  intro a
  induction a with
  | nil=>intro b n; simp [bY]
  | cons u a ih =>
   intro b n;simp only [List.cons_append,bY,List.length_append]
   have:=ih b (n+1)
   omega
 have:=key (us.take i) (us.drop i) 0
 rwa [XN] at this
structure Ma (us:List cd) (S:List ZA):Prop where
 sz:J7 us
 eb:(bY 0 us).length<=2^39
 bg:∀ n u,us[n]?=some u->Ws us n u
 items:∀ n u,us[n]?=some u->Tu us (bY 0 us) S n u
 nd:((dR us (bY 0 us) us).map (·.1)).Nodup
 len:(ef 0 us).length<=2^20
 names:S.length<=2^30
 fm:∀ y,y∈dR us (bY 0 us) us->∀ t,t∈y.2.ai->t.1∈S
def BP (us:List cd) (su:cv) (w:ZB) (h':Hp):Prop :=
 if (fw us).pW≠0 then w=.tuple #[.pointer none,N' (fw us)]
 else (∃ i q,dB (eY (dR us (bY 0 us) us))=some i/\(ef 0 us)[i]?=some q/\w=.tuple #[.pointer none,N' ⟨24,q.1,q.2.1⟩]) \/
  ∃ g b' lb st sd tw dw ms,dB (eY (dR us (bY 0 us) us))=none/\w=.tuple #[.pointer (some ⟨g,0,none⟩),N' ⟨0,0,dF⟩]/\ms.map fe=(dR us (bY 0 us) us).map (fun y=>(y.1,eO (eY (dR us (bY 0 us) us)) y.1)) /\
   Di h' g su lb st sd (bY 0 us)/\uo h' b' st tw/\uo h' b' sd dw/\xT us (bY 0 us) ms (·.text) us.length tw/\xT us (bY 0 us) ms (·.data) us.length dw
def AV {h:Hp} {su:cv} {us:List cd} {S:List ZA} (v:xX h su.p su.l us) (hC:(fw us).pW=0->Ma us S):HC Tryz.prog 26 #[.slice su.p su.l su.c] h fun w h'=>Ext h h'/\BP us su w h':=by
 refine bd (args:=[.slice su.p su.l su.c]) mixed Tryz.func26 az (nj su.p su.l su.c) ?_;unfold jU bf bh bG aQ gF bK bm bt aH br bi bT aR dh;have hll:=v.len;refine bk ?_;intro h1 b1 e1 z1;refine aK (G2 (c:=su.c) (v.an e1)) ?_;rintro _ h2 ⟨rfl,e2⟩;refine ⟨(((fw us).pW:Int),((fw us).unit:Int),(fw us).name,()),rfl,ao ?_⟩;have b12:=b1.an e2 aj;have e02:=e1.trans e2;refine bk ?_;intro h3 b3 e3 z3;refine aw b3 rfl aj ?_;intro h4 b4 k4 z4;have b4:bH h4 h2.size 75 [.int .i64 ((fw us).pW:Int),.int .i64 ((fw us).unit:Int),.string (fw us).name]:=b4;have e24:Ext h2 h4:=Ch.trans e3 k4 (fun j hj hl=>by simp at hj; omega);have e04:=e02.trans e24;have b14:=b12.an e24 aj;have z2:=e2.size;refine af b4 (((fw us).pW:Int),()) rfl (ao ?_);refine ak (fun g=>?_) (fun g=>?_)
 ·have g:(fw us).pW≠0:=by
   intro hh;rw [hh] at g;cases g
  refine af b4 (((fw us).pW:Int),((fw us).unit:Int),(fw us).name,()) rfl (ao ?_);refine ⟨⟨b4.cells _ rfl,trivial⟩,?_⟩;refine aw b14 rfl aj ?_;intro h5 b5 k5 z5;have b5:bH h5 h.size 75 [.int .i64 ((fw us).pW:Int),.int .i64 ((fw us).unit:Int),.string (fw us).name]:=b5;refine af b5 (((fw us).pW:Int),((fw us).unit:Int),(fw us).name,()) rfl ?_;refine ⟨Ch.trans e04 k5 (fun j hj hl=>by simp at hj; omega),?_⟩;unfold BP;rw [Xb g] <;> rfl
 ·have g:(fw us).pW=0:=by
   have:(((fw us).pW:Nat):Int)=0:=by simpa using g
   omega
  have C:=hC g;refine bk ?_;intro h5 b5 e5 z5;have b5:bH h5 h4.size 81 [su.v,lX.v,lX.v,lX.v]:=b5;have v4:=v.an e04;have hmany:=C.sz.many;refine aU (cs:=[(false,[.int .i64])]) (fun y k h'=>∃ (i:Nat) (lb:cv),y.1=(i:Int)/\k=us.length-i/\i<=us.length/\Ext h4 h'/\Di h' h4.size su lb lX lX (bY 0 (us.take i))) ((0:Int),()) us.length rfl
   ⟨0,lX,rfl,rfl,ad,e5,⟨b5,SL.nil _ _ _ _⟩⟩ ?_
  rintro ⟨n8,⟨⟩⟩ k h6 ⟨i,lb,hi,rfl,hle,e6,pr⟩;simp only at hi;subst hi;refine ao ?_;have hw:IntKind.wrap .i64 ((i:Int)+1)=((i+1:Nat):Int):=by rw [wrap_i64 ad ad]; omega
  refine ak (fun q=>?_) (fun q=>?_)
  ·have q:=W2 q;have hil:i<us.length:=ad
   have htk:us.take (i+1)=us.take i++[us[i]]:=W7 hil;have hti:(us.take i).length=i:=by rw [Xr]; omega
   obtain ⟨au,sa,sb,sc,sd,hau,hcu,va⟩:=v4.cells i hil;have hum:=Xe hil;generalize us[i]=u at htk hcu va hum;have h1t:=C.sz.text u hum;have h1d:=C.sz.data u hum;have hlt:=zT us i;have hlb:=C.eb;have hl1:=qE i 0 u.text 0;have cu:∀ {h':Hp},Ext h4 h'->aJ h' (au.add (i*4)) 0 [.slice sa.p sa.l sa.c]/\aJ h' ((au.add (i*4)).add 1) 0 [.slice sb.p sb.l sb.c]:=fun e=>⟨⟨(aX e aj _ _ hcu).1,trivial⟩,⟨by rw [add_add]; exact (aX e aj _ _ hcu).2.1,trivial⟩⟩
   refine ay ⟨ad,ad⟩ (ax hau ?_);rw [show Int.toNat (i:Int)=i from ad];refine aC ((sa.p,sa.l,sa.c),()) (cu e6).1 (ao ?_);refine aK (Ds (c:=sa.c) (Xk _) e6 pr va.text ad i 0) ?_;rintro _ h7 ⟨rfl,e7,z7,lb7,pr7⟩;refine ⟨(),rfl,ao ?_⟩;refine ay ⟨ad,ad⟩ (ax hau ?_);refine aC ((sb.p,sb.l,sb.c),()) (cu e7).2 (ao ?_);refine aK (Ds (c:=sb.c) (Xk _) e7 pr7 va.data (by rw [W8]; omega) i 1) ?_;rintro _ h8 ⟨rfl,e8,z8,lb8,pr8⟩;refine ⟨(),rfl,ao ?_⟩;refine aI (cs:=[(false,[.int .i64])]) (((i+1:Nat):Int),()) (us.length-(i+1)) rfl ad (Xj (fun z=>[Value.int .i64 z]) hw) ⟨i+1,lb8,rfl,rfl,ad,e8,?_⟩;rw [htk,zi,hti,XK];unfold E4;rw [<- Xs];exact pr8
  ·have q:=W4 q
   have:i=us.length:=ad
   subst this;rw [XB] at pr;have e06:=e04.trans e6;refine PJ (h0:=h) (S:=S) (by have:=e04.size; omega) (Xk _) e06 (b14.an e6 aj) pr v C.sz (by have:=C.eb; omega) C.bg C.items C.nd C.len C.names C.fm (fun h' i q hf hq e'=>⟨e',?_⟩) (fun h' b' st sd tw dw ms hf hms e' pr' t' d' i1 i2=>⟨e',?_⟩)
   ·unfold BP;rw [W6 ad];exact .inl ⟨i,q,hf,hq,rfl⟩
   ·unfold BP;rw [W6 ad];exact .inr ⟨_,b',lb,st,sd,tw,dw,ms,hf,rfl,hms,pr',t',d',i1,i2⟩
def IU {us:List cd} {w:LW} (A:qD us w) {n:Nat} (hn:n<us.length) (x:cm):w.bad n x=lG us n x:=by
 unfold LW.bad lG
 have:(fun t:ZA × Nat=>(w.own n t.1).isNone)=fun t=>(jl us n t.1).isNone:=by
  funext t
  rw [A.own hn]
  all_goals (cases jl us n t.1 <;> rfl)
 rw [this]
def wz (w:LW) (n:Nat) (u:cd):qG w n u=(cH u).findSome? (w.bad n):=by
 unfold qG LW.yc cH;rw [Y3,Y3,List.findSome?_map,List.findSome?_map,List.findSome?_map,Option.or_assoc] <;> rfl
theorem Dr {us:List cd} {n:Nat}:∀ (l:List cm),(∀ x,x∈l->∀ t,t∈x.ai->¬ t.1.data.toList=[])->((pX us n l).data.toList=[]↔l.findSome? (lG us n)=none)/\∀ s,l.findSome? (lG us n)=some s->pX us n l=s
 | [],_=>by
  refine ⟨⟨fun _=>rfl,fun _=>rfl⟩,fun s hs=>by cases hs⟩
 | x::l,h=>by
  obtain ⟨i1,i2⟩:=Dr l fun y hy=>h y (Xh _ hy)
  have hx:=h x aj;have hu:pX us n (x::l)=if (dN us n x).data.toList=[] then pX us n l else dN us n x:=by
   unfold pX;rw [XH,Y1]
   by_cases e:(dN us n x).data.toList=[]
   ·rw [Xb e];simp [e]
   ·rw [W6 e];simp [e]
  rw [List.findSome?_cons];cases hf:lG us n x with
  | none =>
   have:dN us n x=⟨#[]⟩:=by unfold dN; rw [hf]; rfl
   rw [hu,Xb (by rw [this])];exact ⟨i1,i2⟩
  | some s =>
   have h1:dN us n x=s:=by unfold dN; rw [hf]; rfl
   have h2:¬ s.data.toList=[]:=by
    unfold lG at hf;obtain ⟨t,ht,rfl⟩:=YI.1 hf;exact hx t (List.mem_of_find?_eq_some ht)
   rw [hu,W6 (by rw [h1]; exact h2),h1];refine ⟨⟨fun k=>absurd k h2,fun k=>by cases k⟩,fun r hr=>by cases hr; rfl⟩
def SZ {us:List cd} {w:LW} (A:qD us w) (hne:∀ u,u∈us->∀ x,x∈cH u->∀ t,t∈x.ai->¬ t.1.data.toList=[]) {n:Nat} (hn:n<us.length):Ak us n=(qG w n us[n]).map fun s=>(n,s):=by
 have hf:w.bad n=lG us n:=funext fun x=>IU A hn x
 obtain ⟨h1,h2⟩:=Dr (us:=us) (n:=n) (cH us[n]) (hne _ (Xe hn));unfold Ak;rw [W5 hn,Yl,wz,hf];cases hs:(cH us[n]).findSome? (lG us n) with
 | none=>rw [Xb (h1.2 hs)]; rfl
 | some s =>
  rw [hs] at h1;have h2:=h2 s hs;rw [W6 (fun k=>by cases h1.1 k),h2] <;> rfl
theorem Hs {us:List cd} {w:LW} (A:qD us w) (hne:∀ u,u∈us->∀ x,x∈cH u->∀ t,t∈x.ai->¬ t.1.data.toList=[]):∀ (k n:Nat),us.length-n=k->n<=us.length->(∀ j,j<n->Ak us j=none)->Mm us=fJ w n (us.drop n)
 | 0,n,hk,hn,hd=>by
  have:n=us.length:=ad
  subst this;rw [Yi];exact jC _ _ hd
 | k+1,n,hk,hn,hd=>by
  have hlt:n<us.length:=ad
  rw [zJ w us n hlt];have hu:=SZ A hne hlt;cases hb:qG w n us[n] with
  | some s =>
   rw [hb] at hu;exact jL _ _ _ n hlt hd hu
  | none =>
   rw [hb] at hu;refine Hs A hne k (n+1) ad hlt fun j hj=>?_
   by_cases e:j=n
   ·subst e; exact hu
   ·exact hd j ad
def OI {x:cm} (g:Good x):∀ t,t∈x.ai->¬ t.1.data.toList=[]:=by
 intro t ht e;have h:=g.LI t ht;rw [e] at h;cases h
def Pa {x:cm} (g:Good x):∀ t,t∈x.ai->t.1.size<=32:=by
 intro t ht;have h:=g.LI t ht;unfold cT at h;simp only [Bool.and_eq_true] at h
 have:=W2 h.1.1.1.2
 simpa using this
def NT (us:List cd):Except Fl LP->Prop
 | .error f=>f.pW≠0/\(fw us=f\/((fw us).pW=0/\(us.length<=64/\∃ w,qD us w/\fJ w 0 us=none)/\∃ i q,dB (eY (dR us (bY 0 us) us))=some i/\(ef 0 us)[i]?=some q/\f=⟨24,q.1,q.2.1⟩))
 | .ok P=>(fw us).pW=0/\us.length<=64/\P.us=us/\P.D=uS P.w us/\qD us P.w/\fJ P.w 0 us=none/\mF (uS P.w us)=none/\dB (eY (dR us (bY 0 us) us))=none
def QA {D:List (ZA × cm)} {i:Nat} (h:mF D=some i):i<D.length:=by
 unfold mF at h;rw [Xt] at h;exact h.1
def zC {us:List cd} (sm:∀ u,u∈us->∀ x,x∈cH u->x.num<4294967296/\∀ t,t∈x.ai->t.2<4294967296):NT us (lE us):=by
 unfold lE
 by_cases h0:us.length=0
 ·rw [Xb h0];refine ⟨aj,.inl ?_⟩;unfold fw;rw [Xb h0]
 rw [W6 h0]
 by_cases h64:64<us.length
 ·rw [Xb h64];refine ⟨aj,.inl ?_⟩;unfold fw;rw [W6 h0,Xb h64]
 rw [W6 h64];have href:fw us=match us.findIdx? fun u=>decide (eS u≠0) with
  | some n=>⟨31,n,dF⟩
  | none=>match Dm us with
   | some q=>⟨22,q.1,q.2⟩
   | none=>match Mm us with
    | some q=>⟨23,q.1,q.2⟩
    | none=>⟨0,0,dF⟩:=by
  unfold fw;rw [W6 h0,W6 h64] <;> rfl
 cases hf:us.findIdx? fun u=>decide (eS u≠0) with
 | some n =>
  rw [hf] at href;exact ⟨aj,.inl href⟩
 | none =>
  rw [hf] at href;have hr:∀ u,u∈us->eS u=0:=by
   intro u hu;rw [XL] at hf
   have:=W4 (hf u hu)
   omega
  have i0:=Q3 hr;have hg0:∀ s,(mJ 0 us QY).gl s=none:=by
   have e1:∀ (n sec:Nat) (l:List cF) (i:Nat) (w:LW),(iB n sec i l w).gl=w.gl:=by
    intro n sec l
    induction l with
    | nil=>intro i w; rfl
    | cons x l ih =>
     intro i w;rw [iB,ih];unfold jo;split <;> rfl
   have e2:∀ (n:Nat) (l:List qY) (w:LW),(l.foldl (tX n) w).gl=w.gl:=by
    intro n l
    induction l with
    | nil=>intro w; rfl
    | cons x l ih=>intro w; rw [XE,ih]; rfl
   have e3:∀ (l:List cd) (n:Nat) (w:LW),(mJ n l w).gl=w.gl:=by
    intro l
    induction l with
    | nil=>intro n w; rfl
    | cons u l ih =>
     intro n w;rw [mJ,ih];unfold EM;rw [e2,e1,e1]
   intro s;rw [e3] <;> rfl
  have hm:=DN us us.length 0 (mJ 0 us QY) ad (Y5 _) (fun s=>by rw [hg0]; rfl) (fun j hj=>absurd hj ad);rw [List.drop_zero] at hm;simp only;cases hw:kq 0 us (mJ 0 us QY) with
  | error q =>
   rw [hw] at hm;have hm:Dm us=some q:=hm;rw [hm] at href;exact ⟨aj,.inl href⟩
  | ok w =>
   rw [hw] at hm;obtain ⟨hd,hg⟩:Dm us=none/\∀ s,w.gl s=OE us s:=hm
   rw [hd] at href;have A:qD us w:=⟨hr,i0.meet hw,hg⟩
   have hne:∀ u,u∈us->∀ x,x∈cH u->∀ t,t∈x.ai->¬ t.1.data.toList=[]:=fun u hu x hx=>OI (zV (hr u hu) (sm u hu) x hx)
   have hu:=Hs A hne us.length 0 ad (Y5 _) (fun j hj=>absurd hj ad);rw [List.drop_zero] at hu;rw [hu] at href;cases hb:fJ w 0 us with
   | some q =>
    rw [hb] at href;simp only [hb];exact ⟨aj,.inl href⟩
   | none =>
    rw [hb] at href;have hz:(fw us).pW=0:=by rw [href]
    have hcy:=A.Ua hb;cases hc:mF (uS w us) with
    | some i =>
     have hi:=QA hc;have hi:i<(ef 0 us).length:=by unfold uS at hi; rwa [W3] at hi
     simp only [hb,hc];refine ⟨aj,.inr ⟨hz,⟨ad,w,A,hb⟩,i,(ef 0 us)[i],by rw [<- hcy,hc],W5 hi,?_⟩⟩;have hgd:((ef 0 us).map fun q=>(q.1,q.2.1)).getD i (0,dF)=((ef 0 us)[i].1,(ef 0 us)[i].2.1):=by
      rw [XT,XO,W5 hi] <;> rfl
     rw [hgd]
    | none =>
     simp only [hb,hc];exact ⟨hz,ad,rfl,rfl,A,hb,hc,by rw [<- hcy,hc]⟩
def PN (us:List cd):List ZA:=((bY 0 us).map zN++(ef 0 us).map jD).map (Oh (bY 0 us))
def EH {us:List cd} {w:LW} (sm:Im us) (h64:us.length<=64) (A:qD us w) (hb:fJ w 0 us=none):Ma us (PN us):=by
 have r:Fh us:=⟨A.right,h64⟩
 have hg:∀ u,u∈us->∀ x,x∈cH u->Good x:=fun u hu=>zV (A.right u hu) (sm.num u hu)
 have hbad:∀ n u,us[n]?=some u->∀ x,x∈cH u->w.bad n x=none:=by
  intro n u hu x hx;have hn:=(Xn.1 hu).1;have h1:=lQ us 0 hb n hn;have he:us[n]=u:=(Xn.1 hu).2;rw [XK,he,wz,X6] at h1;exact h1 x hx
 have hown:∀ n u,us[n]?=some u->∀ x,x∈cH u->∀ t,t∈x.ai->∃ o,jl us n t.1=some o:=by
  intro n u hu x hx t ht;obtain ⟨k,hk⟩:=zB (hbad n u hu x hx) t ht;rw [A.own (Xn.1 hu).1] at hk;obtain ⟨o,ho,_⟩:=YI.1 hk;exact ⟨o,ho⟩
 have hsum:∀ n u,us[n]?=some u->∀ x,x∈cH u->NB us n x:=by
  intro n u hu x hx;have hm:=XU hu;have g:=hg u hm x hx;refine ⟨g.nf,g.num,?_,hown n u hu x hx,fun t ht=>?_⟩
  ·have:=sm.len hm hx
   omega
  ·have:=Pa g t ht
   omega
 have hS:∀ n u,us[n]?=some u->∀ x,x∈cH u->∀ t,t∈x.ai->dy us (bY 0 us) n t.1∈PN us:=by
  intro n u hu x hx t ht;obtain ⟨o,ho⟩:=hown n u hu x hx t ht;unfold dy;rw [ho,Option.getD_some];exact Xp (f:=Oh (bY 0 us)) (a:=(o,t.1)) (Xl.2 (Is A.right ho))
 have hmt:∀ u:cd,∀ x,x∈u.text->x.e∈cH u:=fun u x hx=>Xy _ (Xy _ (Xp hx))
 have hmd:∀ u:cd,∀ x,x∈u.data->x.e∈cH u:=fun u x hx=>Xy _ (XF _ (Xp hx))
 have hme:∀ u:cd,∀ e,e∈u.bg->e.2∈cH u:=fun u e he=>XF _ (Xp he)
 refine ⟨J7.of h64 A.right,?_,fun n u hu e he=>⟨hsum n u hu _ (hme u e he),?_,?_⟩,fun n u hu=>⟨fun x hx=>⟨hsum n u hu _ (hmt u x hx),hS n u hu _ (hmt u x hx)⟩,fun x hx=>⟨hsum n u hu _ (hmd u x hx),hS n u hu _ (hmd u x hx)⟩⟩,?_,?_,?_,?_⟩
 ·have:=r.eb; omega
 ·exact ⟨n,BX hu (XF _ (Xp he))⟩
 ·have h1:=(ze (A.right u (XU hu))).2;unfold vk at h1;simp only [Bool.and_eq_true] at h1;have h2:=(sZ h1.1.2 e he).1;unfold cT at h2;simp only [Bool.and_eq_true] at h2;have h3:=W2 h2.1.1.1.2;have h4:e.1.size<=32:=by simpa using h3
  omega
 ·rw [Km];exact (A.two hb).symm.TM
 ·have:=r.eqs; omega
 ·unfold PN;rw [W3,W8,W3,W3];have h1:=r.eb;have h2:=r.eqs;omega
 ·intro y hy t ht;unfold dR at hy;obtain ⟨q,hq,rfl⟩:=Xd.1 hy;obtain ⟨u,hu,he⟩:=CK hq;obtain ⟨p,hp,e⟩:=Et ht;rw [e];exact hS q.1 u hu _ (hme u q.2 he) p hp
theorem gy {h:Hp} {a:Zx}:∀ (n:Nat) (vs:List ZB) (i:Nat),aJ h a i vs->aJ h a (i+n) (vs.drop n)
 | 0,vs,i,hc=>hc
 | n+1,[],i,hc=>trivial
 | n+1,v::vs,i,hc=>by
  have:=gy n vs (i+1) hc.2
  rw [show i+1+n=i+(n+1) from ad] at this;exact this
theorem iP {h:Hp} {a:Zx}:∀ (vs:List ZB) (o i:Nat),aJ h a (o+i) vs->aJ h (a.add o) i vs
 | [],_,_,_=>trivial
 | v::vs,o,i,h1=>⟨by have:=h1.1; rw [add_add]; exact this,iP vs o (i+1) h1.2⟩
theorem eE {h:Hp} {a:Zx}:∀ (n:Nat) (vs:List ZB) (i:Nat),aJ h a i vs->aJ h a i (vs.take n)
 | 0,vs,i,hc=>trivial
 | n+1,[],i,hc=>trivial
 | n+1,v::vs,i,hc=>⟨hc.1,eE n vs (i+1) hc.2⟩
def _root_.Go.Sx.qt.qV {h h':Hp} {b b2:Nat} {p q:ZC} {l c m d sz:Nat} {e:TypeId} {ms:List cI} {xs:List (List ZB)} (o:qt h b p l c ms) (t:SL h b2 e sz q m d xs) (k:Ch (aP q) h h') (h1:e≠100) (h2:e≠117):qt h' b p l c ms :=
 ⟨o.out.bM k (fun i hi hm=>uv t o.out h1 i hm hi),fun m hm=>(o.fm m hm).bM k (fun i hi hm'=>uv t (o.fm m hm) h2 i hm' hi),o.ap,o.dj⟩
def qn (of:ZA->Option cm) (x:cF):cF:={ x with e:=db of x.e }
def RM (p55:ZC) (l56:Nat) (p21:ZC) (l22 l23 lv:Nat) (k:T):T :=
 T.loop [aR] [.int .i64 (0:Int)] <| fun (n58:Int) =>
     bG n58 l56
     (T.need (fo n58 l56) <|
     T.bF p55 <| fun (a59:Zx) =>
     T.ah ((a59.add (aQ n58 10)).add 7) [.slice 117,.int .u32] <| fun (p60:ZC) (l61:Nat) (l62:Nat) (n63:Int) =>
     bK 38 [.agg #[.slice p60 l61 l62,aH n63],.slice p21 l22 l23] false [(true,[.slice 117,.int .u32])] <| fun (p64:ZC) (l65:Nat) (l66:Nat) (n67:Int) =>
     T.need (fo n58 l56) <|
     T.bF p55 <| fun (a68:Zx) =>
     T.aE ((a68.add (aQ n58 10)).add 7) [.slice p64 l65 l66,aH n67] <|
     T.again lv [.int .i64 (bt (n58+(1:Int)))])
     k
structure Kc (h:Hp) (b:Nat) (p:ZC) (l c:Nat) (ms:List cI):Prop where
 own:qt h b p l c ms
 ok:EqsOk ms
 het:∀ e,e∈ms->e.x.ai.length<=2^20
 TT:(ms.flatMap (·.x.ai)).length<=2^39
 len:ms.length<=2^20
def Kc.ext {h h':Hp} {b:Nat} {p:ZC} {l c:Nat} {ms:List cI} (s:Kc h b p l c ms) (k:Ext h h'):Kc h' b p l c ms:=⟨s.own.an k aj,s.ok,s.het,s.TT,s.len⟩
def Kc.qV {h h':Hp} {b b2:Nat} {p q:ZC} {l c m d sz:Nat} {e:TypeId} {ms:List cI} {xs:List (List ZB)} (o:Kc h b p l c ms) (t:SL h b2 e sz q m d xs) (k:Ch (aP q) h h') (h1:e≠100) (h2:e≠117):Kc h' b p l c ms :=
 ⟨o.own.qV t k h1 h2,o.ok,o.het,o.TT,o.len⟩
def Ht (ws:List (cv × cF)):Prop:=∀ u,u∈ws->u.2.e.ai.length<=2^20/\u.2.e.num<4294967296/\∀ t,t∈u.2.e.ai->t.1.size<=maxLen
def QB {L : Lp} {K : ZB -> Hp -> Prop} {h : Hp} {b N b2 : Nat} {S : Nat -> kb} {p21 : ZC} {l22 l23 lv : Nat} {k : T} {ms : List cI} (hlv : lv = L.length) (s : kQ h b N S) {j : Nat} (hj : j < N) (sv : Kc h b2 p21 l22 l23 ms) (ok : Ht (S j).ws) (hbig : (S j).ws.length <= 2 ^ 20)
    (hk : ∀ h' S' J, kQ h' b N S' -> (∀ i, i ≠ j -> S' i = S i) -> (S' j).s = (S j).s -> (S' j).ws.map (·.2) = (S j).ws.map (fun u => qn (cr ms) u.2) -> Ch (aP (S j).s.p) h h' -> Kc h' b2 p21 l22 l23 ms -> k (L ++ [J]) K h') :
    RM (S j).s.p (S j).s.l p21 l22 l23 lv k L K h := by
  subst hlv;unfold RM bG aQ bK bt fo aH aR;have hl0 : (S j).s.l = (S j).ws.length := by have := (s.sec j hj).out.1; rwa [W3] at this
  generalize hws : (S j).ws = ws at *;generalize hl : (S j).s.l = l at *;subst hl0
  refine aU (cs := [(false, [.int .i64])]) (fun y m' h' => ∃ (i : Nat) (S' : Nat -> kb), y.1 = (i : Int) /\ i <= ws.length /\ m' = ws.length - i /\ kQ h' b N S' /\ (∀ i, i ≠ j -> S' i = S i) /\ (S' j).s = (S j).s /\ (S' j).ws.length = ws.length /\ (∀ m, (hm : m < ws.length) -> (hm' : m < (S' j).ws.length) -> if m < i then (S' j).ws[m].2 = qn (cr ms) ws[m].2 else (S' j).ws[m] = ws[m]) /\ Ch (aP (S j).s.p) h h' /\ Kc h' b2 p21 l22 l23 ms) ((0 : Int), ()) ws.length rfl
    ⟨0, S, rfl, ad, ad, s, fun _ _ => rfl, rfl, by rw [hws], fun m hm hm' => by rw [W6 ad]; simp only [hws], Ch.refl _ _, sv⟩ ?_
  clear s sv;rintro ⟨n58, ⟨⟩⟩ m' h1 ⟨i, S', hi, hil, rfl, s, so, ss, sl, sw, k1, sv⟩;simp only at hi;subst hi;refine ao ?_;refine ak (fun q => ?_) (fun q => ?_)
  · have q := W2 q
    have hlt : i < ws.length :=ad
    have hlt' : i < (S' j).ws.length :=ad
    have sj := s.sec j hj;have hwi := sw i hlt hlt';rw [W6 ad] at hwi;have okw := ok ws[i] (Xe hlt);have hin := sj.fm _ (Xe hlt');obtain ⟨a, ha, hc⟩ := sj.out.cells (i := i) (by simpa using hlt');rw [Xc, hwi] at hc;rw [hwi] at hin;rw [ss] at ha;generalize hu : ws[i] = u at okw hin hc;refine ay ⟨ad, ad⟩ (ax ha ?_);rw [show Int.toNat (i : Int) = i from ad];refine aC ((u.1.p, u.1.l, u.1.c), (u.2.e.num : Int), ()) (eE 2 [_, _, _] 0 (iP _ 7 0 (gy 7 _ 0 hc))) (ao ?_);refine aK (Ly (c := u.1.c) (d := l23) (vO hin) (B3 sv.own) sv.ok sv.het sv.TT sv.len okw.1 okw.2.2) ?_;rintro _ h2 ⟨⟨p', l', c', rfl, s2⟩, e2⟩;rw [xy (eM _ _) (lB okw.2.1)] at s2 ⊢;refine ⟨((p', l', c'), ((db (cr ms) u.2.e).num : Int), ()), rfl, ao ?_⟩;refine ay ⟨ad, ad⟩ (ax ha ?_);have s' := s.ext e2;have sj' := s'.sec j hj;have so2 := sj'.out;refine SL.part (P := Tryz.prog) so2 (i := i) (by rw [W3]; exact hlt') (o := 7) aj (by simp [cX]) (by rw [ss]; exact ha) ?_;intro h3 s3 k3 z3
    have hnew : ((S' j).ws.map sK).set i (la (((S' j).ws.map sK)[i]'(by rw [W3]; exact hlt')) 7 [.slice p' l' c', .int .u32 ((db (cr ms) u.2.e).num : Int)]) = ((S' j).ws.set i (⟨p', l', c'⟩, qn (cr ms) u.2)).map sK := by
      rw [Y0, Xc, hwi, hu] <;> rfl
    rw [hnew] at s3
    have sp := s'.put hj hlt' (q := (⟨p', l', c'⟩, qn (cr ms) u.2)) (s2.mono (by have := s.sec j hj; have hb : b <= h1.size := by have := (sj.out.cj (i := a.block) (by rw [ss, ha]; simp [aP])); omega
                                                                                 exact hb)) s3 k3
    have hw : IntKind.wrap .i64 ((i : Int) + 1) = ((i + 1 : Nat) : Int) := by rw [wrap_i64 ad ad]; omega
    rw [hw];rw [ss] at k3;refine aI (cs := [(false, [.int .i64])]) (((i + 1 : Nat) : Int), ()) (ws.length - (i + 1)) (by rw [XC (Xk _), Zb]; rfl) ad rfl ?_;refine ⟨i + 1, _, rfl, ad, rfl, sp, fun m hm => ?_, ?_, ?_, fun m hm hm' => ?_, (k1.trans (e2.mono aj) (fun i hi _ => hi)).trans k3 (fun i hi _ => hi), (sv.ext e2).qV so2 (by rw [ss]; exact k3) cn cn⟩
    · unfold kK
      rw [W6 hm];exact so m hm
    · unfold kK
      rw [Xb rfl];exact ss
    · unfold kK
      rw [Xb rfl, X8];exact sl
    · have e1 : (kK S' j ⟨(S' j).s, (S' j).ws.set i (⟨p', l', c'⟩, qn (cr ms) u.2)⟩ j).ws = (S' j).ws.set i (⟨p', l', c'⟩, qn (cr ms) u.2) := by
        unfold kK;rw [Xb rfl]
      simp only [e1]
      by_cases hmi : m = i
      · subst hmi
        rw [Xb ad, List.getElem_set_self, hu]
      · have hm2 : m < (S' j).ws.length :=ad
        have := sw m hm hm2;rw [List.getElem_set_ne (Ne.symm hmi)]
        by_cases hlt2 : m < i
        · rw [Xb hlt2] at this
          rw [Xb ad];exact this
        · rw [W6 hlt2] at this
          rw [W6 ad];exact this
  · have q := W4 q
    have hi : i = ws.length :=ad
    subst hi;refine hk h1 S' _ s so ss ?_ k1 sv;refine Zc (by rw [W3, W3]; exact sl) fun m hm1 hm2 => ?_
    rw [W3] at hm1 hm2;have := sw m hm2 hm1;rw [Xb hm2] at this;rw [Xc, Xc];exact this
structure oq (h:Hp) (B:Nat) (w:LW) (usl lb:cv) (sp:Int) (N M:Nat) (S:Nat->kb):Prop where
 box:N9 h (B+3) usl lb B (B+1) (B+2) sp
 maps:LM h B (B+1) (B+2) w
 oC:SL h (B+4) 112 4 lb.p lb.l lb.c (w.lb.map zZ)
 un:SL h (B+4) 47 4 usl.p usl.l usl.c (mn S N)
 wF:kQ h (B+4) M S
section
variable {h h':Hp} {B N M:Nat} {w:LW} {usl lb:cv} {sp:Int} {S:Nat->kb}
def oq.mv {ws:List Nat} (s:oq h B w usl lb sp N M S) (k:Ch ws h h') (hw:∀ i,i∈ws->i<B):oq h' B w usl lb sp N M S :=
 ⟨s.box.an k (fun hm=>by have:=hw _ hm; omega),s.maps.an k (fun hm=>by have:=hw _ hm; omega) (fun hm=>by have:=hw _ hm; omega) (fun hm=>by have:=hw _ hm; omega),
  s.oC.bM k (fun i hi hm=>by have:=(s.oC.cj hi).1; have:=hw _ hm; omega),s.un.bM k (fun i hi hm=>by have:=(s.un.cj hi).1; have:=hw _ hm; omega),s.wF.mv k (fun i hi=>by have:=hw _ hi; omega)⟩
def oq.ext (s:oq h B w usl lb sp N M S) (k:Ext h h'):oq h' B w usl lb sp N M S:=s.mv k aj
def oq.lt (s:oq h B w usl lb sp N M S):B+4<=h.size:=by have:=s.box.lt; omega
def oq.qV {b2 sz:Nat} {e:TypeId} {q:ZC} {m d:Nat} {xs:List (List ZB)} (s:oq h B w usl lb sp N M S) (t:SL h b2 e sz q m d xs) (k:Ch (aP q) h h') (hb:B+4<=b2) (h1:e≠112) (h2:e≠47) (h3:e≠71) (h4:e≠117):oq h' B w usl lb sp N M S:=by
 have hw:∀ i,i∈aP q->B+4<=i:=fun i hi=>by have:=(t.cj hi).1; omega
 exact ⟨s.box.an k (fun hm=>by have:=hw _ hm; omega),s.maps.an k (fun hm=>by have:=hw _ hm; omega) (fun hm=>by have:=hw _ hm; omega) (fun hm=>by have:=hw _ hm; omega),
  s.oC.bM k (fun i hi hm=>uv t s.oC h1 i hm hi),s.un.bM k (fun i hi hm=>uv t s.un h2 i hm hi),s.wF.qV t k h3 h4⟩
def oq.VW {S':Nat->kb} {j:Nat} (s:oq h B w usl lb sp N M S) (hj:j<M) (s':kQ h' (B+4) M S') (hs:∀ i,(S' i).s=(S i).s) (k:Ch (aP (S j).s.p) h h'):oq h' B w usl lb sp N M S':=by
 have t:=(s.wF.sec j hj).out;have hw:∀ i,i∈aP (S j).s.p->B+4<=i:=fun i hi=>(t.cj hi).1
 have he:mn S' N=mn S N:=by
  unfold mn;apply XQ;intro i _;unfold xk;rw [hs,hs]
 exact ⟨s.box.an k (fun hm=>by have:=hw _ hm; omega),s.maps.an k (fun hm=>by have:=hw _ hm; omega) (fun hm=>by have:=hw _ hm; omega) (fun hm=>by have:=hw _ hm; omega),
  s.oC.bM k (fun i hi hm=>uv t s.oC cn i hm hi),by rw [he]; exact s.un.bM k (fun i hi hm=>uv t s.un cn i hm hi),s'⟩
end
def BY (of:ZA->Option cm) (S S':Nat->kb) (m:Nat):Prop:=∀ k,(S' k).s=(S k).s/\if k<m then (S' k).ws.map (·.2)=(S k).ws.map (fun u=>qn of u.2) else S' k=S k
def BY.step {of:ZA->Option cm} {S S' S2:Nat->kb} {m:Nat} (d:BY of S S' m) (h1:∀ i,i≠m->S2 i=S' i) (h2:(S2 m).s=(S' m).s) (h3:(S2 m).ws.map (·.2)=(S' m).ws.map (fun u=>qn of u.2)):BY of S S2 (m+1):=by
 intro k;obtain ⟨e1,e2⟩:=d k
 by_cases hk:k=m
 ·subst hk;rw [W6 ad] at e2;rw [Xb ad];exact ⟨h2.trans e1,by rw [h3,e2]⟩
 ·rw [h1 k hk];refine ⟨e1,?_⟩
  by_cases hlt:k<m
  ·rw [Xb hlt] at e2;rw [Xb ad];exact e2
  ·rw [W6 hlt] at e2;rw [W6 ad];exact e2
def Ss (a1 a7:Zx) (p21:ZC) (l22 l23:Nat):T :=
    (T.ah a7 [.slice 47] <| fun (p26:ZC) (l27:Nat) (l28:Nat) =>
    T.loop [aR] [.int .i64 (0:Int)] <| fun (n29:Int) =>
    bG n29 l27
    (T.need (fo n29 l27) <|
    T.bF p26 <| fun (a30:Zx) =>
    T.ah (a30.add (aQ n29 4)) [.slice 71,.slice 71,.slice 100,.slice 9] <| fun (p31:ZC) (l32:Nat) (l33:Nat) (p34:ZC) (l35:Nat) (l36:Nat) (p37:ZC) (l38:Nat) (l39:Nat) (p40:ZC) (l41:Nat) (l42:Nat) =>
    T.new [bi,bi,bi,bi] 47 <| fun (a43:Zx) =>
    T.aE a43 [.slice p31 l32 l33,.slice p34 l35 l36,.slice p37 l38 l39,.slice p40 l41 l42] <|
    T.ah a43 [.slice 71] <| fun (p44:ZC) (l45:Nat) (l46:Nat) =>
    T.ah (a43.add 1) [.slice 71] <| fun (p47:ZC) (l48:Nat) (l49:Nat) =>
    bR (Instr.buildSlice 79 2 #[(0,.slice p44 l45 l46),(1,.slice p47 l48 l49)]) false [dh] <| fun (p50:ZC) (l51:Nat) (l52:Nat) =>
    T.loop [aR] [.int .i64 (0:Int)] <| fun (n53:Int) =>
    bG n53 l51
     (T.need (fo n53 l51) <|
     T.bF p50 <| fun (a54:Zx) =>
     T.ah (a54.add (aQ n53 1)) [.slice 71] <| fun (p55:ZC) (l56:Nat) (l57:Nat) =>
     RM p55 l56 p21 l22 l23 4 (T.again 3 [.int .i64 (bt (n53+(1:Int)))]))
     (T.again 2 [.int .i64 (bt (n29+(1:Int)))]))
    (T.aE a1 [.int .i64 (0:Int),.int .i64 (0:Int),bT] <|
    T.ah a1 [.int .i64,.int .i64,.string] <| fun (n30:Int) (n31:Int) (Rw:ZA) =>
    br #[.pointer (some a7),.agg #[.int .i64 n30,.int .i64 n31,.string Rw]]))
def Py {J0 J1:List ZB->Hp->Prop} {K:ZB->Hp->Prop} {h0 h:Hp} {A B N b2:Nat} {w:LW} {usl lb:cv} {sp:Int} {S:Nat->kb} {p21:ZC} {l22 l23:Nat} {ms:List cI}
  (hA:h0.size<=A) (hAB:A<B) (e0:Ext h0 h) (ba:bH h A 54 [.int .i64 0,.int .i64 0,.string ⟨#[]⟩]) (s:oq h B w usl lb sp N (2*N) S) (sv:Kc h b2 p21 l22 l23 ms) (hN:N<=2^20)
  (ok:∀ j,j<2*N->Ht (S j).ws/\(S j).ws.length<=2^20)
  (hk:∀ h' S',Ext h0 h'->oq h' B w usl lb sp N (2*N) S'->BY (cr ms) S S' (2*N)->K (.tuple #[ptr (B+3),.agg #[.int .i64 0,.int .i64 0,.string ⟨#[]⟩]]) h') :
  Ss ⟨A,0,none⟩ ⟨B+3,0,none⟩ p21 l22 l23 [J0,J1] K h:=by
 unfold Ss bG aQ bR bt fo br bi bT aR dh;refine af s.box ((usl.p,usl.l,usl.c),()) rfl (ao ?_);have hul:usl.l=N:=by have:=s.un.1; rwa [js] at this
 rw [hul];refine aU (cs:=[(false,[.int .i64])]) (fun y m' h'=>∃ (n:Nat) (S':Nat->kb),y.1=(n:Int)/\n<=N/\m'=N-n/\Ext h0 h'/\bH h' A 54 [.int .i64 0,.int .i64 0,.string ⟨#[]⟩]/\oq h' B w usl lb sp N (2*N) S'/\BY (cr ms) S S' (2*n)/\Kc h' b2 p21 l22 l23 ms) ((0:Int),()) N rfl
  ⟨0,S,rfl,ad,ad,e0,ba,s,fun k=>⟨rfl,by rw [W6 ad]⟩,sv⟩ ?_
 clear s sv ba e0;rintro ⟨n29,⟨⟩⟩ m' h1 ⟨n,S1,hn,hnN,rfl,e1,ba,s,d,sv⟩;simp only at hn;subst hn;refine ao ?_;refine ak (fun q=>?_) (fun q=>?_)
 ·have q:=W2 q;have hlt:n<N:=ad
  obtain ⟨a,ha,hc⟩:=s.un.cells (i:=n) (by rw [js]; exact hlt);rw [BO] at hc;refine ay ⟨ad,ad⟩ (ax ha ?_);rw [show Int.toNat (n:Int)=n from ad];generalize hta:(S1 (2*n)).s=ta;generalize htb:(S1 (2*n+1)).s=tb;have hc:aJ h1 (a.add (n*4)) 0 [ta.v,tb.v,lX.v,lX.v]:=by rw [<- hta,<- htb]; exact hc
  refine aC ((ta.p,ta.l,ta.c),(tb.p,tb.l,tb.c),(none,0,0),(none,0,0),()) hc (ao ?_);refine bk ?_;intro h2 b2' e2 z2;refine aw b2' rfl aj ?_;intro h3 b3 k3 z3;have b3:bH h3 h1.size 47 [ta.v,tb.v,lX.v,lX.v]:=b3;have e13:Ext h1 h3:=Ch.trans e2 k3 (fun i hi hl=>by simp at hi; omega);refine af b3 ((ta.p,ta.l,ta.c),()) rfl (ao ?_);rw [aG];refine af b3 ((tb.p,tb.l,tb.c),()) rfl (ao ?_);refine mH N7 VG ad ad (Nx ta.p ta.l ta.c tb.p tb.l tb.c) ?_;intro h4 b4 e4 z4;have b4:bH h4 h3.size 43 [ta.v,tb.v]:=b4;have e14:=e13.trans e4;have hsec:∀ k,k<2->([ta.v,tb.v]:List ZB).drop k=(S (2*n+k)).s.v::([ta.v,tb.v]:List ZB).drop (k+1):=by
   intro k hk;have h0:∀ k,(S1 k).s=(S k).s:=fun k=>(d k).1
   have:k=0\/k=1:=ad
   rcases this with rfl | rfl
   ·rw [<- h0]; show [ta.v,tb.v]=(S1 (2*n)).s.v::[tb.v]; rw [hta]
   ·rw [<- h0]; show [tb.v]=(S1 (2*n+1)).s.v::[]; rw [htb]
  have hb3:∀ j,j<2*N->h3.size∉aP (S j).s.p:=by
   intro j hj hm;rw [<- (d j).1] at hm
   have:=((s.wF.sec j hj).out.cj hm).2
   have:=e13.size
   omega
  refine aU (cs:=[(false,[.int .i64])]) (fun y m' h'=>∃ (j:Nat) (S':Nat->kb),y.1=(j:Int)/\j<=2/\m'=2-j/\Ext h0 h'/\bH h' A 54 [.int .i64 0,.int .i64 0,.string ⟨#[]⟩]/\oq h' B w usl lb sp N (2*N) S'/\BY (cr ms) S S' (2*n+j)/\Kc h' b2 p21 l22 l23 ms/\bH h' h3.size 43 [ta.v,tb.v]) ((0:Int),()) 2 rfl
   ⟨0,S1,rfl,ad,ad,e1.trans e14,ba.an e14 aj,s.ext e14,d,sv.ext e14,b4⟩ ?_
  clear s sv ba d hta htb hc ha b3;rintro ⟨n53,⟨⟩⟩ m' h5 ⟨j,S2,hj,hj2,rfl,e5,ba,s,d,sv,b5⟩;simp only at hj;subst hj;refine ao ?_;refine ak (fun q=>?_) (fun q=>?_)
  ·have q:=W2 q;have hj2:j<2:=ad
   refine ay ⟨ad,ad⟩ (ax rfl ?_);rw [show Int.toNat (j:Int)=j from ad,aG];have hsj:=(d (2*n+j)).1;have hSe:S2 (2*n+j)=S (2*n+j):=by
    have:=(d (2*n+j)).2
    rwa [W6 ad] at this
   refine af b5 (((S (2*n+j)).s.p,(S (2*n+j)).s.l,(S (2*n+j)).s.c),()) (by
    have:=hsec j hj2
    rw [show 0+j*1=j from ad,this];rfl) ?_
   refine ao ?_;rw [<- hSe];have hjN:2*n+j<2*N:=ad
   have okj:=ok _ hjN;rw [<- hSe] at okj;have key:=fun (L:Lp) (hL:4=L.length)=>@QB L K h5 (B+4) (2*N) b2 S2 p21 l22 l23 4 (T.again 3 [.int .i64 (IntKind.wrap .i64 ((j:Int)+(1:Int)))]) ms hL s.wF (2*n+j) hjN sv okj.1 okj.2
   refine key _ ?_ ?_
   ·rfl
   clear key;intro h6 S3 J s6 so ss sw k6 sv6;have hw:IntKind.wrap .i64 ((j:Int)+1)=((j+1:Nat):Int):=by rw [wrap_i64 ad ad]; omega
   rw [hw];have hss:∀ i,(S3 i).s=(S2 i).s:=by
    intro i
    by_cases hi:i=2*n+j
    ·rw [hi]; exact ss
    ·rw [so i hi]
   have hblk:∀ i,i∈aP (S2 (2*n+j)).s.p->B+4<=i:=fun i hi=>((s.wF.sec _ hjN).out.cj hi).1
   have z0:=e1.size;refine aI (cs:=[(false,[.int .i64])]) (((j+1:Nat):Int),()) (2-(j+1)) rfl ad rfl ?_;refine ⟨j+1,S3,rfl,ad,rfl,Ch.trans e5 k6 (fun i hi hl=>by have:=hblk i hi; omega),ba.an k6 (fun hm=>by have:=hblk _ hm; omega),s.VW hjN s6 hss k6,d.step so ss sw,sv6,b5.an k6 (by rw [hSe]; exact hb3 _ hjN)⟩
  ·have q:=W4 q;have hj:j=2:=ad
   subst hj;have hw:IntKind.wrap .i64 ((n:Int)+1)=((n+1:Nat):Int):=by rw [wrap_i64 ad ad]; omega
   rw [hw];refine aI (cs:=[(false,[.int .i64])]) (((n+1:Nat):Int),()) (N-(n+1)) rfl ad rfl ?_;exact ⟨n+1,S2,rfl,ad,rfl,e5,ba,s,d,sv⟩
 ·have q:=W4 q;have hn:n=N:=ad
  subst hn;refine aw ba rfl aj ?_;intro h2 b2' k2 z2;have b2':bH h2 A 54 [.int .i64 0,.int .i64 0,.string ⟨#[]⟩]:=b2';refine af b2' ((0:Int),(0:Int),(⟨#[]⟩:ZA),()) rfl ?_;exact hk h2 S1 (Ch.trans e1 k2 (fun i hi hl=>by simp at hi; omega)) (s.mv k2 (by simp; omega)) d
def DV (k:Ky):List ZB:=[.int .i64 (k.1:Int),.string k.2]
def Te:Tryz.prog.underlying 96=some (.slice 105):=az
def WU:(Tryz.prog.info? 105).map (fun i=>(i.zero,i.size,i.bytes))=some (some (.agg #[.int .i64 0,.string ⟨#[]⟩]),2,24):=az
def R2 (n:Int) (s:ZA):Instr.fill (fun j=>some (j*2,2)) ((Array.range (1*2)).map ((Value.agg #[.int .i64 0,.string ⟨#[]⟩]).cells[· % (Value.agg #[.int .i64 0,.string ⟨#[]⟩]).cells.size]!)) [(0,.agg #[.int .i64 n,.string s])]=some ([.int .i64 n,.string s]:List ZB).toArray:=az
def AX {h:Hp} {b x:Nat} {e e':TypeId} {sz:Nat} {p:ZC} {l c:Nat} {xs:List (List ZB)} {ys:List ZB} (s:SL h b e sz p l c xs) (t:bH h x e' ys) (he:e≠e'):x∉aP p:=fun hm=>by
 obtain ⟨zs,hz⟩:=SL.Au s x hm;unfold bH at hz t;rw [hz] at t;simp only [Option.some.injEq,Obj.cells.injEq] at t;exact he t.2.1
def Hw (pW unit:Nat) (s:ZA):ZB:=.tuple #[.pointer none,.agg #[.int .i64 (pW:Int),.int .i64 (unit:Int),.string s]]
def zS (h h':Hp):Prop:=∀ x e xs,e≠100->e≠105->bH h x e xs->bH h' x e xs
def zS.ext {h h' h2:Hp} (k:zS h h') (e:Ext h' h2):zS h h2:=fun x t xs h1 h2 b=>(k x t xs h1 h2 b).an e aj
abbrev NA:List fE:=[(false,[.pointer 0]),(false,[.slice 0]),(false,[.slice 0]),(false,[.int .i64])]
def S5 (a1 a7:Zx) (n20:Int) (p52:ZC) (l53:Nat) (p13 p14:ZC) (l15 l16:Nat) (p17:ZC) (l18 l19:Nat) (k:ZC->ZC->Nat->Nat->ZC->Nat->Nat->T):T :=
    T.loop [(false,[.pointer 0]),dh,dh,aR] [.pointer p13,.slice p14 l15 l16,.slice p17 l18 l19,.int .i64 (0:Int)] <| fun (p55:ZC) (p56:ZC) (l57:Nat) (l58:Nat) (p59:ZC) (l60:Nat) (l61:Nat) (n62:Int) =>
    bG n62 l53
     (T.need (fo n62 l53) <|
     T.bF p52 <| fun (a63:Zx) =>
     T.ah (a63.add (aQ n62 3)) [.string,.slice 117,.int .u32] <| fun (s64:ZA) (p65:ZC) (l66:Nat) (l67:Nat) (n68:Int) =>
     T.new [bT,bi,aH (0:Int)] 100 <| fun (a69:Zx) =>
     T.aE a69 [.string s64,.slice p65 l66 l67,aH n68] <|
     T.ah (a69.add 1) [.slice 117,.int .u32] <| fun (p70:ZC) (l71:Nat) (l72:Nat) (n73:Int) =>
     bK 34 [.pointer (some a7),.int .i64 n20,.agg #[.slice p70 l71 l72,aH n73]] true [(true,[.slice 117,.int .u32]),(false,[.string]),cg] <| fun (p74:ZC) (l75:Nat) (l76:Nat) (n77:Int) (s78:ZA) (b79:Bool) =>
     T.new [bi,aH (0:Int)] 69 <| fun (a80:Zx) =>
     T.aE a80 [.slice p74 l75 l76,aH n77] <|
     cond (!b79)
     (T.aE a1 [.int .i64 (23:Int),.int .i64 n20,.string s78] <|
     T.ah a1 [.int .i64,.int .i64,.string] <| fun (n81:Int) (n82:Int) (s83:ZA) =>
     br #[.pointer none,.agg #[.int .i64 n81,.int .i64 n82,.string s83]])
     (T.ah a69 [.string] <| fun (s81:ZA) =>
     T.ah a80 [.slice 117,.int .u32] <| fun (p82:ZC) (l83:Nat) (l84:Nat) (n85:Int) =>
     bK 35 [.pointer (some a7),.agg #[.int .i64 n20,.string s81]] false [(false,[.string])] <| fun (VI:ZA) =>
     T.bj [(a80,[.slice p82 l83 l84,aH n85]),(a69,[.string s81])] <|
     bR (Instr.buildSlice 44 1 #[(0,.agg #[.string VI,.slice p82 l83 l84,aH n85])]) false [dh] <| fun (p87:ZC) (l88:Nat) (l89:Nat) =>
     T.bj [(a80,[.slice p82 l83 l84,aH n85]),(a69,[.string s81])] <|
     bR (Builtin.append_ #[44,44] 44 #[.slice p56 l57 l58,.slice p87 l88 l89]) false [dh] <| fun (p90:ZC) (l91:Nat) (l92:Nat) =>
     T.bj [(a80,[.slice p82 l83 l84,aH n85]),(a69,[.string s81])] <|
     T.ah a69 [.string] <| fun (s93:ZA) =>
     bR (Instr.buildSlice 96 1 #[(0,.agg #[.int .i64 n20,.string s93])]) false [dh] <| fun (p94:ZC) (l95:Nat) (l96:Nat) =>
     bR (Builtin.append_ #[96,96] 96 #[.slice p59 l60 l61,.slice p94 l95 l96]) false [dh] <| fun (p97:ZC) (l98:Nat) (l99:Nat) =>
     T.again 2 [.pointer p55,.slice p90 l91 l92,.slice p97 l98 l99,.int .i64 (bt (n62+(1:Int)))]))
     (k p55 p56 l57 l58 p59 l60 l61)
structure BT (h:Hp) (b:Nat) (e k:cv) (D:List (ZA × cm)) (ks:List Ky):Prop where
 eq:∃ ms,qt h b e.p e.l e.c ms/\ms.map fe=D
 ky:SL h b 105 2 k.p k.l k.c (ks.map DV)
def BT.ext {h h':Hp} {b:Nat} {e k:cv} {D:List (ZA × cm)} {ks:List Ky} (s:BT h b e k D ks) (x:Ext h h'):BT h' b e k D ks:=by
 obtain ⟨⟨ms,o,hm⟩,y⟩:=s;exact ⟨⟨ms,o.an x aj,hm⟩,y.an x aj⟩
def PK {L:Lp} {K:ZB->Hp->Prop} {h0 h:Hp} {A B N M n:Nat} {w:LW} {usl lb:cv} {sp:Int} {S:Nat->kb} {p52:ZC} {l53:Nat} {es:List qY} {el kl:cv} {D:List (ZA × cm)} {ks:List Ky}
  {k:ZC->ZC->Nat->Nat->ZC->Nat->Nat->T} {p13:ZC}
  (hL:2=L.length) (pw:fP h0) (hA:h0.size<=A) (hAB:A<B) (e0:Ext h0 h) (ba:bH h A 54 [.int .i64 0,.int .i64 0,.string ⟨#[]⟩]) (s:oq h B w usl lb sp N M S) (Jk:Of w) (es0:BT h (B+4) el kl D ks)
  (v:Ob.tk h0 p52 l53 es) (ge:∀ e,e∈es->DW e.2) (hl:es.length<=2^20) (hD:D.length<=2^20) (hks:ks.length<=2^20)
  (hbad:∀ h' q,Ext h0 h'->(es.findSome? fun e=>w.bad n e.2)=some q->K (Hw 23 n q) h')
  (hk:∀ h' el' kl' J,Ext h0 h'->bH h' A 54 [.int .i64 0,.int .i64 0,.string ⟨#[]⟩]->oq h' B w usl lb sp N M S->BT h' (B+4) el' kl' (D++es.map fun e=>(w.word (n,e.1),w.lin n e.2)) (ks++es.map fun e=>(n,e.1)) ->
   zS h h'->(es.findSome? fun e=>w.bad n e.2)=none->k p13 el'.p el'.l el'.c kl'.p kl'.l kl'.c (L++[J]) K h') :
  S5 ⟨A,0,none⟩ ⟨B+3,0,none⟩ (n:Int) p52 l53 p13 el.p el.l el.c kl.p kl.l kl.c k L K h:=by
 unfold S5 bG aQ bK bR bt fo aH br bi bT aR cg dh;have hl53:=v.len
 refine aU (cs:=NA) (fun y m' h'=>∃ (i:Nat) (el' kl':cv),y.1=p13/\y.2.1=(el'.p,el'.l,el'.c)/\y.2.2.1=(kl'.p,kl'.l,kl'.c)/\y.2.2.2.1=(i:Int)/\i<=es.length/\m'=es.length-i/\Ext h0 h'/\bH h' A 54 [.int .i64 0,.int .i64 0,.string ⟨#[]⟩]/\oq h' B w usl lb sp N M S /\
   BT h' (B+4) el' kl' (D++(es.take i).map fun e=>(w.word (n,e.1),w.lin n e.2)) (ks++(es.take i).map fun e=>(n,e.1))/\zS h h'/\∀ j,(hj:j<i)->(hx:j<es.length)->w.bad n es[j].2=none)
  (p13,(el.p,el.l,el.c),(kl.p,kl.l,kl.c),(0:Int),()) es.length rfl ⟨0,el,kl,rfl,rfl,rfl,rfl,ad,ad,e0,ba,s,by simpa using es0,fun x e xs _ _ b=>b,by intro j hj; omega⟩ ?_
 clear e0 ba s es0;rintro ⟨p55,⟨p56,l57,l58⟩,⟨p59,l60,l61⟩,n62,⟨⟩⟩ m' h1 ⟨i,el1,kl1,hy1,hy2,hy3,hy4,hil,rfl,e1,ba,s,es1,ke,hok⟩;simp only [Prod.mk.injEq] at hy1 hy2 hy3 hy4;obtain ⟨rfl,rfl,rfl⟩:=hy2;obtain ⟨rfl,rfl,rfl⟩:=hy3;subst hy1 hy4;refine ao ?_;refine ak (fun q=>?_) (fun q=>?_)
 ·have q:=W2 q;have hlt:i<es.length:=ad
  obtain ⟨aa,pp,ll,cc,haa,hc0,va0,hsz⟩:=v.cells i hlt;have gxi:=ge es[i] (Xe hlt);have htk:es.take (i+1)=es.take i++[es[i]]:=W7 hlt;have hfs:∀ q,w.bad n es[i].2=some q->(es.findSome? fun e=>w.bad n e.2)=some q:=by
   intro q hq;have hsp:es=es.take i++es[i]::es.drop (i+1):=by rw [<- Xi hlt,XN]
   have hnone:((es.take i).findSome? fun e=>w.bad n e.2)=none:=by
    rw [X6];intro x hx;obtain ⟨j,hj,rfl⟩:=Xw hx;rw [Xr] at hj;rw [List.getElem_take];exact hok j ad ad
   generalize hz:es[i]=z at hsp hq;rw [hsp,Y3,hnone,List.findSome?_cons,hq] <;> rfl
  have hnx:w.bad n es[i].2=none->∀ j,(hj:j<i+1)->(hx:j<es.length)->w.bad n es[j].2=none:=by
   intro hn j hj hx
   by_cases hji:j=i
   ·subst hji; exact hn
   ·exact hok j ad hx
  generalize es[i]=x at hc0 va0 hsz gxi htk hfs hnx;refine ay ⟨ad,ad⟩ (ax haa ?_);rw [show Int.toNat (i:Int)=i from ad];refine aC (x.1,(pp,ll,cc),(x.2.num:Int),()) (aX e1 aj _ _ hc0) (ao ?_);refine bk ?_;intro h2 b2' e2 z2;refine aw b2' rfl aj ?_;intro h3 b3 k3 z3;have b3:bH h3 h1.size 100 [.string x.1,.slice pp ll cc,.int .u32 (x.2.num:Int)]:=b3;have e13:Ext h1 h3:=Ch.trans e2 k3 (fun i hi hl=>by simp at hi; omega);have e03:=e1.trans e13;have s3:=s.ext e13;rw [aG];refine af b3 ((pp,ll,cc),(x.2.num:Int),()) rfl (ao ?_);refine aK (xi (c:=cc) (pw.an e03 aj) s3.box s3.maps Jk n (va0.an e03).vw gxi) ?_;rintro _ h4 ⟨e4,hq⟩;have z1:=e1.size;have l1:=s.lt;have q3:=b3.lt;cases hb:w.bad n x.2 with
  | some t =>
   rw [hb] at hq;subst hq;refine ⟨((none,0,0),(0:Int),t,false,()),rfl,ao ?_⟩;refine bk ?_;intro h5 b5' e5 z5;refine aw b5' rfl aj ?_;intro h6 b6 k6 z6;refine bn rfl ?_;have e46:Ext h4 h6:=Ch.trans e5 k6 (fun i hi hl=>by simp at hi; omega);have e16:=(e13.trans e4).trans e46;refine aw (ba.an e16 aj) rfl aj ?_;intro h7 b7 k7 z7;have b7:bH h7 A 54 [.int .i64 23,.int .i64 (n:Int),.string t]:=b7;refine af b7 ((23:Int),(n:Int),t,()) rfl ?_;exact hbad h7 t (Ch.trans (e1.trans e16) k7 (fun i hi hl=>by simp at hi; omega)) (hfs t hb)
  | none =>
   rw [hb] at hq;obtain ⟨p7,l7,c7,rfl,s7⟩:=hq;refine ⟨((p7,l7,c7),((w.lin n x.2).num:Int),(⟨#[]⟩:ZA),true,()),rfl,ao ?_⟩;refine bk ?_;intro h5 b5' e5 z5;refine aw b5' rfl aj ?_;intro h6 b6 k6 z6;have b6:bH h6 h4.size 69 [.slice p7 l7 c7,.int .u32 ((w.lin n x.2).num:Int)]:=b6;have e46:Ext h4 h6:=Ch.trans e5 k6 (fun i hi hl=>by simp at hi; omega);have e16:=(e13.trans e4).trans e46;refine bJ rfl ?_;have b36:=b3.an (e4.trans e46) aj;refine af b36 (x.1,()) rfl (ao ?_);refine af b6 ((p7,l7,c7),((w.lin n x.2).num:Int),()) rfl (ao ?_);have s6:=s.ext e16;refine aK (Bc (pw.an (e1.trans e16) aj) s6.box s6.maps Jk n x.1) ?_;rintro _ h8 ⟨rfl,e8⟩;refine ⟨(w.word (n,x.1),()),rfl,ao ?_⟩;have e18:=e16.trans e8;have b68:=b6.an e8 aj;have b38:=b36.an e8 aj;have hst:∀ h',Ext h8 h'->T.C6 h' [(⟨h4.size,0,none⟩,[.slice p7 l7 c7,.int .u32 ((w.lin n x.2).num:Int)]),(⟨h1.size,0,none⟩,[.string x.1])]:=fun h' e=>⟨(b68.an e aj).cells _ rfl,(b38.an e aj).cells _ rfl,trivial⟩
   refine ⟨hst h8 (Ch.refl _ _),?_⟩;obtain ⟨⟨ms,o1,hms⟩,y1⟩:=es1;have o8:=o1.an e18 aj;have y8:=y1.an e18 aj;have hml:ms.length=D.length+i:=by
    have:=Xj List.length hms
    rw [W3,W8,W3,Xr,Yc hil] at this;exact this
   have hel:el1.l=ms.length:=by have:=o1.out.1; rwa [W3] at this
   have hkl:kl1.l=ks.length+i:=by
    have:=y1.1
    rw [W3,W8,W3,Xr,Yc hil] at this;exact this
   have z18:=e18.size;have z4:=e4.size;have z46:=e46.size;have z8:=e8.size;have z13:=e13.size;refine gI (vs:=yZ ⟨w.word (n,x.1),p7,l7,c7,w.lin n x.2⟩) Bo JO rfl ad ad (Gh _ p7 l7 c7 _) rfl rfl o8.out ad ad ad hst ?_;intro p9 c9 h9 s9 k9 hp9;have hnin:∀ j,h1.size<=j->j∉aP el1.p:=fun j hj hm=>by have:=(o1.out.cj hm).2; omega
   have b69:=b68.an k9 (hnin _ ad);have b39:=b38.an k9 (hnin _ ad);refine ⟨⟨b69.cells _ rfl,b39.cells _ rfl,trivial⟩,?_⟩;have VX:SL h8 (B+4) 117 2 p7 l7 c7 ((w.lin n x.2).ai.map dc):=(s7.an (e46.trans e8) aj).mono ad;have o9:qt h9 (B+4) p9 (el1.l+1) c9 (ms++[⟨w.word (n,x.1),p7,l7,c7,w.lin n x.2⟩]):=by
    refine o8.push VX (fun j hj=>?_) (by rw [Xf]; exact s9) k9 (fun j hj=>?_)
    ·have hj3:=(s7.cj hj).1;refine ⟨fun y hy m hm=>?_,hnin _ ad⟩
     have:=((o1.fm y hy).cj hm).2
     omega
    ·rcases hp9 with rfl | ⟨a,rfl,ha⟩
     ·exact .inl hj
     ·simp [aP] at hj;subst hj;exact .inr ha
   have y9:=y8.bM k9 (fun j hj hm=>uv o8.out y8 cn j hm hj);have g9:=(s.ext e18).qV o8.out k9 (Xk _) cn cn cn cn;have ba8:=ba.an e18 aj;have ba9:=ba8.an k9 (AX o8.out ba8 cn);have z9:=k9.size;have ke8:zS h h8:=ke.ext e18;have ke9:zS h h9:=fun x e xs h1 h2 b=>by
    have b8:=ke8 x e xs h1 h2 b;exact b8.an k9 (AX o8.out b8 (Ne.symm h1))
   have e09:Ext h0 h9:=Ch.trans (e1.trans e18) k9 (fun j hj hl=>by have:=(o8.out.cj hj).1; omega);refine af b39 (x.1,()) rfl (ao ?_);refine mi (vs:=DV (n,x.1)) Te WU rfl ad ad (R2 _ _) rfl rfl y9 ad ad ad ?_;intro p10 c10 h10 s10 k10 hp10;have hw:IntKind.wrap .i64 ((i:Int)+1)=((i+1:Nat):Int):=by rw [wrap_i64 ad ad]; omega
   rw [hw];refine aI (cs:=NA) (p55,(p9,el1.l+1,c9),(p10,kl1.l+1,c10),((i+1:Nat):Int),()) (es.length-(i+1)) (by rw [XC ad,<- hL,Zb]; rfl) ad rfl ?_;refine ⟨i+1,⟨p9,el1.l+1,c9⟩,⟨p10,kl1.l+1,c10⟩,rfl,rfl,rfl,rfl,ad,rfl,Ch.trans e09 k10 (fun j hj hl=>by have:=(y9.cj hj).1; omega),ba9.an k10 (AX y9 ba9 cn),
    g9.qV y9 k10 (Xk _) cn cn cn cn,⟨⟨_,o9.qV y9 k10 cn cn,?_⟩,?_⟩,?_,hnx hb⟩
   ·rw [htk,Xf,hms,Xf,<- Xs] <;> rfl
   ·have he:(ks++(es.take (i+1)).map fun e=>(n,e.1)).map DV=(ks++(es.take i).map fun e=>(n,e.1)).map DV++[DV (n,x.1)]:=by
     rw [htk]
     simp
    rw [he];exact s10
   ·intro x e xs h1 h2 b;have b9:=ke9 x e xs h1 h2 b;exact b9.an k10 (AX y9 b9 (Ne.symm h2))
 ·have q:=W4 q;have hi:i=es.length:=ad
  subst hi;rw [XD (Xk _)] at es1;refine hk h1 el1 kl1 _ e1 ba s es1 ke ?_;rw [X6];intro x hx;obtain ⟨j,hj,rfl⟩:=Xw hx;exact hok j hj hj
def SS:Tryz.prog.underlying 30=some (.slice 47):=az
def Vu:(Tryz.prog.info? 47).map (fun i=>(i.zero,i.size,i.bytes))=some (some (.agg #[.slice none 0 0,.slice none 0 0,.slice none 0 0,.slice none 0 0]),4,96):=az
def Ty (p1:ZC) (l1 c1:Nat) (p2:ZC) (l2 c2:Nat) (p3:ZC) (l3 c3:Nat) (p4:ZC) (l4 c4:Nat):Instr.fill (fun j=>some (j*4,4)) ((Array.range (1*4)).map ((Value.agg #[.slice none 0 0,.slice none 0 0,.slice none 0 0,.slice none 0 0]).cells[· % (Value.agg #[.slice none 0 0,.slice none 0 0,.slice none 0 0,.slice none 0 0]).cells.size]!)) [(0,.agg #[.slice p1 l1 c1,.slice p2 l2 c2,.slice p3 l3 c3,.slice p4 l4 c4])]=some ([.slice p1 l1 c1,.slice p2 l2 c2,.slice p3 l3 c3,.slice p4 l4 c4]:List ZB).toArray:=az
def Tx (a1 a7:Zx) (p14:ZC) (l15 l16:Nat) (p17:ZC) (l18 l19:Nat):T :=
   (bK 37 [.slice p14 l15 l16] true [(false,[.slice 100]),aR,aR] <| fun (p21:ZC) (l22:Nat) (l23:Nat) (n24:Int) (n25:Int) =>
   cond (n25 != (0:Int))
    (T.need (fo n24 l18) <|
    T.bF p17 <| fun (a26:Zx) =>
    T.ah (a26.add (aQ n24 2)) [.int .i64] <| fun (n27:Int) =>
    T.need (fo n24 l18) <|
    T.bF p17 <| fun (a28:Zx) =>
    T.ah ((a28.add (aQ n24 2)).add 1) [.string] <| fun (s29:ZA) =>
    T.bj [(((a28.add (aQ n24 2)).add 1),[.string s29]),((a26.add (aQ n24 2)),[.int .i64 n27])] <|
    T.aE a1 [.int .i64 n25,.int .i64 n27,.string s29] <|
    T.ah a1 [.int .i64,.int .i64,.string] <| fun (n30:Int) (n31:Int) (Rw:ZA) =>
    br #[.pointer none,.agg #[.int .i64 n30,.int .i64 n31,.string Rw]])
    (Ss a1 a7 p21 l22 l23))
def Sg (a1 a7:Zx) (p13 p14:ZC) (l15 l16:Nat) (p17:ZC) (l18 l19:Nat) (n20:Int) (p22:ZC) (l23 l24:Nat) (p25:ZC) (l26 l27:Nat) (p28:ZC) (l29 l30:Nat) (p31:ZC) (l32 l33:Nat):T :=
   T.new [bi,bi,bi,bi] 47 <| fun (a34:Zx) =>
   T.aE a34 [.slice p22 l23 l24,.slice p25 l26 l27,.slice p28 l29 l30,.slice p31 l32 l33] <|
   T.new [bi,bi,bi,bi] 47 <| fun (a35:Zx) =>
   T.ah a34 [.slice 71] <| fun (p36:ZC) (l37:Nat) (l38:Nat) =>
   bK 33 [.pointer (some a7),.int .i64 n20,.slice p36 l37 l38] true [(false,[.slice 71]),(false,[.string]),cg] <| fun (p39:ZC) (l40:Nat) (l41:Nat) (s42:ZA) (b43:Bool) =>
   T.aE a35 [.slice p39 l40 l41] <|
   cond (!b43)
    (T.aE a1 [.int .i64 (23:Int),.int .i64 n20,.string s42] <|
    T.ah a1 [.int .i64,.int .i64,.string] <| fun (n44:Int) (n45:Int) (s46:ZA) =>
    br #[.pointer none,.agg #[.int .i64 n44,.int .i64 n45,.string s46]])
    (T.ah (a34.add 1) [.slice 71] <| fun (p44:ZC) (l45:Nat) (l46:Nat) =>
    bK 33 [.pointer (some a7),.int .i64 n20,.slice p44 l45 l46] true [(false,[.slice 71]),(false,[.string]),cg] <| fun (p47:ZC) (l48:Nat) (l49:Nat) (s50:ZA) (b51:Bool) =>
    T.aE (a35.add 1) [.slice p47 l48 l49] <|
    cond (!b51)
    (T.aE a1 [.int .i64 (23:Int),.int .i64 n20,.string s50] <|
    T.ah a1 [.int .i64,.int .i64,.string] <| fun (n52:Int) (n53:Int) (s54:ZA) =>
    br #[.pointer none,.agg #[.int .i64 n52,.int .i64 n53,.string s54]])
    (T.ah (a34.add 2) [.slice 100] <| fun (p52:ZC) (l53:Nat) (l54:Nat) =>
    S5 a1 a7 n20 p52 l53 p13 p14 l15 l16 p17 l18 l19 fun p55 p56 l57 l58 p59 l60 l61 =>
     (T.ah a7 [.slice 47] <| fun (p63:ZC) (l64:Nat) (l65:Nat) =>
     T.ah a35 [.slice 71,.slice 71,.slice 100,.slice 9] <| fun (p66:ZC) (l67:Nat) (l68:Nat) (p69:ZC) (l70:Nat) (l71:Nat) (p72:ZC) (l73:Nat) (l74:Nat) (p75:ZC) (l76:Nat) (l77:Nat) =>
     bR (Instr.buildSlice 30 1 #[(0,.agg #[.slice p66 l67 l68,.slice p69 l70 l71,.slice p72 l73 l74,.slice p75 l76 l77])]) false [dh] <| fun (p78:ZC) (l79:Nat) (l80:Nat) =>
     T.bj [(a7,[.slice p63 l64 l65])] <|
     bR (Builtin.append_ #[30,30] 30 #[.slice p63 l64 l65,.slice p78 l79 l80]) false [dh] <| fun (p81:ZC) (l82:Nat) (l83:Nat) =>
     T.bj [(a35,[.slice p66 l67 l68,.slice p69 l70 l71,.slice p72 l73 l74,.slice p75 l76 l77])] <|
     T.aE a7 [.slice p81 l82 l83] <|
     T.ah (a7.add 6) [.int .i64] <| fun (n84:Int) =>
     T.ah a34 [.slice 71,.slice 71,.slice 100,.slice 9] <| fun (p85:ZC) (l86:Nat) (l87:Nat) (p88:ZC) (l89:Nat) (l90:Nat) (p91:ZC) (l92:Nat) (l93:Nat) (p94:ZC) (l95:Nat) (l96:Nat) =>
     bK 36 [.agg #[.slice p85 l86 l87,.slice p88 l89 l90,.slice p91 l92 l93,.slice p94 l95 l96]] false [aR] <| fun (n97:Int) =>
     T.bj [((a7.add 6),[.int .i64 n84])] <|
     T.aE (a7.add 6) [.int .i64 (bt (n84+n97))] <|
     T.again 1 [.pointer p55,.slice p56 l57 l58,.slice p59 l60 l61,.int .i64 (bt (n20+(1:Int)))])))
def yR {S:Nat->kb} {k n:Nat} {x:kb} (hk:2*n<=k):mn (kK S k x) n=mn S n:=by
 unfold mn;apply XQ;intro i hi;have hi:i<n:=YM.1 hi;unfold xk kK;rw [W6 ad,W6 ad]
section
variable {h h':Hp} {B N M:Nat} {w:LW} {usl lb:cv} {sp:Int} {S:Nat->kb}
def oq.add (s:oq h B w usl lb sp N M S) (e:Ext h h') (hM:2*N<=M) {x:kb} (hx:mh h' h.size x):oq h' B w usl lb sp N (M+1) (kK S M x):=by
 have s':=s.ext e;exact ⟨s'.box,s'.maps,s'.oC,by rw [yR hM]; exact s'.un,s.wF.add e s.lt hx⟩
end
section
variable {h h':Hp} {B N M:Nat} {w:LW} {usl lb:cv} {sp:Int} {S:Nat->kb}
def oq.EV {x:Nat} {xs:List ZB} (s:oq h B w usl lb sp N M S) (b:bH h x 47 xs) (hx:B+4<=x) (hu:x∉aP usl.p) (k:Ch [x] h h'):oq h' B w usl lb sp N M S:=by
 have hs:∀ {b2 sz:Nat} {e:TypeId} {q:ZC} {m d:Nat} {ys:List (List ZB)},SL h b2 e sz q m d ys->e≠47->SL h' b2 e sz q m d ys:=fun t he=>t.bM k (fun i hi hm=>by
  have:i=x:=by simpa using hm
  subst this;exact AX t b he hi)
 exact ⟨s.box.an k (by simp; omega),s.maps.an k (by simp; omega) (by simp; omega) (by simp; omega),hs s.oC cn,s.un.bM k (fun i hi hm=>by
  have:i=x:=by simpa using hm
  subst this;exact hu hi),⟨fun j hj=>⟨hs (s.wF.sec j hj).out cn,fun u hu=>hs ((s.wF.sec j hj).fm u hu) cn⟩,s.wF.ap⟩⟩
def BT.EV {x b:Nat} {xs:List ZB} {e k:cv} {D:List (ZA × cm)} {ks:List Ky} (s:BT h b e k D ks) (bx:bH h x 47 xs) (c:Ch [x] h h'):BT h' b e k D ks:=by
 have hs:∀ {b2 sz:Nat} {e:TypeId} {q:ZC} {m d:Nat} {ys:List (List ZB)},SL h b2 e sz q m d ys->e≠47->SL h' b2 e sz q m d ys:=fun t he=>t.bM c (fun i hi hm=>by
  have:i=x:=by simpa using hm
  subst this;exact AX t bx he hi)
 obtain ⟨⟨ms,o,hm⟩,y⟩:=s;exact ⟨⟨ms,⟨hs o.out cn,fun m hm=>hs (o.fm m hm) cn,o.ap,o.dj⟩,hm⟩,hs y cn⟩
def BT.rm {b b2 sz:Nat} {q:ZC} {m d:Nat} {ys:List (List ZB)} {e k:cv} {D:List (ZA × cm)} {ks:List Ky} (s:BT h b e k D ks) (t:SL h b2 47 sz q m d ys) (c:Ch (aP q) h h'):BT h' b e k D ks:=by
 obtain ⟨⟨ms,o,hm⟩,y⟩:=s;exact ⟨⟨ms,o.qV t c cn cn,hm⟩,y.bM c (fun i hi hm=>uv t y cn i hm hi)⟩
def BT.Ro {b x : Nat} {e k : cv} {D : List (ZA × cm)} {ks : List Ky} (s : BT h b e k D ks) (hx : x < b) (c : Ch [x] h h') : BT h' b e k D ks := by
  obtain ⟨⟨ms, o, hm⟩, y⟩ := s
  exact ⟨⟨ms, o.an c (fun i hi => by have : i = x := by simpa using hi
                                     omega), hm⟩, y.bM c (fun i hi hm => by
    have : i = x := by simpa using hm
    have := (y.cj hi).1;omega)⟩
end
def Oq {L:Lp} {K:ZB->Hp->Prop} {h0 h:Hp} {A B n:Nat} {w:LW} {usl lb:cv} {sp:Nat} {S:Nat->kb} {u:cd} {ta tb tc td el kl:cv} {D:List (ZA × cm)} {ks:List Ky} {p13:ZC} {I:qb (flat NA)->Nat->Hp->Prop} {m:Nat}
  (hL:2=L.length) (hJ:L[1]?=some (Jl I m)) (pw:fP h0) (tb0:Ar h0) (hA:h0.size<=A) (hAB:A<B) (e0:Ext h0 h) (ba:bH h A 54 [.int .i64 0,.int .i64 0,.string ⟨#[]⟩]) (s:oq h B w usl lb (sp:Int) n (2*n) S) (Jk:Of w) (es0:BT h (B+4) el kl D ks)
  (v:sO h0 ta tb tc td u) (ge:∀ x,x∈cH u->DW x) (hr:eS u=0) (hl1:u.text.length<=2^20) (hl2:u.data.length<=2^20) (hl3:u.bg.length<=2^20) (hD:D.length<=2^20) (hks:ks.length<=2^20) (hn:n<=2^20) (hsp:sp<=2^40)
  (hbad:∀ h' q,Ext h0 h'->qG w n u=some q->K (Hw 23 n q) h')
  (hk:∀ h' el' kl' usl' S',Ext h0 h'->bH h' A 54 [.int .i64 0,.int .i64 0,.string ⟨#[]⟩]->oq h' B w usl' lb ((sp+jH u.text:Nat):Int) (n+1) (2*(n+1)) S'->BT h' (B+4) el' kl' (D++u.bg.map fun e=>(w.word (n,e.1),w.lin n e.2)) (ks++u.bg.map fun e=>(n,e.1)) ->
   qG w n u=none->(∀ k,k<2*n->S' k=S k)->(S' (2*n)).ws.map (·.2)=u.text.map (w.fl n)->(S' (2*n+1)).ws.map (·.2)=u.data.map (w.fl n) ->
   ∃ m',m'<m/\I (p13,(el'.p,el'.l,el'.c),(kl'.p,kl'.l,kl'.c),((n+1:Nat):Int),()) m' h') :
  Sg ⟨A,0,none⟩ ⟨B+3,0,none⟩ p13 el.p el.l el.c kl.p kl.l kl.c (n:Int) ta.p ta.l ta.c tb.p tb.l tb.c tc.p tc.l tc.c td.p td.l td.c L K h:=by
 unfold Sg bK bR bt br bi aR cg dh;have l0:=s.lt;have zA:=e0.size;refine bk ?_;intro h1 b1' e1 z1;refine aw b1' rfl aj ?_;intro h2 b2 k2 z2;have b2:bH h2 h.size 47 [ta.v,tb.v,tc.v,td.v]:=b2;have e02:Ext h h2:=Ch.trans e1 k2 (fun i hi hl=>by simp at hi; omega);refine bk ?_;intro h3 b3 e3 z3;have b23:=b2.an e3 aj;refine af b23 ((ta.p,ta.l,ta.c),()) rfl (ao ?_);have e03:=e02.trans e3;have s3:=s.ext e03;have E3:=e0.trans e03;refine aK (yy (c:=ta.c) (pw.an E3 aj) s3.box s3.maps Jk n (v.an E3).text hl1 (fun x hx=>ge _ (by unfold cH; simp only [List.mem_append]; exact .inl (.inl (Xp hx))))) ?_;rintro _ h4 ⟨e4,hq⟩;have z03:=e03.size;have z4:=e4.size;have q3:=b3.lt;cases hb:w.yc n u.text with
 | some t =>
  rw [hb] at hq;subst hq;refine ⟨((none,0,0),t,false,()),rfl,ao ?_⟩;refine aw (b3.an e4 aj) rfl aj ?_;intro h5 b5 k5 z5;refine bn rfl ?_;have e35:Ext h3 h5\/True:=.inr trivial;have ba5:=((ba.an (e03.trans e4) aj).an k5 (by simp; omega))
  refine aw ba5 rfl aj ?_;intro h6 b6 k6 z6;have b6:bH h6 A 54 [.int .i64 23,.int .i64 (n:Int),.string t]:=b6;refine af b6 ((23:Int),(n:Int),t,()) rfl ?_;refine hbad h6 t ?_ (by unfold qG; rw [hb]; rfl);exact Ch.trans (Ch.trans (E3.trans e4) k5 (fun i hi hl=>by simp at hi; omega)) k6 (fun i hi hl=>by simp at hi; omega)
 | none =>
  rw [hb] at hq;obtain ⟨p4,c4,B4,w4,rfl,lc4,hB4,hw4⟩:=hq;refine ⟨((p4,ta.l,c4),(⟨#[]⟩:ZA),true,()),rfl,ao ?_⟩;refine aw (b3.an e4 aj) rfl aj ?_;intro h5 b5 k5 z5;have b5:bH h5 h2.size 47 [.slice p4 ta.l c4,.slice none 0 0,.slice none 0 0,.slice none 0 0]:=b5;refine bJ rfl ?_;have x4:mh h4 h3.size ⟨⟨p4,ta.l,c4⟩,w4⟩:=⟨lc4.out,fun y hy=>(lc4.fm y hy).mono hB4⟩
  have s4:=s3.add e4 (Xk _) x4;have hu2:h2.size∉aP usl.p:=fun hm=>by have:=(s.un.cj hm).2; have:=e02.size; omega
  have l2:=e02.size;have s5:=s4.EV (b3.an e4 aj) ad hu2 k5;have ba5:=(ba.an (e03.trans e4) aj).an k5 (by simp; omega);have q2:=b2.lt;have b25:=(b23.an e4 aj).an k5 (by simp; omega);have E5:Ext h0 h5:=Ch.trans (E3.trans e4) k5 (fun i hi hl=>by simp at hi; omega);have es5:BT h5 (B+4) el kl D ks:=((es0.ext (e03.trans e4))).EV (b3.an e4 aj) k5;rw [aG];refine af b25 ((tb.p,tb.l,tb.c),()) rfl (ao ?_);refine aK (yy (c:=tb.c) (pw.an E5 aj) s5.box s5.maps Jk n (v.an E5).data hl2 (fun x hx=>ge _ (by unfold cH; simp only [List.mem_append]; exact .inl (.inr (Xp hx))))) ?_;rintro _ h6 ⟨e6,hq⟩;have b56:=b5.an e6 aj;have z6:=e6.size;cases hb2:w.yc n u.data with
  | some t =>
   rw [hb2] at hq;subst hq;refine ⟨((none,0,0),t,false,()),rfl,ao ?_⟩;rw [aG];refine aw b56 rfl aj ?_;intro h7 b7 k7 z7;refine bn rfl ?_;have ba7:=(ba5.an e6 aj).an k7 (by simp; omega);refine aw ba7 rfl aj ?_;intro h8 b8 k8 z8;have b8:bH h8 A 54 [.int .i64 23,.int .i64 (n:Int),.string t]:=b8;refine af b8 ((23:Int),(n:Int),t,()) rfl ?_;refine hbad h8 t ?_ (by unfold qG; rw [hb,hb2]; rfl);exact Ch.trans (Ch.trans (E5.trans e6) k7 (fun i hi hl=>by simp at hi; omega)) k8 (fun i hi hl=>by simp at hi; omega)
  | none =>
   rw [hb2] at hq;obtain ⟨p6,c6,B6,w6,rfl,lc6,hB6,hw6⟩:=hq;refine ⟨((p6,tb.l,c6),(⟨#[]⟩:ZA),true,()),rfl,ao ?_⟩;rw [aG];refine aw b56 rfl aj ?_;intro h7 b7 k7 z7;have b7:bH h7 h2.size 47 [.slice p4 ta.l c4,.slice p6 tb.l c6,.slice none 0 0,.slice none 0 0]:=b7;refine bJ rfl ?_;have x6:mh h6 h5.size ⟨⟨p6,tb.l,c6⟩,w6⟩:=⟨lc6.out,fun y hy=>(lc6.fm y hy).mono hB6⟩
   have s6:=s5.add e6 ad x6;have s7:=s6.EV b56 ad hu2 k7;have es7:=(es5.ext e6).EV b56 k7;have ba7:=(ba5.an e6 aj).an k7 (by simp; omega);have b27:=(b25.an e6 aj).an k7 (by simp; omega);have E7:Ext h0 h7:=Ch.trans (E5.trans e6) k7 (fun i hi hl=>by simp at hi; omega);have R0:=b27;rw [aG];refine af b27 ((tc.p,tc.l,tc.c),()) rfl (ao ?_);refine PK hL pw hA hAB E7 ba7 s7 Jk es7 v.bg (fun e he=>ge _ (by unfold cH; simp only [List.mem_append]; exact .inr (Xp he))) hl3 hD hks (fun h' q e hq=>hbad h' q e (by unfold qG; rw [hb,hb2]; exact hq)) ?_;intro h8 el8 kl8 J E8 ba8 s8 es8 ke8 hb3;have b78:=ke8 _ _ _ cn cn b7;have b28:=ke8 _ _ _ cn cn b27;generalize hS2:kK (kK S (2*n) ⟨⟨p4,ta.l,c4⟩,w4⟩) (2*n+1) ⟨⟨p6,tb.l,c6⟩,w6⟩=S2 at s8;refine af s8.box ((usl.p,usl.l,usl.c),()) rfl (ao ?_);refine af b78 ((p4,ta.l,c4),(p6,tb.l,c6),(none,0,0),(none,0,0),()) rfl (ao ?_);have hul:usl.l=n:=by have:=s.un.1; rwa [js] at this
   have z8':=E8.size;have l8:=s8.lt;refine gI (vs:=[.slice p4 ta.l c4,.slice p6 tb.l c6,.slice none 0 0,.slice none 0 0]) SS Vu rfl ad ad (Ty p4 ta.l c4 p6 tb.l c6 none 0 0 none 0 0) rfl rfl s8.un ad ad ad (fun h' e=>⟨(s8.box.an e aj).cells _ rfl,trivial⟩) ?_;intro p9 c9 h9 s9 k9 hp9;have b79:=b78.an k9 hu2;have hu1:h.size∉aP usl.p:=fun hm=>by have:=(s.un.cj hm).2; omega
   have b29:=b28.an k9 hu1;refine ⟨⟨b79.cells _ rfl,trivial⟩,?_⟩;have hge9:∀ i,i∈aP usl.p->B+4<=i:=fun i hi=>(s8.un.cj hi).1
   have bx9:=s8.box.an k9 (fun hm=>by have:=hge9 _ hm; omega);have ba9:=ba8.an k9 (fun hm=>by have:=hge9 _ hm; omega);have es9:=es8.rm s8.un k9;have E9:Ext h0 h9:=Ch.trans E8 k9 (fun i hi hl=>by have:=hge9 _ hi; omega);have m9:=s8.maps.an k9 (fun hm=>by have:=hge9 _ hm; omega) (fun hm=>by have:=hge9 _ hm; omega) (fun hm=>by have:=hge9 _ hm; omega);have lb9:=s8.oC.bM k9 (fun i hi hm=>uv s8.un s8.oC cn i hm hi);have se9:=s8.wF.qV s8.un k9 cn cn;have z9:=k9.size;refine aw bx9 rfl aj ?_;intro h10 bx10 k10 z10;have bx10:N9 h10 (B+3) ⟨p9,usl.l+1,c9⟩ lb B (B+1) (B+2) (sp:Int):=bx10;have es10:=es9.Ro ad k10;have ba10:=ba9.an k10 (by simp; omega);have m10:=m9.an k10 aj aj aj;have lb10:=lb9.bM k10 (fun i hi=>by have:=(lb9.cj hi).1; simp; omega);have se10:=se9.mv k10 aj;have un10:=s9.bM k10 (fun i hi=>by have:=(s9.cj hi).1; simp; omega);have E10:Ext h0 h10:=Ch.trans E9 k10 (fun i hi hl=>by simp at hi; omega);have b210:=b29.an k10 (by simp; omega);rw [aG];refine af bx10 ((sp:Int),()) rfl (ao ?_);refine af b210 ((ta.p,ta.l,ta.c),(tb.p,tb.l,tb.c),(tc.p,tc.l,tc.c),(td.p,td.l,td.c),()) rfl (ao ?_);refine aK (IV (tb0.an E10 aj) (v.an E10)) ?_;rintro _ h11 ⟨rfl,e11⟩;rw [Xb hr];refine ⟨(((jH u.text:Nat):Int),()),rfl,ao ?_⟩;have bx11:=bx10.an e11 aj;refine ⟨⟨bx11.cells _ rfl,trivial⟩,?_⟩;have hsl:=yN u.text;refine aw bx11 rfl aj ?_;intro h12 bx12 k12 z12;have hw1:IntKind.wrap .i64 ((sp:Int)+((jH u.text:Nat):Int))=((sp+jH u.text:Nat):Int):=by rw [wrap_i64 ad ad]; omega
   rw [hw1] at bx12;have bx12:N9 h12 (B+3) ⟨p9,usl.l+1,c9⟩ lb B (B+1) (B+2) ((sp+jH u.text:Nat):Int):=bx12;have hw:IntKind.wrap .i64 ((n:Int)+1)=((n+1:Nat):Int):=by rw [wrap_i64 ad ad]; omega
   rw [hw];have un11:=un10.an e11 aj;have lb11:=lb10.an e11 aj;obtain ⟨m',hm',hI⟩:=hk h12 el8 kl8 ⟨p9,usl.l+1,c9⟩ S2 (Ch.trans (E10.trans e11) k12 (fun i hi hl=>by simp at hi; omega)) ((ba10.an e11 aj).an k12 (by simp; omega))
    ⟨bx12,(m10.an e11 aj aj aj).an k12 aj aj aj,lb11.bM k12 (fun i hi=>by have:=(lb11.cj hi).1; simp; omega),by
     have:=un11.bM k12 (fun i hi=>by have:=(un11.cj hi).1; simp; omega)
     rw [<- hS2,GH];rw [<- hS2,yR ad,yR ad] at this;exact this,(se10.ext e11).mv k12 aj⟩
    ((es10.ext e11).Ro ad k12) (by unfold qG; rw [hb,hb2]; exact hb3) (fun k hk=>by rw [<- hS2]; unfold kK; rw [W6 ad,W6 ad]) (by rw [<- hS2]; unfold kK; rw [W6 ad,Xb rfl]; exact hw4) (by rw [<- hS2]; unfold kK; rw [Xb rfl]; exact hw6)
   exact aI (cs:=NA) (p13,(el8.p,el8.l,el8.c),(kl8.p,kl8.l,kl8.c),((n+1:Nat):Int),()) m' (by rw [XG ad]; exact hJ) hm' rfl hI
def lI (us:List cd):Nat:=(us.map fun u=>jH u.text).sum
structure LV (x:kb):Prop where
 len:x.ws.length<=2^30
 UF:∀ u,u∈x.ws->u.2.e.ai.length<=2^40
 sz:∀ u,u∈x.ws->∀ t,t∈u.2.e.ai->t.1.size<=maxLen
def Lm (h0:Hp) (us:List cd) (v:ZB) (h':Hp):Prop:=Ext h0 h'/\match lE us with
 | .error f=>v=Hw f.pW f.unit f.name
 | .ok P=>∃ B usl lb S,h0.size<=B/\v=.tuple #[ptr (B+3),.agg #[.int .i64 0,.int .i64 0,.string ⟨#[]⟩]]/\oq h' B P.w usl lb ((lI us:Nat):Int) us.length (2*us.length) S /\
   (∀ n,(hn:n<us.length)->(S (2*n)).ws.map (·.2)=us[n].text.map (P.fl n)/\(S (2*n+1)).ws.map (·.2)=us[n].data.map (P.fl n))/\∀ k,k<2*us.length->LV (S k)
def M0 {ms:List cI} (ok:EqsOk ms) (het:∀ e,e∈ms->e.x.ai.length<=2^20) {x:cm} (hl:x.ai.length<=2^20) (hs:∀ t,t∈x.ai->t.1.size<=maxLen):(db (cr ms) x).ai.length<=2^40/\∀ t,t∈(db (cr ms) x).ai->t.1.size<=maxLen:=by
 have hof:∀ s y,cr ms s=some y->∃ e,e∈ms/\y=e.x:=by
  intro s y hy;unfold cr at hy;split at hy
  ·next ho =>
   obtain ⟨e,he,_,hx⟩:=lF ((ec ms s).1 ho);exact ⟨e,he,by cases hy; exact hx⟩
  ·cases hy
 refine ⟨?_,fun t ht=>?_⟩
 ·have hnf:=eM (cr ms) x;have h1:((db (cr ms) x).ai.map (·.1)).Nodup:=X5.2 (hnf.1.imp fun h=>j7 h);have h2:=kS _ ((x.ai.flatMap (qO (cr ms))).map (·.1)) h1 (fun s hs=>by
   obtain ⟨t,ht,rfl⟩:=Xd.1 hs;obtain ⟨p,hp,e⟩:=Df ht;exact Xd.2 ⟨p,hp,e⟩)
  rw [W3,W3] at h2;have h3:=pz (of:=cr ms) (B:=2^20) cn (fun s y hy=>by
   obtain ⟨e,he,rfl⟩:=hof s y hy;exact het e he) x.ai
  exact XV h2 (XV h3 (XV (Ye _ hl) cn))
 ·rcases rE ht with ⟨p,hp,he,_⟩ | ⟨p,y,u,_,hy,hu,he⟩
  ·rw [<- he]; exact hs p hp
  ·obtain ⟨e,hm,rfl⟩:=hof _ _ hy;rw [<- he]; exact ok.ts e hm u hu
def Vs {x:cm} (g:Good x) (h:x.ai.length<=2^20):DW x :=
 ⟨g.nf,g.num,h,fun t ht=>by
  have:=GC (g.LI t ht)
  have hml:2000<=maxLen:=cn
  omega⟩
def Im.B' {us:List cd} (s:Im us) (r:Fh us) {u:cd} (hu:u∈us) {x:cm} (hx:x∈cH u):DW x :=
 Vs (zV (r.right u hu) (s.num u hu) x hx) (s.len hu hx)
def D2 {us:List cd} (s:Im us) (r:Fh us) {w:LW} (lb:Of w) {u:cd} (hu:u∈us) {n:Nat} (hb:qG w n u=none) {l:List cF} (hl:l=u.text\/l=u.data) {ws:List (cv × cF)} (hw:ws.map (·.2)=l.map (w.fl n)):Ht ws/\ws.length<=2^20:=by
 have hb':=A9 hb;have h2:=(r.bg hu).2;refine ⟨fun y hy=>?_,?_⟩
 ·have h1:y.2∈l.map (w.fl n):=by rw [<- hw]; exact Xp hy
  obtain ⟨x,hx,he⟩:=Xd.1 h1;have hbx:w.bad n x.e=none:=by
   rcases hl with rfl | rfl
   ·exact hb'.1 x hx
   ·exact hb'.2.1 x hx
  have hlx:x.e∈cH u:=by
   unfold cH;simp only [List.mem_append];rcases hl with rfl | rfl
   ·exact .inl (.inl (Xp hx))
   ·exact .inl (.inr (Xp hx))
  have g:=s.B' r hu hlx;have hy:y.2.e=w.lin n x.e:=by rw [<- he]; rfl
  rw [hy];exact ⟨XV (yv hbx) g.len,lB g.num,MO lb hbx⟩
 ·have:=Xj List.length hw
  rw [W3,W3] at this;rcases hl with rfl | rfl <;> omega
def KJ {D:List (ZA × cm)} {es:List cI} (h:es.map fe=D) {i:Nat} (hi:i<es.length) (h1:j6 (dl es) es[i].name) (h2:∀ j,(hj:j<i)->¬ j6 (dl es) es[j].name):mF D=some i:=by
 classical
 have he:dl (eY D)=dl es:=Ao (by rw [oT,h]);have hl:D.length=es.length:=by rw [<- h,W3]
 have hn:∀ j,(hj:j<es.length)->(D[j]'ad).1=es[j].name:=by
  intro j hj;subst h;rw [Xc] <;> rfl
 unfold mF;rw [Xt];refine ⟨ad,?_,fun j hj=>?_⟩
 ·refine W9 ?_;rw [he,hn i hi];exact h1
 ·intro hd;have hd:=W2 hd;rw [he,hn j ad] at hd;exact h2 j hj hd
def Kr {D:List (ZA × cm)} {es:List cI} (h:es.map fe=D) (h2:∀ v,¬ j6 (dl es) v):mF D=none:=by
 have he:dl (eY D)=dl es:=Ao (by rw [oT,h]);unfold mF;rw [XL];intro x hx;rw [decide_eq_false_iff_not,he];exact h2 _
def Ms {D:List (ZA × cm)} {es ms:List cI} (h:es.map fe=D) (hm:ms.map (fun m=>(m.name,m.x))=es.map (fun e=>(e.name,eO es e.name))):cr ms=cr (eY (ma D)):=by
 refine EQ ?_;rw [oT];show ms.map (fun m=>(m.name,m.x))=_;rw [hm];unfold ma;have hs:eO (eY D)=eO es:=H' (by rw [oT,h]);rw [hs,<- h,Xv] <;> rfl
def OL {J0 J1:List ZB->Hp->Prop} {h0 h:Hp} {A B:Nat} {w:LW} {usl lb:cv} {S:Nat->kb} {us:List cd} {el kl:cv}
  (hA:h0.size<=A) (hAB:A<B) (e0:Ext h0 h) (ba:bH h A 54 [.int .i64 0,.int .i64 0,.string ⟨#[]⟩]) (s:oq h B w usl lb ((lI us:Nat):Int) us.length (2*us.length) S)
  (es0:BT h (B+4) el kl (uS w us) ((ef 0 us).map jD)) (r:Fh us) (sm:Im us) (i0:WI w (bY 0 us) ((ef 0 us).map jD)) (hb:fJ w 0 us=none)
  (hS:∀ n,(hn:n<us.length)->(S (2*n)).ws.map (·.2)=us[n].text.map (w.fl n)/\(S (2*n+1)).ws.map (·.2)=us[n].data.map (w.fl n))
  (hlp:lE us=match mF (uS w us) with
    | some i=>.error ⟨24,((ef 0 us).map fun q=>(q.1,q.2.1)).getD i (0,dF) |>.1,((ef 0 us).map fun q=>(q.1,q.2.1)).getD i (0,dF) |>.2⟩
    | none=>.ok ⟨w,us,uS w us⟩) :
  Tx ⟨A,0,none⟩ ⟨B+3,0,none⟩ el.p el.l el.c kl.p kl.l kl.c [J0,J1] (Lm h0 us) h:=by
 unfold Tx aQ bK fo br aR;obtain ⟨⟨es,o,hes⟩,y⟩:=es0;have eo:=R9 r sm i0 hb hes;have hl:es.length=(ef 0 us).length:=by
  have:=Xj List.length hes
  unfold uS at this;simpa using this
 have hl2:=r.eqs;refine aK (EE (c:=el.c) (B3 o) eo (fun i hi=>(o.out.cj hi).2) ad) ?_;rintro _ h1 ⟨hq,e1⟩;rcases hq with ⟨i,hi,hon,hmin,rfl⟩ | ⟨hno,p',l',c',ms,rfl,oms,hms⟩
 ·refine ⟨((none,0,0),(i:Int),(24:Int),()),rfl,ao ?_⟩;refine bn rfl ?_;have y1:=y.an e1 aj;have hkl:kl.l=(ef 0 us).length:=by have:=y.1; rwa [W3,W3] at this
  have hik:i<(ef 0 us).length:=ad
  obtain ⟨a,ha,hc⟩:=y1.cells (i:=i) (by rw [W3,W3]; exact hik);rw [Xc,Xc] at hc;generalize hq:(ef 0 us)[i]=q at hc;have hc:aJ h1 (a.add (i*2)) 0 [.int .i64 (q.1:Int),.string q.2.1]:=hc;refine ay ⟨ad,ad⟩ (ax ha ?_);rw [show Int.toNat (i:Int)=i from ad];refine aC ((q.1:Int),()) (eE 1 _ 0 hc) (ao ?_);refine ay ⟨ad,ad⟩ (ax ha ?_);have hc1:aJ h1 ((a.add (i*2)).add 1) 0 [.string q.2.1]:=iP _ 1 0 (gy 1 _ 0 hc);refine aC (q.2.1,()) hc1 (ao ?_);refine ⟨⟨hc1,eE 1 _ 0 hc,trivial⟩,?_⟩;refine aw (ba.an e1 aj) rfl aj ?_;intro h2 b2 k2 z2;have b2:bH h2 A 54 [.int .i64 24,.int .i64 (q.1:Int),.string q.2.1]:=b2;refine af b2 ((24:Int),(q.1:Int),q.2.1,()) rfl ?_;refine ⟨Ch.trans (e0.trans e1) k2 (fun i hi hl=>by simp at hi; omega),?_⟩;rw [hlp,KJ hes hi hon hmin];have hg:((ef 0 us).map fun q=>(q.1,q.2.1)).getD i (0,dF)=(q.1,q.2.1):=by
   rw [XT,XO,W5 hik,hq] <;> rfl
  simp only [hg] <;> rfl
 ·refine ⟨((p',l',c'),(0:Int),(0:Int),()),rfl,ao ?_⟩;refine bJ rfl ?_;obtain ⟨k1,k2,k3,k4⟩:=JZ eo hno hms ad;have hmany:=r.many;have hput:∀ j,j<2*us.length->Ht (S j).ws/\(S j).ws.length<=2^20:=by
   intro j hj;have hn:j / 2<us.length:=ad
   have hbn:=lQ us 0 hb (j / 2) hn;rw [XK] at hbn;have hSn:=hS (j / 2) hn
   by_cases h2:j % 2=0
   ·have:j=2*(j / 2):=ad
    rw [this];exact D2 sm r (r.Jk i0) (Xe hn) hbn (.inl rfl) hSn.1
   ·have:j=2*(j / 2)+1:=ad
    rw [this];exact D2 sm r (r.Jk i0) (Xe hn) hbn (.inr rfl) hSn.2
  refine Py hA hAB (e0.trans e1) (ba.an e1 aj) (s.ext e1) ⟨oms,k1,k2,k3,k4⟩ ad hput ?_
  ·intro h' S' E' s' d;refine ⟨E',?_⟩;rw [hlp,Kr hes hno];refine ⟨B,usl,lb,S',ad,rfl,s',fun n hn=>?_,fun k hk=>?_⟩
   rotate_left
   ·have hd:=(d k).2;rw [Xb hk] at hd;obtain ⟨q1,q2⟩:=hput k hk;have hlen:(S' k).ws.length=(S k).ws.length:=by
     have:=Xj List.length hd
     rwa [W3,W3] at this
    have hmem:∀ u,u∈(S' k).ws->∃ v,v∈(S k).ws/\u.2=qn (cr ms) v.2:=by
     intro u hu;have h1:u.2∈(S k).ws.map (fun u=>qn (cr ms) u.2):=by rw [<- hd]; exact Xp hu
     obtain ⟨v,hv,he⟩:=Xd.1 h1;exact ⟨v,hv,he.symm⟩
    refine ⟨ad,fun u hu=>?_,fun u hu=>?_⟩
    ·obtain ⟨v,hv,he⟩:=hmem u hu;rw [he];exact (M0 k1 k2 (q1 v hv).1 (q1 v hv).2.2).1
    ·obtain ⟨v,hv,he⟩:=hmem u hu;rw [he];exact (M0 k1 k2 (q1 v hv).1 (q1 v hv).2.2).2
   have hSn:=hS n hn;have hlo:=Ms hes hms;have hd:∀ (k:Nat) (l:List cF),k<2*us.length->(S k).ws.map (·.2)=l.map (w.fl n)->(S' k).ws.map (·.2)=l.map ((⟨w,us,uS w us⟩:LP).fl n):=by
    intro k l hk hl
    have:=(d k).2
    rw [Xb hk] at this;rw [this,show (S k).ws.map (fun u=>qn (cr ms) u.2)=((S k).ws.map (·.2)).map (qn (cr ms)) by rw [Xv]; rfl,hl,Xv,hlo] <;> rfl
   exact ⟨hd _ _ ad hSn.1,hd _ _ ad hSn.2⟩
def Vm (a1 a7:Zx) (p2 pp00:ZC) (ll00 cc00:Nat):T :=
   (T.loop [(false,[.pointer 0]),dh,dh,aR] [.pointer p2,bi,bi,.int .i64 (0:Int)] <| fun (p13:ZC) (p14:ZC) (l15:Nat) (l16:Nat) (p17:ZC) (l18:Nat) (l19:Nat) (n20:Int) =>
   bG n20 ll00
   (T.need (fo n20 ll00) <|
   T.bF pp00 <| fun (a21:Zx) =>
   T.ah (a21.add (aQ n20 4)) [.slice 71,.slice 71,.slice 100,.slice 9] <| fun (p22:ZC) (l23:Nat) (l24:Nat) (p25:ZC) (l26:Nat) (l27:Nat) (p28:ZC) (l29:Nat) (l30:Nat) (p31:ZC) (l32:Nat) (l33:Nat) =>
   Sg a1 a7 p13 p14 l15 l16 p17 l18 l19 n20 p22 l23 l24 p25 l26 l27 p28 l29 l30 p31 l32 l33)
   (Tx a1 a7 p14 l15 l16 p17 l18 l19))
def ML (w:LW) (us:List cd) (u:cd):uS w (us++[u])=uS w us++u.bg.map fun e=>(w.word (us.length,e.1),w.lin us.length e.2):=by
 unfold uS;rw [qF,Xf,Xv,XK] <;> rfl
def JE (us:List cd) (u:cd):(ef 0 (us++[u])).map jD=(ef 0 us).map jD++u.bg.map fun e=>(us.length,e.1):=by
 rw [qF,Xf,Xv,XK] <;> rfl
def Gt (us:List cd) (u:cd):lI (us++[u])=lI us+jH u.text:=by
 unfold lI
 simp
theorem Fc:∀ us:List cd,lI us<=tZ us
 | []=>by simp [lI,tZ]
 | u::us=>by
  have h1:=Fc us;have h2:=yN u.text;unfold lI tZ at *;simp only [List.map_cons,List.sum_cons];omega
def Gj (us:List cd) (n:Nat):lI (us.take n)<=lI us:=by
 have h:us=us.take n++us.drop n:=(XN n us).symm
 conv=>rhs; rw [h]
 unfold lI;rw [Xf,List.sum_append];omega
def LG (us:List cd) (n:Nat):(ef 0 (us.take n)).length<=(ef 0 us).length:=by
 have e:∀ (a b:List cd) (k:Nat),ef k (a++b)=ef k a++ef (k+a.length) b:=by
  intro a
  induction a with
  | nil=>intro b k; simp [ef]
  | cons x a ih =>
   intro b k;rw [YK,ef,ef,ih,Xs,XP,show k+1+a.length=k+(a.length+1) from ad]
 have h:=e (us.take n) (us.drop n) 0;rw [XN] at h;rw [h,W8];omega
def OH {J0:List ZB->Hp->Prop} {h0 h:Hp} {A B:Nat} {w:LW} {lb:cv} {us:List cd} {pp:ZC} {ll cc:Nat}
  (pw:fP h0) (tb0:Ar h0) (hA:h0.size<=A) (hAB:A<B) (e0:Ext h0 h) (ba:bH h A 54 [.int .i64 0,.int .i64 0,.string ⟨#[]⟩]) (s:Dp h B lX lb 0 w)
  (v:xX h0 pp ll us) (r:Fh us) (sm:Im us) (i0:WI w (bY 0 us) ((ef 0 us).map jD))
  (hlp:lE us=match fJ w 0 us with
   | some q=>.error ⟨23,q.1,q.2⟩
   | none=>match mF (uS w us) with
    | some i=>.error ⟨24,((ef 0 us).map fun q=>(q.1,q.2.1)).getD i (0,dF) |>.1,((ef 0 us).map fun q=>(q.1,q.2.1)).getD i (0,dF) |>.2⟩
    | none=>.ok ⟨w,us,uS w us⟩) :
  Vm ⟨A,0,none⟩ ⟨B+3,0,none⟩ none pp ll cc [J0] (Lm h0 us) h:=by
 unfold Vm bG aQ fo bi aR dh;have hll:=v.len;have hmany:=r.many;have hlwb:=r.Jk i0;have s0:oq h B w lX lb ((0:Nat):Int) 0 (2*0) (fun _=>UY):=⟨s.box,s.maps,s.oC,SL.nil _ _ _ _,kQ.nil _ _ _⟩
 refine aU (cs:=NA) (fun y m' h'=>∃ (n:Nat) (usl el kl:cv) (S:Nat->kb),y.1=none/\y.2.1=(el.p,el.l,el.c)/\y.2.2.1=(kl.p,kl.l,kl.c)/\y.2.2.2.1=(n:Int)/\n<=us.length/\m'=us.length-n/\Ext h0 h'/\bH h' A 54 [.int .i64 0,.int .i64 0,.string ⟨#[]⟩]/\oq h' B w usl lb ((lI (us.take n):Nat):Int) n (2*n) S /\
   BT h' (B+4) el kl (uS w (us.take n)) ((ef 0 (us.take n)).map jD)/\fJ w 0 us=fJ w n (us.drop n)/\∀ j,(hj:j<n)->(hx:j<us.length)->(S (2*j)).ws.map (·.2)=us[j].text.map (w.fl j)/\(S (2*j+1)).ws.map (·.2)=us[j].data.map (w.fl j))
  (none,(none,0,0),(none,0,0),(0:Int),()) us.length rfl
  ⟨0,lX,lX,lX,fun _=>UY,rfl,rfl,rfl,rfl,ad,ad,e0,ba,by simpa [lI] using s0,⟨⟨[],⟨SL.nil _ _ _ _,aj,List.Pairwise.nil,aj⟩,rfl⟩,SL.nil _ _ _ _⟩,rfl,by intro j hj; omega⟩ ?_
 clear e0 ba s s0;rintro ⟨p13,⟨p14,l15,l16⟩,⟨p17,l18,l19⟩,n20,⟨⟩⟩ m' h1 ⟨n,usl,el,kl,S,hy1,hy2,hy3,hy4,hnl,rfl,e1,ba,s,es1,hM,hS⟩;simp only [Prod.mk.injEq] at hy1 hy2 hy3 hy4;obtain ⟨rfl,rfl,rfl⟩:=hy2;obtain ⟨rfl,rfl,rfl⟩:=hy3;subst hy1 hy4;refine ao ?_;refine ak (fun q=>?_) (fun q=>?_)
 ·have q:=W2 q;have hlt:n<us.length:=ad
  obtain ⟨a,ta,tb,tc,td,ha,hc,hu⟩:=v.cells n hlt;have hmem:=Xe hlt;have htk:us.take (n+1)=us.take n++[us[n]]:=W7 hlt;have htl:(us.take n).length=n:=by rw [Xr]; omega
  rw [zJ w us n hlt] at hM;have hre:=r.bg hmem;have hrr:=r.right _ hmem;have hgood:=fun x hx=>sm.B' r hmem (x:=x) hx
  have hsu:=Gj us n;have hsu2:=Fc us;have hit:=sm.items;have hek:=LG us n;have hek2:=r.eqs;generalize hux:us[n]=u at hc hu htk hM hre hrr hgood;refine ay ⟨ad,ad⟩ (ax ha ?_);rw [show Int.toNat (n:Int)=n from ad];refine aC ((ta.p,ta.l,ta.c),(tb.p,tb.l,tb.c),(tc.p,tc.l,tc.c),(td.p,td.l,td.c),()) (aX e1 aj _ _ hc) (ao ?_);refine Oq rfl rfl pw tb0 hA hAB e1 ba s hlwb es1 hu hgood hrr ad ad ad (by unfold uS; rw [W3]; omega) (by rw [W3]; omega) ad ad ?_ ?_
  ·intro h' q E hq;refine ⟨E,?_⟩;rw [hq] at hM;rw [hlp,hM]
  ·intro h' el' kl' usl' S' E ba' s' es' hb hold h1 h2;rw [hb] at hM;refine ⟨us.length-(n+1),ad,n+1,usl',el',kl',S',rfl,rfl,rfl,rfl,ad,rfl,E,ba',?_,?_,hM,fun j hj hx=>?_⟩
   ·rw [htk,Gt];exact s'
   ·rw [htk,ML,JE,htl];exact es'
   ·by_cases hjn:j=n
    ·subst hjn;rw [hux];exact ⟨h1,h2⟩
    ·rw [hold _ ad,hold _ ad];exact hS j ad hx
 ·have q:=W4 q;have hn:n=us.length:=ad
  subst hn;rw [Ys (Xk _)] at hM;rw [XD (Xk _)] at s es1;have hM:fJ w 0 us=none:=hM;rw [hM] at hlp;exact OL hA hAB e1 ba s es1 r sm i0 hM (fun n hn=>hS n hn hn) hlp
def PC {h:Hp} (pw:fP h) (tb0:Ar h) {p:ZC} {l c:Nat} {us:List cd} (v:xX h p l us) (sm:Im us):HC Tryz.prog 18 #[.slice p l c] h (Lm h us):=by
 refine bd (args:=[.slice p l c]) mixed Tryz.func18 az (yW p l c) ?_;unfold xN bf bh bG aQ cD gF bK bm bR bt aH br bi bT aR cg dh;have hll:=v.len;have hmany:=v.many;refine bk ?_;intro h1 b1 e1 z1;refine ak (fun q=>?_) (fun q=>?_)
 ·have q:l=0:=by
   have:=W2 q
   omega
  refine aw b1 rfl aj ?_;intro h2 b2 k2 z2;have b2:bH h2 h.size 54 [.int .i64 25,.int .i64 0,.string ⟨#[]⟩]:=b2;refine af b2 ((25:Int),(0:Int),(⟨#[]⟩:ZA),()) rfl ?_;refine ⟨Ch.trans e1 k2 (fun i hi hl=>by simp at hi; omega),?_⟩;unfold lE;rw [Xb ad] <;> rfl
 have hl0:¬ us.length=0:=by
  have:=W4 q
  omega
 refine ak (fun q=>?_) (fun q=>?_)
 ·have q:=W2 q;refine aw b1 rfl aj ?_;intro h2 b2 k2 z2;have b2:bH h2 h.size 54 [.int .i64 4,.int .i64 0,.string ⟨#[]⟩]:=b2;refine af b2 ((4:Int),(0:Int),(⟨#[]⟩:ZA),()) rfl ?_;refine ⟨Ch.trans e1 k2 (fun i hi hl=>by simp at hi; omega),?_⟩;unfold lE;rw [W6 hl0,Xb ad] <;> rfl
 have hl64:¬ 64<us.length:=by
  have:=W4 q
  omega
 have hlp1:∀ n,us.findIdx? (fun u=>decide (eS u≠0))=some n->lE us=.error ⟨31,n,dF⟩:=by
  intro n hn;unfold lE;rw [W6 hl0,W6 hl64,hn]
 refine aU (cs:=[(false,[.pointer 0]),(false,[.int .i64])]) (fun y m' h'=>∃ n:Nat,y.1=none/\y.2.1=(n:Int)/\n<=us.length/\m'=us.length-n/\Ext h h'/\bH h' h.size 54 [.int .i64 0,.int .i64 0,.string ⟨#[]⟩]/\∀ j,(hj:j<n)->(hx:j<us.length)->eS us[j]=0) (none,(0:Int),()) us.length rfl
  ⟨0,rfl,rfl,ad,ad,e1,b1,by intro j hj; omega⟩ ?_
 clear e1 b1;rintro ⟨p2,n3,⟨⟩⟩ m' h2 ⟨n,hy1,hy2,hnl,rfl,e2,b2,hok⟩;simp only at hy1 hy2;subst hy1 hy2;refine ao ?_;refine ak (fun q=>?_) (fun q=>?_)
 ·have q:=W2 q;have hlt:n<us.length:=ad
  obtain ⟨a,ta,tb,tc,td,ha,hc,hu⟩:=v.cells n hlt;refine ay ⟨ad,ad⟩ (ax ha ?_);rw [show Int.toNat (n:Int)=n from ad];refine aC ((ta.p,ta.l,ta.c),(tb.p,tb.l,tb.c),(tc.p,tc.l,tc.c),(td.p,td.l,td.c),()) (aX e2 aj _ _ hc) (ao ?_);refine bk ?_;intro h3 b3' e3 z3;refine aw b3' rfl aj ?_;intro h4 b4 k4 z4;have b4:bH h4 h2.size 47 [ta.v,tb.v,tc.v,td.v]:=b4;have e24:Ext h2 h4:=Ch.trans e3 k4 (fun i hi hl=>by simp at hi; omega);have e04:=e2.trans e24;refine af b4 ((ta.p,ta.l,ta.c),(tb.p,tb.l,tb.c),(tc.p,tc.l,tc.c),(td.p,td.l,td.c),()) rfl (ao ?_);refine aK (uV (tb0.an e04 aj) (hu.an e04)) ?_;rintro _ h5 ⟨rfl,e5⟩;refine ⟨(((eS us[n]:Nat):Int),()),rfl,ao ?_⟩;have b5:=b2.an (e24.trans e5) aj;have e05:=e04.trans e5;refine ak (fun q=>?_) (fun q=>?_)
  ·have hne:eS us[n]≠0:=by
    intro h0;rw [h0] at q;exact absurd q cn
   refine aw b5 rfl aj ?_;intro h6 b6 k6 z6;have b6:bH h6 h.size 54 [.int .i64 31,.int .i64 (n:Int),.string ⟨#[]⟩]:=b6;refine af b6 ((31:Int),(n:Int),(⟨#[]⟩:ZA),()) rfl ?_;refine ⟨Ch.trans e05 k6 (fun i hi hl=>by simp at hi; omega),?_⟩;rw [hlp1 n (by
    rw [Xt];exact ⟨hlt,W9 hne,fun j hj=>by rw [hok j hj ad]; decide⟩)]
   rfl
  ·have hz:eS us[n]=0:=by
    have hb:(((eS us[n]:Nat):Int) != 0)=false:=q
    by_cases h0:eS us[n]=0
    ·exact h0
    ·have:(((eS us[n]:Nat):Int) != 0)=true:=by
      rw [bne_iff_ne];omega
     rw [this] at hb;cases hb
   have hw:IntKind.wrap .i64 ((n:Int)+1)=((n+1:Nat):Int):=by rw [wrap_i64 ad ad]; omega
   rw [hw];refine aI (cs:=[(false,[.pointer 0]),(false,[.int .i64])]) (none,((n+1:Nat):Int),()) (us.length-(n+1)) rfl ad rfl ⟨n+1,rfl,rfl,ad,rfl,e05,b5,fun j hj hx=>?_⟩
   by_cases hjn:j=n
   ·subst hjn; exact hz
   ·exact hok j ad hx
 ·have q:=W4 q;have hn:n=us.length:=ad
  subst hn;have r:Fh us:=⟨fun u hu=>by
   obtain ⟨j,hj,rfl⟩:=Xw hu;exact hok j hj hj,ad⟩
  have hfi:us.findIdx? (fun u=>decide (eS u≠0))=none:=by
   rw [XL];intro u hu;rw [r.right u hu];decide
  have q2:=b2.lt;refine K5 (kv:=Og) (en:=eI) ?_;intro h3 m3 e3 z3;refine K5 (kv:=Og) (en:=eI) ?_;intro h4 m4 e4 z4;refine xR (en:=eI) ?_;intro h5 m5 e5 z5;refine bk ?_;intro h6 b6 e6 z6;have e26:=((e3.trans e4).trans e5).trans e6;have z4':h4.size=h2.size+2:=ad
  have z5':h5.size=h2.size+3:=ad
  rw [z3] at m4;rw [z4'] at m5;rw [z5',z3,z4'] at b6;rw [z5'];have p6:Dp h6 h2.size lX lX 0 QY:=⟨b6,⟨((m3.an e4 aj).an e5 aj).an e6 aj,(m4.an e5 aj).an e6 aj,m5.an e6 aj⟩,SL.nil _ _ _ _⟩
  have v2:=v.an e2;have hit:=sm.items;refine aK (FY (c:=c) rfl e26 p6 v2 (by show 0+tZ us<=_; omega) ad rfl) ?_;rintro _ h7 ⟨rfl,lb7,p7,e7⟩;refine ⟨(),rfl,ao ?_⟩;refine aK (IK (c:=c) rfl e7 p7 v2 ad) ?_;rintro _ h8 ⟨e8,hq⟩;have b28:=b2.an e8 aj;have z8:=e8.size;have w0:=Q3 r.right;cases hM:kq 0 us (mJ 0 us QY) with
  | error q =>
   rw [hM] at hq;subst hq;refine ⟨((22:Int),(q.1:Int),q.2,true,()),rfl,ao ?_⟩;refine bk ?_;intro h9 b9' e9 z9;refine aw b9' rfl aj ?_;intro h10 b10 k10 z10;have b10:bH h10 h8.size 54 [.int .i64 22,.int .i64 (q.1:Int),.string q.2]:=b10;have e810:Ext h8 h10:=Ch.trans e9 k10 (fun i hi hl=>by simp at hi; omega);refine bn rfl ?_;refine af b10 ((22:Int),(q.1:Int),q.2,()) rfl ?_;refine ⟨⟨b10.cells _ rfl,trivial⟩,?_⟩;refine aw (b28.an e810 aj) rfl aj ?_;intro h11 b11 k11 z11;have b11:bH h11 h.size 54 [.int .i64 22,.int .i64 (q.1:Int),.string q.2]:=b11;refine af b11 ((22:Int),(q.1:Int),q.2,()) rfl ?_;refine ⟨Ch.trans ((e2.trans e8).trans e810) k11 (fun i hi hl=>by simp at hi; omega),?_⟩;unfold lE;rw [W6 hl0,W6 hl64,hfi];simp only [hM] <;> rfl
  | ok w =>
   rw [hM] at hq;obtain ⟨rfl,p8⟩:=hq;refine ⟨((0:Int),(0:Int),(⟨#[]⟩:ZA),false,()),rfl,ao ?_⟩;refine bk ?_;intro h9 b9' e9 z9;refine aw b9' rfl aj ?_;intro h10 b10 k10 z10;have e810:Ext h8 h10:=Ch.trans e9 k10 (fun i hi hl=>by simp at hi; omega);refine bJ rfl ?_;have e010:=(e2.trans e8).trans e810;refine OH (cc:=c) pw tb0 (Xk _) q2 e010 (b28.an e810 aj) (p8.an e810) v r sm (w0.meet hM) ?_;unfold lE;rw [W6 hl0,W6 hl64,hfi];simp only [hM];cases fJ w 0 us with
   | some q=>rfl
   | none =>
    cases mF (uS w us) with
    | some i=>rfl
    | none=>rfl
structure Gm (h:Hp) (b:Nat) (s:cv) (ws:List (cv × cF)):Prop where
 out:SL h b 71 10 s.p s.l s.c (ws.map sK)
 fm:∀ u,u∈ws->SL h b 117 2 u.1.p u.1.l u.1.c (u.2.e.ai.map dc)
def Gm.vd {h:Hp} {b:Nat} {s:cv} {ws:List (cv × cF)} (o:Gm h b s ws):TD h s.p s.l ws :=
 ⟨by have:=o.out.1; rwa [W3] at this,fun i hi=>by
  obtain ⟨a,ha,hc⟩:=o.out.cells (i:=i) (by simpa using hi);rw [Xc] at hc;exact ⟨a,ha,hc⟩⟩
def V2 (p15:ZC) (l16 l17:Nat):T :=
   T.loop [aR] [.int .i64 (0:Int)] <| fun (n18:Int) =>
   bG n18 l16
    (T.need (fo n18 l16) <|
    T.bF p15 <| fun (a19:Zx) =>
    T.ah ((a19.add (aQ n18 10)).add 7) [.slice 117] <| fun (p20:ZC) (l21:Nat) (l22:Nat) =>
    bK 42 [.slice p20 l21 l22] false [(false,[.slice 117])] <| fun (p23:ZC) (l24:Nat) (l25:Nat) =>
    T.need (fo n18 l16) <|
    T.bF p15 <| fun (a26:Zx) =>
    T.aE ((a26.add (aQ n18 10)).add 7) [.slice p23 l24 l25] <|
    T.again 0 [.int .i64 (bt (n18+(1:Int)))])
    (T.ret (.slice p15 l16 l17))
def wa (h:Hp) (us:List cF) (v:ZB) (h':Hp):Prop:=Ext h h'/\∃ s ws,v=cv.v s/\Gm h' h.size s ws/\ws.map (·.2)=us
def RT {h0 h:Hp} {b0:Nat} {s:cv} {ws:List (cv × cF)} (e0:Ext h0 h) (o:SL h h0.size 71 10 s.p s.l s.c (ws.map sK)) (hin:∀ u,u∈ws->SL h0 b0 117 2 u.1.p u.1.l u.1.c (u.2.e.ai.map dc)) (hl:ws.length<=2^30) (ht:∀ u,u∈ws->u.2.e.ai.length<=2^40) :
  V2 s.p s.l s.c [] (wa h0 (ws.map (·.2))) h:=by
 unfold V2 bG aQ bK bt fo aR;have hsl:s.l=ws.length:=by have:=o.1; rwa [W3] at this
 have z0:=e0.size
 refine aU (cs:=[(false,[.int .i64])]) (fun y m' h'=>∃ (i:Nat) (vs:List (cv × cF)),y.1=(i:Int)/\i<=ws.length/\m'=ws.length-i/\Ext h0 h'/\SL h' h0.size 71 10 s.p s.l s.c (vs.map sK)/\vs.length=ws.length /\
   ∀ m,(hm:m<ws.length)->(hm':m<vs.length)->vs[m].2=ws[m].2/\if m<i then SL h' h0.size 117 2 vs[m].1.p vs[m].1.l vs[m].1.c (vs[m].2.e.ai.map dc) else vs[m]=ws[m]) ((0:Int),()) ws.length rfl
  ⟨0,ws,rfl,ad,ad,e0,o,rfl,fun m hm hm'=>⟨rfl,by rw [W6 ad]⟩⟩ ?_
 clear e0 o z0;rintro ⟨n18,⟨⟩⟩ m' h1 ⟨i,vs,hi,hil,rfl,e1,o,hvl,dZ⟩;simp only at hi;subst hi;refine ao ?_;have z1:=e1.size;refine ak (fun q=>?_) (fun q=>?_)
 ·have q:=W2 q;have hlt:i<ws.length:=ad
  have hlt':i<vs.length:=ad
  have hi:=(dZ i hlt hlt').2;rw [W6 ad] at hi;obtain ⟨a,ha,hc⟩:=o.cells (i:=i) (by simpa using hlt');rw [Xc,hi] at hc;have hin:=hin ws[i] (Xe hlt);have ht:=ht ws[i] (Xe hlt);generalize hu:ws[i]=u at hin hc ht;refine ay ⟨ad,ad⟩ (ax ha ?_);rw [show Int.toNat (i:Int)=i from ad];refine aC ((u.1.p,u.1.l,u.1.c),()) (eE 1 [_,_,_] 0 (iP _ 7 0 (gy 7 _ 0 hc))) (ao ?_);refine aK (FA (c:=u.1.c) (vO (hin.an e1 aj)) ht) ?_;rintro _ h2 ⟨⟨p',l',c',rfl,s2⟩,e2⟩;refine ⟨((p',l',c'),()),rfl,ao ?_⟩;refine ay ⟨ad,ad⟩ (ax ha ?_);have o2:=o.an e2 aj;refine SL.part (P:=Tryz.prog) o2 (i:=i) (by rw [W3]; exact hlt') (o:=7) aj (by simp [cX]) ha ?_;intro h3 o3 k3 z3;have hnew:(vs.map sK).set i (la ((vs.map sK)[i]'(by rw [W3]; exact hlt')) 7 [.slice p' l' c'])=(vs.set i (⟨p',l',c'⟩,u.2)).map sK:=by
   rw [Y0,Xc,hi,hu] <;> rfl
  rw [hnew] at o3;have hw:IntKind.wrap .i64 ((i:Int)+1)=((i+1:Nat):Int):=by rw [wrap_i64 ad ad]; omega
  rw [hw];refine aI (cs:=[(false,[.int .i64])]) (((i+1:Nat):Int),()) (ws.length-(i+1)) rfl ad rfl ?_;refine ⟨i+1,_,rfl,ad,rfl,Ch.trans (e1.trans e2) k3 (fun j hj hl=>by have:=(o2.cj hj).1; omega),o3,by rw [X8]; exact hvl,fun m hm hm'=>?_⟩
  by_cases hmi:m=i
  ·subst hmi;rw [Xb ad,List.getElem_set_self,hu];exact ⟨rfl,(s2.bM k3 (fun j hj hm=>uv o2 s2 cn j hm hj)).mono z1⟩
  ·have hm2:m<vs.length:=ad
   have:=dZ m hm hm2
   rw [List.getElem_set_ne (Ne.symm hmi)];refine ⟨this.1,?_⟩;have this:=this.2
   by_cases hlt2:m<i
   ·rw [Xb hlt2] at this;rw [Xb ad]
    have:=this.an e2 aj
    exact this.bM k3 (fun j hj hm=>uv o2 this cn j hm hj)
   ·rw [W6 hlt2] at this;rw [W6 ad];exact this
 ·have q:=W4 q;have hi:i=ws.length:=ad
  subst hi;refine ⟨e1,s,vs,rfl,⟨o,fun u hu=>?_⟩,?_⟩
  ·obtain ⟨m,hm,rfl⟩:=Xw hu
   have:=(dZ m ad hm).2
   rwa [Xb ad] at this
  ·refine Zc (by rw [W3,W3]; exact hvl) fun m hm1 hm2=>?_
   rw [W3] at hm1 hm2;rw [Xc,Xc];exact (dZ m hm2 hm1).1
section
variable {h:Hp} {B N M:Nat} {w:LW} {usl lb:cv} {sp:Int} {S:Nat->kb}
def K0 (s:oq h B w usl lb sp N M S):vz Tryz.prog 21 [ptr (B+3)] h (.int .i64 (N:Int)):=by
 refine et mixed Tryz.func21 az (mT (some ⟨B+3,0,none⟩)) ?_;unfold iX;refine ax rfl ?_;refine af s.box ((usl.p,usl.l,usl.c),()) rfl ?_;have hul:usl.l=N:=by have:=s.un.1; rwa [js] at this
 exact ⟨by rw [<- hul],rfl⟩
def sR (S:Nat->kb) (N:Nat) (n k:Int):List cF:=if 0<=n/\n<N/\(k=0\/k=1) then (S (2*n.toNat+k.toNat)).ws.map (·.2) else []
def oN (h:Hp):wa h [] (.slice none 0 0) h:=⟨Ch.refl _ _,lX,[],rfl,⟨SL.nil _ _ _ _,aj⟩,rfl⟩
def K1 (s:oq h B w usl lb sp N M S) (hM:2*N<=M) (hN:N<=2^30) (hs:∀ k,k<2*N->(S k).ws.length<=2^30/\∀ u,u∈(S k).ws->u.2.e.ai.length<=2^40) (n k:Int) (hn:-9223372036854775808<=n/\n<=9223372036854775807) :
  HC Tryz.prog 22 #[ptr (B+3),.int .i64 n,.int .i64 k] h (wa h (sR S N n k)):=by
 refine bd (args:=[ptr (B+3),.int .i64 n,.int .i64 k]) mixed Tryz.func22 az (mG (some ⟨B+3,0,none⟩) n k) ?_;unfold iZ bf bh bG aQ bK bi aR;have hul:usl.l=N:=by have:=s.un.1; rwa [js] at this
 have hno:¬ (0<=n/\n<N/\(k=0\/k=1))->sR S N n k=[]:=fun h=>by unfold sR; rw [W6 h]
 refine ak (fun q=>?_) (fun q=>?_)
 ·have q:=W2 q;rw [hno ad];exact oN h
 have q1:=W4 q;refine ax rfl ?_;refine af s.box ((usl.p,usl.l,usl.c),()) rfl (ao ?_);refine ak (fun q=>?_) (fun q=>?_)
 ·have q:=W2 q;rw [hno ad];exact oN h
 have q2:=W4 q;refine ak (fun q=>?_) (fun q=>?_)
 ·have q:=W2 q;rw [hno ad];exact oN h
 have q3:=W4 q;refine ak (fun q=>?_) (fun q=>?_)
 ·have q:=W2 q;rw [hno ad];exact oN h
 have q4:=W4 q;have hlt:n.toNat<N:=ad
 obtain ⟨a,ha,hc⟩:=s.un.cells (i:=n.toNat) (by rw [js]; exact hlt);rw [BO] at hc;generalize hn':n.toNat=m at hc hlt;have hsec:∀ j,j<2->∃ ta:cv,ta=(S (2*m+j)).s/\TD h ta.p ta.l (S (2*m+j)).ws:=by
  intro j hj;have hs:=s.wF.sec (2*m+j) ad;exact ⟨_,rfl,Gm.vd (b:=B+4) ⟨hs.out,hs.fm⟩⟩
 have hit:k=0\/k=1->sR S N n k=(S (2*m+k.toNat)).ws.map (·.2):=fun hk=>by
  unfold sR;rw [Xb ⟨ad,ad,hk⟩,hn']
 refine ax rfl ?_;refine af s.box ((usl.p,usl.l,usl.c),()) rfl (ao ?_);refine ay ⟨ad,ad⟩ (ax ha ?_);obtain ⟨ta,hta,va⟩:=hsec 0 ad;obtain ⟨tb,htb,vb⟩:=hsec 1 ad;have hc:aJ h (a.add (m*4)) 0 [ta.v,tb.v,lX.v,lX.v]:=by rw [hta,htb]; exact hc
 refine aC ((ta.p,ta.l,ta.c),()) (eE 1 _ 0 hc) (ao ?_);have fin:∀ (j:Nat) (t:cv),j<2->t=(S (2*m+j)).s->TD h t.p t.l (S (2*m+j)).ws->(T.call Tryz.prog 41 [.slice t.p t.l t.c] false [(false,[.slice 71])] fun p l c=>V2 p l c) [] (wa h ((S (2*m+j)).ws.map (·.2))) h:=by
  intro j t hj ht vt;have hsz:=hs (2*m+j) ad;have se:=s.wF.sec (2*m+j) ad;refine aK (BR (c:=t.c) vt hsz.1) ?_;rintro _ h1 ⟨⟨p',c',rfl,s1⟩,e1⟩;refine ⟨((p',t.l,c'),()),rfl,ao ?_⟩;exact RT (s:=⟨p',t.l,c'⟩) e1 s1 se.fm hsz.1 hsz.2
 refine ak (fun q=>?_) (fun q=>?_)
 ·have hk:k=1:=by simpa using q
  rw [hit (.inr hk),hk];refine ax rfl ?_;refine af s.box ((usl.p,usl.l,usl.c),()) rfl (ao ?_);refine ay ⟨ad,ad⟩ (ax ha ?_);refine aC ((tb.p,tb.l,tb.c),()) (eE 1 [_,_,_] 0 (iP _ 1 0 (gy 1 _ 0 hc))) (ao ?_);exact fin 1 tb ad htb vb
 ·have hk:k=0:=by
   have:¬ k=1:=by
    intro h;rw [h] at q;exact absurd q cn
   omega
  rw [hit (.inl hk),hk];exact fin 0 ta ad hta va
def Sz {h:Hp} {b:Nat} {e:TypeId} {sz:Nat} {p:ZC} {l c:Nat} {xs:List (List ZB)} (s:SL h b e sz p l c xs):(p=none/\xs=[])\/∃ a,p=some a/\aJ h a 0 xs.flatten:=by
 cases p with
 | none=>exact .inl ⟨rfl,s.2.2.2⟩
 | some a =>
  refine .inr ⟨a,rfl,?_⟩
  have:=fM (h:=h) (a:=a) (sz:=sz) xs 0 s.2.1 (fun i hi=>by
   obtain ⟨a',ha,hc⟩:=s.cells hi;cases ha;rw [XK];exact hc)
  rwa [Za] at this
def GQ (ls:List Lb):(ls.map zZ).flatten.all cX=true:=by
 rw [XA];intro v hv;obtain ⟨x,hx,hv⟩:=YX.1 hv;obtain ⟨t,_,rfl⟩:=Xd.1 hx;simp only [zZ,List.mem_cons,List.not_mem_nil,or_false] at hv;rcases hv with rfl | rfl | rfl | rfl <;> rfl
def IY (ls:List Lb):∀ y,y∈ls.map zZ->y.length=4:=by
 intro y hy;obtain ⟨u,_,rfl⟩:=Xd.1 hy;rfl
def Js {h:Hp} {b:Nat} {p:ZC} {l c:Nat} {ls:List Lb} (s:SL h b 112 4 p l c (ls.map zZ)) (hl:ls.length<=2^30) :
  HC Tryz.prog 68 #[.slice p l c] h fun w h'=>(∃ p' c',w=.slice p' l c'/\SL h' h.size 112 4 p' l c' (ls.map zZ))/\Ext h h':=by
 refine bd (args:=[.slice p l c]) mixed Tryz.func68 az (fk p l c) ?_;unfold dz bm bi;have hll:l=ls.length:=by have:=s.1; rwa [W3] at this
 cases p with
 | none =>
  refine bn rfl ?_;have h2:ls=[]:=by simpa using s.2.2.2
  subst h2;subst hll;exact ⟨⟨none,0,rfl,SL.nil _ _ _ _⟩,Ch.refl _ _⟩
 | some a =>
  refine bJ rfl ?_;refine lM (e:=112) (z:=.agg #[.int .i64 0,.int .i64 0,.int .i64 0,.string ⟨#[]⟩]) (sz:=4) (by':=40) Q6 Uc rfl (Sz s) (by simpa using hll) (IY ls) (GQ ls) ad ad ?_;intro p' c' h' s' e';exact ⟨⟨p',c',rfl,s'⟩,e'⟩
def rS (s:oq h B w usl lb sp N M S) (hl:w.lb.length<=2^30):HC Tryz.prog 39 #[ptr (B+3)] h fun v h'=>Ext h h'/\∃ p l c,v=.slice p l c/\SL h' h.size 112 4 p l c (w.lb.map zZ):=by
 refine bd (args:=[ptr (B+3)]) mixed Tryz.func39 az (lW (some ⟨B+3,0,none⟩)) ?_;unfold iw bK;refine ax rfl ?_;rw [aG];refine af s.box ((lb.p,lb.l,lb.c),()) rfl (ao ?_);refine aK (Js (c:=lb.c) s.oC hl) ?_;rintro _ h1 ⟨⟨p',c',rfl,s1⟩,e1⟩;exact ⟨((p',lb.l,c'),()),rfl,e1,p',lb.l,c',rfl,s1⟩
end
def RL:ZB:=.tuple #[.pointer none,.pointer none,.bool false,.bool true]
def NE (us:List cd) (P:LP) (F:cd->List cF) (tw:List (cv × List (cv × cF))):Prop :=
 tw.length=us.length/\∀ n u x,us[n]?=some u->tw[n]?=some x->x.2.map (·.2)=(F u).map (P.fl n)
structure Ve (h0 h':Hp) (us:List cd) (su:cv) (P:LP) (B:Nat) (usl lb:cv) (S:Nat->kb) (g b':Nat) (lb2 st sd:cv) (tw dw:List (cv × List (cv × cF))):Prop where
 le:h0.size<=B
 pg:oq h' B P.w usl lb ((lI us:Nat):Int) us.length (2*us.length) S
 PP:∀ n,(hn:n<us.length)->(S (2*n)).ws.map (·.2)=us[n].text.map (P.fl n)/\(S (2*n+1)).ws.map (·.2)=us[n].data.map (P.fl n)
 sz:∀ k,k<2*us.length->LV (S k)
 pr:Di h' g su lb2 st sd (bY 0 us)
 tx:uo h' b' st tw
 dx:uo h' b' sd dw
 ti:NE us P (·.text) tw
 di:NE us P (·.data) dw
def Wn (h0:Hp) (us:List cd) (su:cv) (v:ZB) (h':Hp):Prop:=Ext h0 h' /\
 if sQ us=true then v=RL else match lE us with
 | .error _=>v=RL
 | .ok P=>∃ B usl lb S g b' lb2 st sd tw dw,v=.tuple #[ptr (B+3),ptr g,.bool true,.bool true]/\Ve h0 h' us su P B usl lb S g b' lb2 st sd tw dw
def M1 {us:List cd} {P:LP} (a1:NT us (.ok P)) (sm:Im us) {ms:List cI} (hm:ms.map fe=(dR us (bY 0 us) us).map fun y=>(y.1,eO (eY (dR us (bY 0 us) us)) y.1)) {F:cd->List cF} (hF:∀ u x,x∈F u->x.e∈cH u)
  {tw:List (cv × List (cv × cF))} (t:xT us (bY 0 us) ms F us.length tw):NE us P F tw:=by
 obtain ⟨z1,l1,u1,d1,A1,b1,c1,f1⟩:=a1;refine ⟨t.1,fun n u x hu hx=>?_⟩;rw [t.2 n u x hu hx];refine XQ fun y hy=>?_
 have hn:=(Xn.1 hu).1;have hyl:=hF u y hy;have hbad:P.w.bad n y.e=none:=by
  have h1:=lQ us 0 b1 n hn;rw [XK,(Xn.1 hu).2,wz,X6] at h1;exact h1 _ hyl
 have e1:=A1.put b1 c1 hn hbad (sm.num u (XU hu) _ hyl).1 hm;unfold LP.fl vU;rw [d1,e1]
def TZ {h:Hp} (pw:fP h) (tb0:Ar h) {su:cv} {us:List cd} (v:xX h su.p su.l us) (sm:Im us):HC Tryz.prog 12 #[.slice su.p su.l su.c] h (Wn h us su):=by
 refine bd (args:=[.slice su.p su.l su.c]) mixed Tryz.func12 az (rh su.p su.l su.c) ?_;unfold mj aT bK br bT;refine aM (KB (c:=su.c) v) ?_;refine ak (fun q=>?_) (fun q=>?_)
 ·refine ⟨Ch.refl _ _,?_⟩;rw [Xb q] <;> rfl
 ·have hq:∀ (w:ZB) (h':Hp),(Ext h h'/\match lE us with
    | .error _=>w=RL
    | .ok P=>∃ B usl lb S g b' lb2 st sd tw dw,w=.tuple #[ptr (B+3),ptr g,.bool true,.bool true]/\Ve h h' us su P B usl lb S g b' lb2 st sd tw dw)->Wn h us su w h':=by
   intro w h' hh;refine ⟨hh.1,?_⟩;rw [W6 (by rw [q]; simp)];exact hh.2
  have ag:=zC sm.num;refine aK (PC (c:=su.c) pw tb0 v sm) ?_;rintro _ h1 ⟨e1,hl⟩;have v1:=v.an e1;cases hlp:lE us with
  | error f =>
   rw [hlp] at hl ag hq;have hl:_=Hw f.pW f.unit f.name:=hl;subst hl;obtain ⟨hne,ha⟩:=ag;refine ⟨(none,(f.pW:Int),(f.unit:Int),f.name,()),rfl,ao ?_⟩;refine bk ?_;intro h2 b2 e2 z2;refine aw b2 rfl aj ?_;intro h3 b3 k3 z3;have b3:bH h3 h1.size 54 [.int .i64 (f.pW:Int),.int .i64 (f.unit:Int),.string f.name]:=b3;have e13:Ext h1 h3:=Ch.trans e2 k3 (fun i hi hx=>by simp at hi; omega);have hC:(fw us).pW=0->Ma us (PN us):=by
    intro hz;rcases ha with ha | ⟨_,⟨h64,w,A,hb⟩,_⟩
    ·rw [ha] at hz;exact absurd hz hne
    ·exact EH sm h64 A hb
   refine aK (AV (v1.an e13) hC) ?_;rintro w4 h4 ⟨e4,hr⟩;have hw:w4=Value.tuple #[.pointer none,N' f]:=by
    unfold BP at hr;rcases ha with ha | ⟨hz,_,i,x,hx,hi,rfl⟩
    ·rw [Xb (by rw [ha]; exact hne),ha] at hr;exact hr
    ·rw [W6 ad] at hr;rcases hr with ⟨i',x',hx',hi',hw⟩ | ⟨_,_,_,_,_,_,_,_,hx',_⟩
     ·rw [hx] at hx';cases hx';rw [hi] at hi';cases hi';exact hw
     ·rw [hx] at hx';cases hx'
   subst hw;refine ⟨(none,(f.pW:Int),(f.unit:Int),f.name,()),rfl,ao ?_⟩;refine bk ?_;intro h5 b5 e5 z5;refine aw b5 rfl aj ?_;intro h6 b6 k6 z6;have b6:bH h6 h4.size 75 [.int .i64 (f.pW:Int),.int .i64 (f.unit:Int),.string f.name]:=b6;have e46:Ext h4 h6:=Ch.trans e5 k6 (fun i hi hx=>by simp at hi; omega);have b36:=b3.an (e4.trans e46) aj;have e06:=((e1.trans e13).trans e4).trans e46;refine af b36 ((f.pW:Int),()) rfl (ao ?_);refine af b6 ((f.pW:Int),()) rfl (ao ?_);refine bn aj ?_;rw [aG,aG];refine af b36 ((f.unit:Int),()) rfl (ao ?_);refine af b6 ((f.unit:Int),()) rfl (ao ?_);refine bn aj ?_;rw [aG,aG];refine af b36 (f.name,()) rfl (ao ?_);refine af b6 (f.name,()) rfl (ao ?_);refine bn aj ?_;refine af b6 ((f.pW:Int),()) rfl (ao ?_);have hz:((f.pW:Int)==(0:Int))=false:=by
    have:¬ (f.pW:Int)=0:=ad
    simpa using this
   rw [hz];refine bn rfl ?_;exact hq _ _ ⟨e06,rfl⟩
  | ok P =>
   rw [hlp] at hl ag hq;obtain ⟨B,usl,lb,S,hB,hv,pg,PP,hz⟩:=hl;subst hv;have ag':=ag;obtain ⟨z1,h64,u1,d1,A1,b1,c1,f1⟩:=ag;refine ⟨(some ⟨B+3,0,none⟩,(0:Int),(0:Int),(⟨#[]⟩:ZA),()),rfl,ao ?_⟩;refine bk ?_;intro h2 b2 e2 z2;refine aw b2 rfl aj ?_;intro h3 b3 k3 z3;have b3:bH h3 h1.size 54 [.int .i64 0,.int .i64 0,.string ⟨#[]⟩]:=b3;have e13:Ext h1 h3:=Ch.trans e2 k3 (fun i hi hx=>by simp at hi; omega);refine aK (AV (v1.an e13) (fun _=>EH sm h64 A1 b1)) ?_;rintro _ h4 ⟨e4,hr⟩;unfold BP at hr;rw [W6 ad] at hr;rcases hr with ⟨i',x',hx',_⟩ | ⟨g,b',lb2,st,sd,tw,dw,ms,_,hw,hms,pr,tx,dx,ti,di⟩
   ·rw [f1] at hx';cases hx'
   subst hw;refine ⟨(some ⟨g,0,none⟩,(0:Int),(0:Int),(⟨#[]⟩:ZA),()),rfl,ao ?_⟩;refine bk ?_;intro h5 b5 e5 z5;refine aw b5 rfl aj ?_;intro h6 b6 k6 z6;have b6:bH h6 h4.size 75 [.int .i64 0,.int .i64 0,.string ⟨#[]⟩]:=b6;have e46:Ext h4 h6:=Ch.trans e5 k6 (fun i hi hx=>by simp at hi; omega);have b36:=b3.an (e4.trans e46) aj;have e16:=(e13.trans e4).trans e46;refine af b36 ((0:Int),()) rfl (ao ?_);refine af b6 ((0:Int),()) rfl (ao ?_);refine bn rfl ?_;rw [aG,aG];refine af b36 ((0:Int),()) rfl (ao ?_);refine af b6 ((0:Int),()) rfl (ao ?_);refine bn rfl ?_;rw [aG,aG];refine af b36 ((⟨#[]⟩:ZA),()) rfl (ao ?_);refine af b6 ((⟨#[]⟩:ZA),()) rfl (ao ?_);refine bn aj ?_;refine af b6 ((0:Int),()) rfl (ao ?_);refine bn rfl ?_;refine hq _ _ ⟨e1.trans e16,B,usl,lb,S,g,b',lb2,st,sd,tw,dw,rfl,hB,pg.ext e16,PP,hz,pr.an e46,tx.ext e46,dx.ext e46,?_,?_⟩
   ·exact M1 ag' sm hms (fun u x hx=>Xy _ (Xy _ (Xp hx))) ti
   ·exact M1 ag' sm hms (fun u x hx=>Xy _ (XF _ (Xp hx))) di
end Go.Sx.Lk
namespace Go.Sx.Pn
open Go.Proofs Go.Sx.Ob Go.Sx.Lk
variable {ga:Nat} {pv:ZB}
structure GO (h:Hp) (p:ZC) (l:Nat) (rs:List Int):Prop where
 len:l=rs.length
 many:rs.length<=2^60
 cells:∀ i,(hi:i<rs.length)->∃ a,p=some a/\aJ h (a.add (i*1)) 0 [.int .i64 rs[i]]
def GO.an {h h':Hp} {p:ZC} {l:Nat} {rs:List Int} (v:GO h p l rs) (e:Ext h h'):GO h' p l rs :=
 ⟨v.len,v.many,fun i hi=>by
  obtain ⟨a,ha,hc⟩:=v.cells i hi;exact ⟨a,ha,aX e aj _ _ hc⟩⟩
def yM {h:Hp} {p:ZC} {l c:Nat} {rs:List Int} (v:GO h p l rs) (n:Int):HC Tryz.prog 43 #[.slice p l c,.int .i64 n] h fun w h'=>h'=h/\∃ m:Int,w=.int .i64 m/\(0<=m↔n∈rs):=by
 refine bd (args:=[.slice p l c,.int .i64 n]) mixed Tryz.func43 az (ka p l c n) ?_;unfold gf bf bh bG aQ aR;have hl:=v.len;have hm:=v.many;refine aU (cs:=[(false,[.int .i64]),(false,[.int .i64])]) (fun y k h'=>∃ i:Nat,y.2.1=(i:Int)/\k=rs.length-i/\i<=rs.length/\h'=h/\n∉rs.take i) ((0:Int),(0:Int),()) rs.length rfl ⟨0,rfl,rfl,ad,rfl,aj⟩ ?_;rintro ⟨n2,n3,⟨⟩⟩ k h1 ⟨i,hi,rfl,hle,rfl,hn⟩;simp only at hi;subst hi;refine ao ?_;refine ak (fun q=>?_) (fun q=>?_)
 ·have q:=W2 q;have hlt:i<rs.length:=ad
  obtain ⟨a,ha,hc⟩:=v.cells i hlt;refine ay ⟨ad,ad⟩ (ax ha ?_);rw [show Int.toNat (i:Int)=i from ad];refine aC (rs[i],()) hc (ao ?_);refine ak (fun r=>?_) (fun r=>?_)
  ·refine ⟨rfl,(i:Int),rfl,fun _=>?_,fun _=>ad⟩;rw [eq_of_beq r];exact Xe hlt
  ·have hw:IntKind.wrap .i64 ((i:Int)+1)=((i+1:Nat):Int):=by rw [wrap_i64 ad ad]; omega
   refine aI (cs:=[(false,[.int .i64]),(false,[.int .i64])]) (n2,((i+1:Nat):Int),()) (rs.length-(i+1)) rfl ad (Xj (fun z=>[Value.int .i64 n2,Value.int .i64 z]) hw) ⟨i+1,rfl,rfl,ad,rfl,fun hm=>?_⟩;rw [W7 hlt] at hm;rcases Xl.1 hm with hm | hm
   ·exact hn hm
   ·rw [Xm.1 hm] at r;simp at r
 ·have q:=W4 q;refine ⟨rfl,(-1:Int),rfl,fun h=>ad,fun hm=>absurd hm ?_⟩
  rwa [XD ad] at hn
def DG {h:Hp} {p:ZC} {l c:Nat} {rs:List Int} (v:GO h p l rs) (n:Int):vz Tryz.prog 23 [.slice p l c,.int .i64 n] h (.bool (decide (n∈rs))):=by
 refine et mixed Tryz.func23 az (iS p l c n) ?_;unfold fz cD;refine aK (yM v n) ?_;rintro _ h1 ⟨rfl,m,rfl,hm⟩;refine ⟨(m,()),rfl,ao ?_⟩;refine ⟨Xj Value.bool ?_,rfl⟩
 by_cases hr:n∈rs
 ·rw [W9 hr,W9 (hm.2 hr)]
 ·rw [Xa hr,Xa (fun hh=>hr (hm.1 hh))]
def wL (n:Nat):ZA:=⟨#[76]⟩++kF n
def Kd:List Lb->Nat->List (ZA × ZB)->List (ZA × ZB)
 | [],_,D=>D
 | y::ls,n,D=>Kd ls (n+1) (je D (wL n) (.bool ((y.s:Int)==0)))
def AI (D:List (ZA × ZB)):Prop:=∀ p,p∈D->∃ b,p.2=.bool b
def gB (D:List (ZA × ZB)) (s:ZA):Bool:=match look D s with
 | some (.bool b)=>b
 | _=>false
def Qb {D:List (ZA × ZB)} (a:AI D) (s:ZA):(look D s).getD (.bool false)=.bool (gB D s):=by
 unfold gB;cases hl:look D s with
 | none=>rfl
 | some v =>
  unfold look at hl;obtain ⟨p,hp,rfl⟩:=YI.1 hl;obtain ⟨b,hb⟩:=a p (List.mem_of_find?_eq_some hp);rw [hb]; rfl
def KV {D:List (ZA × ZB)} (a:AI D) (s:ZA) (b:Bool):AI (je D s (.bool b)):=by
 intro p hp;unfold je at hp;split at hp
 ·obtain ⟨q,hq,rfl⟩:=Xd.1 hp;split
  ·exact ⟨b,rfl⟩
  ·exact a q hq
 ·rcases Xl.1 hp with hp | hp
  ·exact a p hp
  ·rw [Xm.1 hp]; exact ⟨b,rfl⟩
theorem Fy:∀ (ls:List Lb) (n:Nat) (D:List (ZA × ZB)),AI D->AI (Kd ls n D)
 | [],_,_,a=>a
 | y::ls,n,D,a=>Fy ls (n+1) _ (KV a _ _)
theorem Fx:∀ (ls:List Lb) (y:Lb) (n:Nat) (D:List (ZA × ZB)),Kd (ls++[y]) n D=je (Kd ls n D) (wL (n+ls.length)) (.bool ((y.s:Int)==0))
 | [],y,n,D=>rfl
 | z::ls,y,n,D=>by
  rw [YK,Kd,Fx ls y (n+1),Kd,XP,Nat.add_assoc,Nat.add_comm 1]
def Q9:Tryz.prog.underlying 58=some (.map 9 4):=az
def QM:Tryz.prog.underlying 9=some .string:=az
def UP:(Tryz.prog.info? 4).bind (·.zero)=some (.bool false):=az
def DB {L:Lp} {K:ZB->Hp->Prop} {h:Hp} {g:Nat} {D:List (ZA × ZB)} (m:dT h g D) (a:AI D) (s:ZA) {k:Bool->T} (hk:k (gB D s) L K h):T.ek Tryz.prog (Instr.lookup 58 (.map (some g)) (.string s) false) false [(false,[.bool])] k L K h:=by
 refine hZ Q9 QM UP m s false _ ?_;refine ⟨(gB D s,()),?_,hk⟩;simp only [Bool.false_eq_true,if_false];rw [Qb a] <;> rfl
def PB {h:Hp} {g:Nat} {D:List (ZA × ZB)} (m:dT h g D) (a:AI D) (b:bH h ga 60 [pv,.map (some g)]) (s:ZA) (n:Int):HC Tryz.prog 47 #[.agg #[.string s,.int .u32 n],.pointer (some ⟨ga,0,none⟩)] h fun w h'=>w=.bool (gB D s)/\Ext h h':=by
 refine bd (args:=[.agg #[.string s,.int .u32 n],.pointer (some ⟨ga,0,none⟩)]) mixed Tryz.func47 az (iQ s n ⟨ga,0,none⟩) ?_;unfold fy dr aH;refine bk ?_;intro h1 b1 e1 z1;rw [aG];refine aC (some g,()) ((b.an e1 aj).cells _ rfl) (ao ?_);refine af b1 (s,()) rfl (ao ?_);refine DB (m.an e1 aj) a s ?_;exact ⟨rfl,e1⟩
def Ju {h:Hp} {g:Nat} {D:List (ZA × ZB)} (m:dT h g D) (a:AI D) (b:bH h ga 60 [pv,.map (some g)]) {p:ZC} {l c:Nat} {ts:da} (v:gK h p l ts) (hm:ts.length<=2^60) :
  HC Tryz.prog 70 #[.slice p l c,.func (.func 47) #[] #[.pointer (some ⟨ga,0,none⟩)]] h fun w h'=>Ext h h'/\∃ m:Int,w=.int .i64 m/\(0<=m↔ts.any (fun t=>gB D t.1)=true):=by
 refine bd (args:=[.slice p l c,.func (.func 47) #[] #[.pointer (some ⟨ga,0,none⟩)]]) mixed Tryz.func70 az (eF p l c ⟨ga,0,none⟩) ?_;unfold df bf bh bG aQ aH aR cg;have hl:=v.1;refine aU (cs:=[(false,[.int .i64]),(false,[.int .i64])]) (fun y k h'=>∃ i:Nat,y.2.1=(i:Int)/\k=ts.length-i/\i<=ts.length/\Ext h h'/\(ts.take i).any (fun t=>gB D t.1)=false) ((0:Int),(0:Int),()) ts.length rfl ⟨0,rfl,rfl,ad,Ch.refl _ _,aj⟩ ?_;rintro ⟨n1,n2,⟨⟩⟩ k h1 ⟨i,hi,rfl,hle,e1,hn⟩;simp only at hi;subst hi;refine ao ?_;refine ak (fun q=>?_) (fun q=>?_)
 ·have q:=W2 q;have hlt:i<ts.length:=ad
  obtain ⟨aa,ha,hc⟩:=v.2 i hlt;have htk:ts.take (i+1)=ts.take i++[ts[i]]:=W7 hlt;refine ay ⟨ad,ad⟩ (ax ha ?_);rw [show Int.toNat (i:Int)=i from ad];refine aC (ts[i].1,(ts[i].2:Int),()) (aX e1 aj _ _ hc) (ao ?_);refine qL (cap:=[.pointer (some ⟨ga,0,none⟩)]) az rfl (PB (m.an e1 aj) a (b.an e1 aj) ts[i].1 (ts[i].2:Int)) ?_;rintro _ h2 ⟨rfl,e2⟩;refine ⟨(gB D ts[i].1,()),rfl,ao ?_⟩;refine ak (fun r=>?_) (fun r=>?_)
  ·refine ⟨e1.trans e2,(i:Int),rfl,fun _=>Yt.2 ⟨ts[i],Xe hlt,r⟩,fun _=>ad⟩
  ·have hw:IntKind.wrap .i64 ((i:Int)+1)=((i+1:Nat):Int):=by rw [wrap_i64 ad ad]; omega
   refine aI (cs:=[(false,[.int .i64]),(false,[.int .i64])]) (n1,((i+1:Nat):Int),()) (ts.length-(i+1)) rfl ad (Xj (fun z=>[Value.int .i64 n1,Value.int .i64 z]) hw) ⟨i+1,rfl,rfl,ad,e1.trans e2,?_⟩;rw [htk,Ze,hn];simpa using r
 ·have q:=W4 q;refine ⟨e1,(-1:Int),rfl,fun h=>ad,fun hm=>?_⟩;rw [XD ad] at hn;rw [hn] at hm;cases hm
def CF {h:Hp} {g:Nat} {D:List (ZA × ZB)} (m:dT h g D) (a:AI D) (b:bH h ga 60 [pv,.map (some g)]) {p:ZC} {l c:Nat} {ts:da} (v:gK h p l ts) (hm:ts.length<=2^60) :
  HC Tryz.prog 46 #[.slice p l c,.func (.func 47) #[] #[.pointer (some ⟨ga,0,none⟩)]] h fun w h'=>w=.bool (ts.any fun t=>gB D t.1)/\Ext h h':=by
 refine bd (args:=[.slice p l c,.func (.func 47) #[] #[.pointer (some ⟨ga,0,none⟩)]]) mixed Tryz.func46 az (eh p l c ⟨ga,0,none⟩) ?_;unfold cY cD;refine aK (Ju m a b v hm) ?_;rintro _ h1 ⟨e1,k,rfl,hk⟩;refine ⟨(k,()),rfl,ao ?_⟩;refine ⟨Xj Value.bool ?_,e1⟩;rw [YS,<- hk]
 simp
def zx (nm:Nat->ZA) (h:Hp):Prop:=∃ by_ e f,h[0]?=some (.cells (iT nm by_).toArray e f)
def zx.an {nm:Nat->ZA} {ws:List Nat} {h h':Hp} (t:zx nm h) (k:Ch ws h h') (hw:0∉ws):zx nm h':=by
 obtain ⟨by_,e,f,ht⟩:=t;exact ⟨by_,e,f,k.get ht hw⟩
def zx.Sf {nm:Nat->ZA} {h:Hp} (t:zx nm h):Ar h:=by
 obtain ⟨by_,e,f,ht⟩:=t;exact ⟨nm,by_,e,f,ht⟩
def zx.cells {nm:Nat->ZA} {h:Hp} (t:zx nm h) {k:Nat} (hk:k<43):∃ b:Int,aJ h ((⟨0,0,none⟩:Zx).add (k*3)) 0 [.string (nm k),.int .u8 b,.int .i64 (jG.getD k 0:Nat)]:=by
 obtain ⟨by_,e,f,ht⟩:=t;refine ⟨by_ k,?_⟩;have hg:∀ j,j<3->(iT nm by_)[k*3+j]?=([.string (nm k),.int .u8 (by_ k),.int .i64 (jG.getD k 0:Nat)]:List ZB)[j]?:=by
  intro j hj;unfold iT;rw [qZ _ 3 aj _ _ _ hj];simp [hk]
 rw [aG];refine ⟨?_,?_,?_,trivial⟩
 ·rw [aG,jI ht]
  have:=hg 0 ad
  simpa using this
 ·rw [aG,jI ht]
  have:=hg 1 ad
  simpa using this
 ·rw [aG,jI ht]
  have:=hg 2 ad
  simpa using this
def Od (nm:Nat->ZA) (op:Int):ZA:=if cP op=0 then ⟨#[]⟩ else nm (op-1).toNat
def SQ {nm:Nat->ZA} {h:Hp} (t:zx nm h) (op:Int) (h1:-9223372036854775808<=op) (h2:op<=9223372036854775807) :
  HC Tryz.prog 44 #[.int .i64 op] h fun w h'=>∃ b:Int,w=.tuple #[.agg #[.string (Od nm op),.int .u8 b,.int .i64 (cP op:Nat)],.bool (decide (cP op≠0))]/\Ext h h':=by
 refine bd (args:=[.int .i64 op]) mixed Tryz.func44 az (xP op) ?_;unfold yT bt br bT;refine bk ?_;intro g1 b1 e1 z1;have hz:∀ (hh:cP op=0),(∃ b:Int,(Value.tuple #[.agg #[.string ⟨#[]⟩,.int .u8 0,.int .i64 0],.bool false])=.tuple #[.agg #[.string (Od nm op),.int .u8 b,.int .i64 (cP op:Nat)],.bool (decide (cP op≠0))]) :=
  fun hh=>⟨0,by unfold Od; rw [Xb hh,hh]; rfl⟩
 refine ak (fun q=>?_) (fun q=>?_)
 ·have q:=W2 q;refine aw b1 rfl aj ?_;intro g2 b2 k2 z2;refine af b2 ((⟨#[]⟩:ZA),(0:Int),(0:Int),()) rfl ?_;obtain ⟨b,e⟩:=hz (by unfold cP; rw [Xb q]);exact ⟨b,e,Ch.trans e1 k2 (fun i hi hl=>by simp at hi; omega)⟩
 refine ak (fun r=>?_) (fun r=>?_)
 ·have r:=W2 r;refine aw b1 rfl aj ?_;intro g2 b2 k2 z2;refine af b2 ((⟨#[]⟩:ZA),(0:Int),(0:Int),()) rfl ?_;obtain ⟨b,e⟩:=hz (by
   by_cases g:cP op=0
   ·exact g
   ·have:=CB op g
    omega)
  exact ⟨b,e,Ch.trans e1 k2 (fun i hi hl=>by simp at hi; omega)⟩
 ·have q:=W4 q;have r:=W4 r;rw [wrap_i64 ad ad];refine ay ⟨ad,ad⟩ ?_;obtain ⟨b,hc⟩:=(t.an e1 aj).cells (k:=(op-1).toNat) ad;refine aC (nm (op-1).toNat,b,((jG.getD (op-1).toNat 0:Nat):Int),()) hc (ao ?_);refine aw b1 rfl aj ?_;intro g2 b2 k2 z2;refine af b2 (nm (op-1).toNat,b,((jG.getD (op-1).toNat 0:Nat):Int),()) rfl ?_;refine ⟨b,?_,Ch.trans e1 k2 (fun i hi hl=>by simp at hi; omega)⟩;have h3:cP op=jG.getD (op-1).toNat 0:=by unfold cP; rw [W6 ad]
  have h4:cP op≠0:=by
   rw [h3]
   have:∀ k:Fin 43,jG.getD k.1 0≠0:=cn
   exact this ⟨(op-1).toNat,ad⟩
  rw [W9 h4,show Od nm op=nm (op-1).toNat by unfold Od; rw [W6 h4],h3]
def rc (D:List (ZA × ZB)) (x:cm):Bool:=match x.ai with
 | [t]=>((t.2:Int)==1) && ((x.num:Int)==0) && gB D t.1
 | _=>false
def FI (nm:Nat->ZA) (D:List (ZA × ZB)) (x:cF) (sec r:Int):Bool :=
 if r==1 then x.kind==2 && ((ByteArray.toList (Od nm x.inst.op))==[({ toBitVec:=106#8 }),({ toBitVec:=114#8 })])
 else if r==2 then x.kind==2 && px x.inst.op && !rc D x.e
 else if r==3 then (x.kind==6 || (x.kind==2 && (((cP x.inst.op:Nat):Int)==10 || ((cP x.inst.op:Nat):Int)==11))) && x.e.ai.any fun t=>gB D t.1
 else if r==4 then x.kind==3 && sec==0 else false
def IQ {nm:Nat->ZA} {h:Hp} (tn:zx nm h) {g:Nat} {D:List (ZA × ZB)} (m:dT h g D) (a:AI D) {p0:ZC} {q:ZC} {l c:Nat} {x:cF} (v:kC h q l x) (sec r:Int) :
  HC Tryz.prog 24 #[.agg #[.pointer p0,.map (some g)],.agg (encI q l c x).toArray,.int .i64 sec,.int .i64 r] h fun w h'=>w=.bool (FI nm D x sec r)/\Ext h h':=by
 refine bd (args:=[.agg #[.pointer p0,.map (some g)],.agg (encI q l c x).toArray,.int .i64 sec,.int .i64 r]) mixed Tryz.func24 az (kM p0 (some g) x.kind x.name x.inst.op x.inst.a x.inst.b x.inst.n x.inst.form q l c x.e.num x.n sec r) ?_;unfold gp aT bK dr iG aH Tp bC dL bT cg;refine bk ?_;intro h1 b1 e1 z1;refine bk ?_;intro h2 b2 e2 z2;have b2:bH h2 h1.size 71 (encI q l c x):=b2;rw [aG,aG,aG];refine af b2 (x.inst.op,()) rfl (ao ?_);refine aK (SQ ((tn.an e1 aj).an e2 aj) x.inst.op v.op.1 v.op.2) ?_;rintro _ h3 ⟨bb,rfl,e3⟩;refine ⟨(Od nm x.inst.op,bb,((cP x.inst.op:Nat):Int),decide (cP x.inst.op≠0),()),rfl,ao ?_⟩;refine bk ?_;intro h4 b4 e4 z4;refine aw b4 rfl aj ?_;intro h5 b5 k5 z5;have b5:bH h5 h3.size 120 [.string (Od nm x.inst.op),.int .u8 bb,.int .i64 (cP x.inst.op:Nat)]:=b5;have e35:Ext h3 h5:=Ch.trans e4 k5 (fun i hi hl=>by simp at hi; omega);have e25:=e3.trans e35;have e05:=(e1.trans e2).trans e25;have b2':=b2.an e25 aj;have b1':=(b1.an e2 aj).an e25 aj;have m':=m.an e05 aj;have v':=v.an e05;have tb':=(tn.an e05 aj).Sf;refine af b2' (x.kind,()) rfl (ao ?_);have cf:HC Tryz.prog 46 #[.slice q l c,.func (.func 47) #[] #[.pointer (some ⟨h.size,0,none⟩)]] h5 fun w h'=>w=.bool (x.e.ai.any fun t=>gB D t.1)/\Ext h5 h':=CF m' a b1' v'.lin.vw v'.lin.many
 cases r1:r==(1:Int) with
 | true =>
  refine bn rfl ?_;have hr:FI nm D x sec r=(x.kind==2 && ((ByteArray.toList (Od nm x.inst.op))==[({ toBitVec:=106#8 }),({ toBitVec:=114#8 })])):=by unfold FI; rw [Xb r1]
  rw [hr];cases k2:x.kind==(2:Int) with
  | true =>
   refine bn rfl ?_;refine af b5 (Od nm x.inst.op,()) rfl (ao ?_);exact ⟨by rw [Xu],e05⟩
  | false=>exact bJ rfl ⟨by rw [Bool.false_and],e05⟩
 | false =>
 refine bJ rfl ?_;cases r2:r==(2:Int) with
 | true =>
  refine bn rfl ?_;have hr:FI nm D x sec r=(x.kind==2 && px x.inst.op && !rc D x.e):=by unfold FI; rw [W6 (by rw [r1]; simp),Xb r2]
  rw [hr]
  have go:∀ (L:Lp) (al:Bool),al=rc D x.e ->
    (cond (x.kind==(2:Int)) (T.ah ((⟨h1.size,0,none⟩:Zx).add 2) [.int .i64] <| fun (n29:Int)=>T.call Tryz.prog 45 [.int .i64 n29] false [(false,[.bool])] <| fun (b30:Bool)=>cond b30 (T.ret (.bool (!al))) (T.ret (.bool false))) (T.ret (.bool false))) L (fun w h'=>w=Value.bool (x.kind==2 && px x.inst.op && !rc D x.e)/\Ext h h') h5:=by
   intro L al hal;cases k2:x.kind==(2:Int) with
   | true =>
    refine bn rfl ?_;rw [aG];refine af b2' (x.inst.op,()) rfl (ao ?_);refine aK (zE tb' x.inst.op v.op.1 v.op.2) ?_;rintro _ h6 ⟨rfl,e6⟩;refine ⟨(px x.inst.op,()),rfl,ao ?_⟩;cases hs:px x.inst.op with
    | true=>exact bn rfl ⟨by rw [hal]; rfl,e05.trans e6⟩
    | false=>exact bJ rfl ⟨rfl,e05.trans e6⟩
   | false=>exact bJ rfl ⟨rfl,e05⟩
  have hl:=v'.lin.vw.1;have c7:aJ h5 ⟨h1.size,0+7,none⟩ 0 [.slice q l c]:=b2'.cells _ rfl;have c8:aJ h5 ⟨h1.size,0+7+1,none⟩ 0 [.int .u32 (x.e.num:Int)]:=b2'.cells _ rfl;refine aC ((q,l,c),()) c7 (ao ?_);cases hT:x.e.ai with
  | nil =>
   rw [hT] at hl;refine bJ (by rw [hl]; rfl) ?_;exact go _ false (by unfold rc; rw [hT])
  | cons t ts =>
   cases ts with
   | cons t2 ts =>
    rw [hT] at hl;refine bJ (by
     rw [hl,XP,XP]
     have:¬ ((ts.length+1+1:Nat):Int)=1:=ad
     simpa using this) ?_
    exact go _ false (by unfold rc; rw [hT])
   | nil =>
    rw [hT] at hl;have hal:rc D x.e=(((t.2:Int)==1) && ((x.e.num:Int)==0) && gB D t.1):=by unfold rc; rw [hT]
    obtain ⟨aa,ha,hc⟩:=v'.lin.vw.2 0 (by rw [hT]; simp);have hx0:x.e.ai[0]'(by rw [hT]; simp)=t:=by simp [hT]
    rw [hx0,Za] at hc;have ha0:aa.add 0=aa:=by cases aa; rfl
    rw [ha0] at hc;have hc1:aJ h5 (aa.add 1) 0 [.int .u32 (t.2:Int)]:=⟨by rw [add_add]; exact hc.2.1,trivial⟩
    have hc0:aJ h5 aa 0 [.string t.1]:=⟨hc.1,trivial⟩
    refine bn (by rw [hl]; rfl) ?_;refine aC ((q,l,c),()) c7 (ao ?_);refine ay ⟨ad,by rw [hl]; simp⟩ (ax ha ?_);refine aC ((t.2:Int),()) hc1 (ao ?_);cases k1:((t.2:Int)==1) with
    | false =>
     refine bJ rfl ?_;exact go _ false (by rw [hal,k1]; rfl)
    | true =>
     refine bn rfl ?_;rw [aG];refine aC ((x.e.num:Int),()) c8 (ao ?_);cases k0:((x.e.num:Int)==0) with
     | false =>
      refine bJ rfl ?_;exact go _ false (by rw [hal,k1,k0]; rfl)
     | true =>
      refine bn rfl ?_;refine af b1' (some g,()) rfl (ao ?_);refine aC ((q,l,c),()) c7 (ao ?_);refine ay ⟨ad,by rw [hl]; simp⟩ (ax ha ?_);refine aC (t.1,()) hc0 (ao ?_);refine DB m' a t.1 ?_;refine ⟨⟨c7,c8,hc1,c7,c7,trivial⟩,?_⟩;exact go _ (gB D t.1) (by rw [hal,k1,k0]; rfl)
 | false =>
 refine bJ rfl ?_;cases r3:r==(3:Int) with
 | true =>
  refine bn rfl ?_;have hr:FI nm D x sec r=((x.kind==6 || (x.kind==2 && (((cP x.inst.op:Nat):Int)==10 || ((cP x.inst.op:Nat):Int)==11))) && x.e.ai.any fun t=>gB D t.1):=by
   unfold FI; rw [W6 (by rw [r1]; simp),W6 (by rw [r2]; simp),Xb r3]
  rw [hr];have fin:∀ (L:Lp),(T.ah ((⟨h1.size,0,none⟩:Zx).add 7) [.slice 117] <| fun (p15:ZC) (l16:Nat) (l17:Nat)=>T.call Tryz.prog 46 [.slice p15 l16 l17,.func (Fn.func 47) #[] #[.pointer (some ⟨h.size,0,none⟩)]] false [(false,[.bool])] <| fun (b18:Bool)=>T.ret (.bool b18)) L (fun w h'=>w=Value.bool (x.e.ai.any fun t=>gB D t.1)/\Ext h h') h5:=by
   intro L;rw [aG];refine af b2' ((q,l,c),()) rfl (ao ?_);refine aK cf ?_;rintro _ h6 ⟨rfl,e6⟩;exact ⟨(x.e.ai.any (fun t=>gB D t.1),()),rfl,rfl,e05.trans e6⟩
  refine af b2' (x.kind,()) rfl (ao ?_);cases k6:x.kind==(6:Int) with
  | true =>
   refine bJ (by rw [bne,k6]; rfl) ?_;rw [Bool.true_or,Xu];exact fin _
  | false =>
   refine bn (by rw [bne,k6]; rfl) ?_;rw [YJ];cases k2:x.kind==(2:Int) with
   | true =>
    refine bn rfl ?_;rw [Xu];rw [aG];refine af b5 (((cP x.inst.op:Nat):Int),()) rfl (ao ?_);cases s1:((cP x.inst.op:Nat):Int)==10 with
    | true =>
     refine bn rfl ?_;rw [Bool.true_or,Xu];exact fin _
    | false =>
     refine bJ rfl ?_;refine af b5 (((cP x.inst.op:Nat):Int),()) rfl (ao ?_);cases s2:((cP x.inst.op:Nat):Int)==11 with
     | true =>
      refine bJ rfl ?_;rw [Bool.or_true,Xu];exact fin _
     | false=>exact bn rfl ⟨rfl,e05⟩
   | false=>exact bJ rfl ⟨rfl,e05⟩
 | false =>
 refine bJ rfl ?_;cases r4:r==(4:Int) with
 | true =>
  refine bn rfl ?_;have hr:FI nm D x sec r=(x.kind==3 && sec==0):=by
   unfold FI; rw [W6 (by rw [r1]; simp),W6 (by rw [r2]; simp),W6 (by rw [r3]; simp),Xb r4]
  rw [hr];refine af b2' (x.kind,()) rfl (ao ?_);cases k3:x.kind==(3:Int) with
  | true=>exact bn rfl ⟨by rw [Xu],e05⟩
  | false=>exact bJ rfl ⟨rfl,e05⟩
 | false =>
  refine bJ rfl ⟨?_,e05⟩;unfold FI; rw [W6 (by rw [r1]; simp),W6 (by rw [r2]; simp),W6 (by rw [r3]; simp),W6 (by rw [r4]; simp)]
def Jq {h:Hp} (pw:fP h) {B N M:Nat} {w:LW} {usl lb:cv} {sp:Int} {S:Nat->kb} (pg:oq h B w usl lb sp N M S) (hl:w.lb.length<=2^30) :
  HC Tryz.prog 20 #[ptr (B+3)] h fun v h'=>Ext h h'/\∃ g,h.size<=g/\v=.agg #[ptr (B+3),.map (some g)]/\dT h' g (Kd w.lb 0 []):=by
 refine bd (args:=[ptr (B+3)]) mixed Tryz.func20 az (As (some ⟨B+3,0,none⟩)) ?_;unfold zM bf bh bG aQ gF bK bR bT aR;refine bk ?_;intro h1 b1 e1 z1;show aS _ _ _ _;refine jx _ ?_;intro h2 m2 e2 z2;refine ⟨(some h1.size,()),rfl,ao ?_⟩;have e02:=e1.trans e2;refine aK (rS (pg.ext e02) hl) ?_;rintro _ h3 ⟨e3,p,l,c,rfl,s3⟩;refine ⟨((p,l,c),()),rfl,ao ?_⟩;have e03:=e02.trans e3;have hll:l=w.lb.length:=by have:=s3.1; rwa [W3] at this
 have q1:=e1.size;have q2:=e2.size;have q3:=e3.size;have b3:=(b1.an e2 aj).an e3 aj;have bl:=fun i hi=>SL.cj s3 (i:=i) hi
 refine aU (cs:=[(false,[.int .i64])]) (fun y k h'=>∃ i:Nat,y.1=(i:Int)/\k=w.lb.length-i/\i<=w.lb.length/\Ch [h1.size] h3 h'/\dT h' h1.size (Kd (w.lb.take i) 0 [])) ((0:Int),()) w.lb.length rfl
  ⟨0,rfl,rfl,ad,Ch.refl _ _,m2.an e3 aj⟩ ?_
 rintro ⟨n6,⟨⟩⟩ k h4 ⟨i,hi,rfl,hle,k4,m4⟩;simp only at hi;subst hi;refine ao ?_;have e04:Ext h h4:=Ch.trans e03 k4 fun j hj hx=>by simp at hj; omega
 have hw:IntKind.wrap .i64 ((i:Int)+1)=((i+1:Nat):Int):=by rw [wrap_i64 ad ad]; omega
 have q4:=k4.size;refine ak (fun q=>?_) (fun q=>?_)
 ·have q:=W2 q;have hlt:i<w.lb.length:=ad
  have s4:=s3.bM k4 fun j hj hm=>by
   rw [Xm.1 hm] at hj
   have:=bl _ hj
   omega
  obtain ⟨a,ha,hc⟩:=SL.cells s4 (i:=i) (by rw [W3]; exact hlt);rw [Xc] at hc;have htk:w.lb.take (i+1)=w.lb.take i++[w.lb[i]]:=W7 hlt;generalize w.lb[i]=y at hc htk;refine ay ⟨ad,ad⟩ (ax ha ?_);rw [show Int.toNat (i:Int)=i from ad];refine aC ((y.u:Int),(y.s:Int),(y.i:Int),y.n,()) hc (ao ?_);refine bk ?_;intro h5 b5 e5 z5;refine aw b5 rfl aj ?_;intro h6 b6 k6 z6;have b6:bH h6 h4.size 112 [.int .i64 (y.u:Int),.int .i64 (y.s:Int),.int .i64 (y.i:Int),.string y.n]:=b6;have e46:Ext h4 h6:=Ch.trans e5 k6 (fun j hj hx=>by simp at hj; omega);rw [aG];refine af b6 ((y.s:Int),()) rfl (ao ?_);refine aK (yG ((pw.an e04 aj).an e46 aj) i ad) ?_;rintro _ h7 ⟨rfl,e7⟩;refine ⟨(kF i,()),rfl,ao ?_⟩;refine ⟨⟨(b6.an e7 aj).cells _ rfl,trivial⟩,?_⟩;have hsz:=jk (n:=i) ad;have hml:2000<=maxLen:=cn
  refine ay ad ?_;have m7:=(m4.an e46 aj).an e7 aj;show aS _ _ _ _;refine fg Q9 QM m7 (s:=wL i) (by show (_++_:ZA).size<=_; rw [Yu]; show 1+_<=_; omega) _ _ ?_;intro h8 m8 k8 z8;refine aI (cs:=[(false,[.int .i64])]) (((i+1:Nat):Int),()) (w.lb.length-(i+1)) rfl ad (Xj (fun z=>[Value.int .i64 z]) hw) ⟨i+1,rfl,rfl,ad,?_,?_⟩
  ·exact Ch.trans (Ch.trans k4 (e46.trans e7) aj) k8 (fun j hj _=>hj)
  ·rw [htk,Fx,Xr,Yc ad,XK];exact m8
 ·have q:=W4 q;have hi:i=w.lb.length:=ad
  subst hi;rw [XB] at m4;have b4:=b3.an k4 (by simp; omega);refine aw b4 rfl aj ?_;intro h5 b5 k5 z5;refine af b5 (some ⟨B+3,0,none⟩,some h1.size,()) rfl ?_;exact ⟨Ch.trans e04 k5 (fun j hj hx=>by simp at hj; omega),h1.size,ad,rfl,m4.an k5 (by simp; omega)⟩
structure Wh where
 u:Nat
 s:Nat
 i:Nat
 r:Nat
deriving DecidableEq
section
variable (nm:Nat->ZA) (D:List (ZA × ZB)) (I:Nat->Nat->List cF) (N:Nat) (p:Wh->Bool)
def TN (u s i:Nat) (x:cF) (r:Nat):List Wh:=(List.range' r (5-r)).filterMap fun (r:Nat)=>if FI nm D x s r then some ⟨u,s,i,r⟩ else none
def Vx (u s:Nat):Nat->List cF->List Wh
 | _,[]=>[]
 | i,x::xs=>TN nm D u s i x 1++Vx u s (i+1) xs
def Ww (u s:Nat):List Wh:=Vx nm D u s 0 (I u s)
def Wu (u:Nat):List Wh:=((List.range 2)).flatMap fun s=>Ww nm D I u s
def V7:List Wh:=(List.range N).flatMap fun u=>Wu nm D I u
def JA (u:Nat):Option Wh:=(((List.range N).drop u).flatMap fun u=>Wu nm D I u).find? p
def OR (u s:Nat):Option Wh:=((((List.range 2).drop s).flatMap fun s=>Ww nm D I u s).find? p).or (JA nm D I N p (u+1))
def P1 (u s i:Nat):Option Wh:=((Vx nm D u s i ((I u s).drop i)).find? p).or (OR nm D I N p u (s+1))
def RH (u s i:Nat) (x:cF) (r:Nat):Option Wh:=((TN nm D u s i x r).find? p).or (P1 nm D I N p u s (i+1))
def Vn:JA nm D I N p 0=(V7 nm D I N).find? p:=rfl
def yH {n u:Nat} (h:u<n):(List.range n).drop u=u::(List.range n).drop (u+1):=by
 rw [Xi (by simpa using h)]
 simp
def UG {u:Nat} (h:u<N):JA nm D I N p u=OR nm D I N p u 0:=by
 unfold JA OR;rw [yH h,XJ,YT] <;> rfl
def Uw {u:Nat} (h:N<=u):JA nm D I N p u=none:=by
 unfold JA;rw [Ys (by simpa using h)] <;> rfl
def UB {u s:Nat} (h:s<2):OR nm D I N p u s=P1 nm D I N p u s 0:=by
 unfold P1 OR;rw [yH h,XJ,YT,Option.or_assoc] <;> rfl
def Vh {u s:Nat} (h:2<=s):OR nm D I N p u s=JA nm D I N p (u+1):=by
 unfold OR;rw [Ys (by simpa using h)] <;> rfl
def Vi {u s i:Nat} (h:i<(I u s).length):P1 nm D I N p u s i=RH nm D I N p u s i (I u s)[i] 1:=by
 unfold P1 RH;rw [Xi h,Vx,YT,Option.or_assoc] <;> rfl
def Vd {u s i:Nat} (h:(I u s).length<=i):P1 nm D I N p u s i=OR nm D I N p u (s+1):=by
 unfold P1;rw [Ys h] <;> rfl
def U8 {u s i r:Nat} {x:cF} (h:5<=r):RH nm D I N p u s i x r=P1 nm D I N p u s (i+1):=by
 unfold RH TN;rw [show 5-r=0 from ad] <;> rfl
def US {u s i r:Nat} {x:cF} (h:r<5):RH nm D I N p u s i x r=if FI nm D x s r && p ⟨u,s,i,r⟩ then some ⟨u,s,i,r⟩ else RH nm D I N p u s i x (r+1):=by
 have h1:TN nm D u s i x r=(if FI nm D x s r then [(⟨u,s,i,r⟩:Wh)] else [])++TN nm D u s i x (r+1):=by
  unfold TN;rw [show 5-r=(5-(r+1))+1 from ad,List.range'_succ,List.filterMap_cons];split
  ·next hh =>
   split at hh
   ·cases hh
   ·next hn=>rw [W6 hn]; rfl
  ·next b hh =>
   split at hh
   ·next hn=>rw [Xb hn]; cases hh; rfl
   ·cases hh
 unfold RH;rw [h1];cases hr:FI nm D x s r with
 | false=>rfl
 | true =>
  simp only [if_true,Bool.true_and];cases hp:p ⟨u,s,i,r⟩ with
  | true=>simp [hp]
  | false=>simp [hp]
end
def RN:Option Wh->ZB
 | none=>.tuple #[.agg #[.int .i64 0,.int .i64 0,.int .i64 0,.int .i64 0],.bool false]
 | some q=>.tuple #[.agg #[.int .i64 (q.u:Int),.int .i64 (q.s:Int),.int .i64 (q.i:Int),.int .i64 (q.r:Int)],.bool true]
def xL (rs:List Int) (q:Wh):Bool:=decide ((q.r:Int)∈rs)
def Tk {nm:Nat->ZA} {h:Hp} (tn:zx nm h) (pw:fP h) {B N M:Nat} {w:LW} {usl lb:cv} {sp:Int} {S:Nat->kb} (pg:oq h B w usl lb sp N M S) (hl:w.lb.length<=2^30) (hN:N<=2^30) {I:Nat->Nat->List cF}
  (PP:∀ h',Ext h h'->∀ n j:Nat,n<N->j<2->HC Tryz.prog 22 #[ptr (B+3),.int .i64 (n:Int),.int .i64 (j:Int)] h' fun v h''=>Ext h' h''/\∃ t:cv,v=t.v/\Dj h'' t.p t.l (I n j))
  {p:ZC} {l c:Nat} {rs:List Int} (v:GO h p l rs) :
  HC Tryz.prog 10 #[ptr (B+3),.slice p l c] h fun v h'=>Ext h h'/\v=RN (JA nm (Kd w.lb 0 []) I N (xL rs) 0):=by
 refine bd (args:=[ptr (B+3),.slice p l c]) mixed Tryz.func10 az (An (some ⟨B+3,0,none⟩) p l c) ?_;unfold xt bf bh bG aQ aT cD bK aH br bi bT aR cg;refine bk ?_;intro h1 b1 e1 z1;refine bJ rfl ?_;refine aK (Jq (pw.an e1 aj) (pg.ext e1) hl) ?_;rintro _ h2 ⟨e2,g,hg,rfl,m2⟩;refine ⟨(some ⟨B+3,0,none⟩,some g,()),rfl,ao ?_⟩;refine bk ?_;intro h3 b3 e3 z3;refine aw b3 rfl aj ?_;intro h4 b4 k4 z4;have b4:bH h4 h2.size 60 [.pointer (some ⟨B+3,0,none⟩),.map (some g)]:=b4;have e24:Ext h2 h4:=Ch.trans e3 k4 (fun i hi hx=>by simp at hi; omega);have e14:=e2.trans e24;have e04:=e1.trans e14;have m4:=m2.an e24 aj;have b14:=b1.an e14 aj;have aD:=Fy w.lb 0 [] (by intro p hp; simp at hp);have q1:=e1.size;generalize Kd w.lb 0 []=D at m4 aD;clear m2 b3;refine jY (K0 (pg.ext e04)) ?_
 have hret:∀ (L:Lp) (h':Hp) (q:Wh),Ext h4 h'->JA nm D I N (xL rs) 0=some q->(T.aE (⟨h.size,0,none⟩:Zx) [.int .i64 (q.u:Int),.int .i64 (q.s:Int),.int .i64 (q.i:Int),.int .i64 (q.r:Int)] <|
   T.ah (⟨h.size,0,none⟩:Zx) [.int .i64,.int .i64,.int .i64,.int .i64] <| fun (n48:Int) (n49:Int) (n50:Int) (n51:Int)=>T.ret (.tuple #[.agg #[.int .i64 n48,.int .i64 n49,.int .i64 n50,.int .i64 n51],.bool true])) L (fun v h'=>Ext h h'/\v=RN (JA nm D I N (xL rs) 0)) h':=by
  intro L h' q e hq;refine aw (b14.an e aj) rfl aj ?_;intro h6 b6 k6 z6;refine af b6 ((q.u:Int),(q.s:Int),(q.i:Int),(q.r:Int),()) rfl ?_;exact ⟨Ch.trans (e04.trans e) k6 (fun i hi hx=>by simp at hi; omega),by rw [hq]; rfl⟩
 refine aU (cs:=[(false,[.bool]),(false,[.int .i64])]) (fun y k h'=>∃ n:Nat,y.2.1=(n:Int)/\k=N-n/\n<=N/\Ext h4 h'/\JA nm D I N (xL rs) n=JA nm D I N (xL rs) 0) (false,(0:Int),()) N rfl ⟨0,rfl,rfl,ad,Ch.refl _ _,rfl⟩ ?_;rintro ⟨b7,n8,⟨⟩⟩ k h5 ⟨n,hi,rfl,hle,e5,hR⟩;simp only at hi;subst hi;refine ao ?_;generalize hfin:JA nm D I N (xL rs) 0=R at hR hret;refine ak (fun q=>?_) (fun q=>?_)
 ·have q:=W2 q;have hn:n<N:=ad
  rw [UG _ _ _ _ _ hn] at hR;refine aU (cs:=[(false,[.bool]),(false,[.int .i64])]) (fun y k h'=>∃ s:Nat,y.2.1=(s:Int)/\k=2-s/\s<=2/\Ext h4 h'/\OR nm D I N (xL rs) n s=R) (b7,(0:Int),()) 2 rfl ⟨0,rfl,rfl,ad,e5,hR⟩ ?_;clear hR e5 h5;rintro ⟨b9,n10,⟨⟩⟩ k h5 ⟨s,hi,rfl,hsl,e5,hR⟩;simp only at hi;subst hi;refine ao ?_;refine ak (fun q=>?_) (fun q=>?_)
  ·have q:=W2 q;have hs:s<2:=ad
   rw [UB _ _ _ _ _ hs] at hR;refine aK (PP h5 (e04.trans e5) n s hn hs) ?_;rintro _ h6 ⟨e6,t,rfl,vt⟩;refine ⟨((t.p,t.l,t.c),()),rfl,ao ?_⟩;have e46:=e5.trans e6;have htl:=vt.len;have htm:=vt.many;refine aU (cs:=[(false,[.bool]),(false,[.int .i64])]) (fun y k h'=>∃ i:Nat,y.2.1=(i:Int)/\k=(I n s).length-i/\i<=(I n s).length/\Ext h6 h'/\P1 nm D I N (xL rs) n s i=R) (b9,(0:Int),()) (I n s).length rfl ⟨0,rfl,rfl,ad,Ch.refl _ _,hR⟩ ?_;clear hR;rintro ⟨b14',n15,⟨⟩⟩ k h7 ⟨i,hi,rfl,hil,e7,hR⟩;simp only at hi;subst hi;refine ao ?_;refine ak (fun q=>?_) (fun q=>?_)
   ·have q:=W2 q;have hin:i<(I n s).length:=ad
    rw [Vi _ _ _ _ _ hin] at hR;obtain ⟨aa,qq,mm,cc,ha,hc,hv⟩:=vt.cells i hin;generalize (I n s)[i]=x at hR hc hv;refine ay ⟨ad,ad⟩ (ax ha ?_);rw [show Int.toNat (i:Int)=i from ad];refine aC (x.kind,x.name,x.inst.op,x.inst.a,x.inst.b,x.inst.n,x.inst.form,(qq,mm,cc),(x.e.num:Int),x.n,()) (aX e7 aj _ _ hc) (ao ?_);refine bk ?_;intro h8 b8 e8 z8;refine aw b8 rfl aj ?_;intro h9 b9' k9 z9;have b9':bH h9 h7.size 71 (encI qq mm cc x):=b9';have e79:Ext h7 h9:=Ch.trans e8 k9 (fun i hi hx=>by simp at hi; omega);have e49:=(e46.trans e7).trans e79;have hv9:=(hv.an e7).an e79;refine aU (cs:=[(false,[.bool]),(false,[.int .i64])]) (fun y k h'=>∃ r:Nat,y.2.1=(r:Int)/\k=5-r/\1<=r/\r<=5/\Ext h9 h'/\RH nm D I N (xL rs) n s i x r=R) (b14',(1:Int),()) 4 rfl ⟨1,rfl,rfl,ad,ad,Ch.refl _ _,hR⟩ ?_;clear hR;rintro ⟨b30,n31,⟨⟩⟩ k h10 ⟨r,hi,rfl,hr1,hr5,e10,hR⟩;simp only at hi;subst hi;refine ao ?_;have e410:=e49.trans e10;have e010:=e04.trans e410;have hwr:IntKind.wrap .i64 ((r:Int)+1)=((r+1:Nat):Int):=by rw [wrap_i64 ad ad]; omega
    refine ak (fun q=>?_) (fun q=>?_)
    ·have q:=W2 q;have hr:r<5:=ad
     rw [US _ _ _ _ _ hr] at hR;refine aM (DG (v.an e010) (r:Int)) ?_;cases hin:decide ((r:Int)∈rs) with
     | false =>
      refine bJ rfl ?_;rw [show xL rs ⟨n,s,i,r⟩=false from hin,YY] at hR;exact aI (cs:=[(false,[.bool]),(false,[.int .i64])]) (b30,((r+1:Nat):Int),()) (5-(r+1)) rfl ad (Xj (fun z=>[Value.bool b30,Value.int .i64 z]) hwr) ⟨r+1,rfl,rfl,ad,ad,e10,by simpa using hR⟩
     | true =>
      refine bn rfl ?_;rw [show xL rs ⟨n,s,i,r⟩=true from hin,Yk] at hR;refine af (b4.an e410 aj) (some ⟨B+3,0,none⟩,some g,()) rfl (ao ?_);refine af (b9'.an e10 aj) (x.kind,x.name,x.inst.op,x.inst.a,x.inst.b,x.inst.n,x.inst.form,(qq,mm,cc),(x.e.num:Int),x.n,()) rfl (ao ?_);refine aK (IQ (tn.an e010 aj) (m4.an e410 aj) aD (p0:=some ⟨B+3,0,none⟩) (hv9.an e10) (s:Int) (r:Int)) ?_;rintro _ h11 ⟨rfl,e11⟩;refine ⟨(FI nm D x s r,()),rfl,ao ?_⟩;cases hrs:FI nm D x s r with
      | true =>
       rw [hrs] at hR;refine bn rfl ?_;exact hret _ h11 ⟨n,s,i,r⟩ (e410.trans e11) (by rw [<- hR]; rfl)
      | false =>
       rw [hrs] at hR;refine bJ rfl ?_;exact aI (cs:=[(false,[.bool]),(false,[.int .i64])]) (b30,((r+1:Nat):Int),()) (5-(r+1)) rfl ad (Xj (fun z=>[Value.bool b30,Value.int .i64 z]) hwr) ⟨r+1,rfl,rfl,ad,ad,e10.trans e11,by simpa using hR⟩
    ·have q:=W4 q;rw [U8 _ _ _ _ _ ad] at hR;have hw:IntKind.wrap .i64 ((i:Int)+1)=((i+1:Nat):Int):=by rw [wrap_i64 ad ad]; omega
     exact aI (cs:=[(false,[.bool]),(false,[.int .i64])]) (b30,((i+1:Nat):Int),()) ((I n s).length-(i+1)) rfl ad (Xj (fun z=>[Value.bool b30,Value.int .i64 z]) hw) ⟨i+1,rfl,rfl,ad,(e7.trans e79).trans e10,hR⟩
   ·have q:=W4 q;rw [Vd _ _ _ _ _ ad] at hR;have hw:IntKind.wrap .i64 ((s:Int)+1)=((s+1:Nat):Int):=by rw [wrap_i64 ad ad]; omega
    exact aI (cs:=[(false,[.bool]),(false,[.int .i64])]) (b14',((s+1:Nat):Int),()) (2-(s+1)) rfl ad (Xj (fun z=>[Value.bool b14',Value.int .i64 z]) hw) ⟨s+1,rfl,rfl,ad,e46.trans e7,hR⟩
  ·have q:=W4 q;rw [Vh _ _ _ _ _ ad] at hR;have hw:IntKind.wrap .i64 ((n:Int)+1)=((n+1:Nat):Int):=by rw [wrap_i64 ad ad]; omega
   exact aI (cs:=[(false,[.bool]),(false,[.int .i64])]) (b9,((n+1:Nat):Int),()) (N-(n+1)) rfl ad (Xj (fun z=>[Value.bool b9,Value.int .i64 z]) hw) ⟨n+1,rfl,rfl,ad,e5,hR⟩
 ·have q:=W4 q;rw [Uw _ _ _ _ _ ad] at hR;refine aw (b14.an e5 aj) rfl aj ?_;intro h6 b6 k6 z6;refine af b6 ((0:Int),(0:Int),(0:Int),(0:Int),()) rfl ?_;exact ⟨Ch.trans (e04.trans e5) k6 (fun i hi hx=>by simp at hi; omega),by rw [<- hR]; rfl⟩
end Go.Sx.Pn
namespace Go.Sx.Lk
open Go.Proofs Go.Sx.Ob
def Gm.vw {h:Hp} {b:Nat} {s:cv} {ws:List (cv × cF)} (o:Gm h b s ws) (hl:ws.length<=2^60) (hx:∀ x,x∈ws.map (·.2)->x.name.size<=maxLen/\Sm x.inst.op/\x.e.ai.length<=2^60/\∀ t,t∈x.e.ai->t.1.size<=maxLen):Dj h s.p s.l (ws.map (·.2)) :=
 ⟨by have:=o.out.1; rw [W3] at this ⊢; exact this,by rw [W3]; exact hl,fun i hi=>by
  rw [W3] at hi;obtain ⟨a,ha,hc⟩:=o.out.cells (i:=i) (by simpa using hi);rw [Xc] at hc;rw [Xc];have h1:=hx ws[i].2 (Xp (Xe hi));exact ⟨a,_,_,_,ha,hc,⟨vO (o.fm _ (Xe hi)),h1.2.2.1,h1.2.2.2⟩,h1.1,h1.2.1⟩⟩
section
variable {h0 h h':Hp} {us:List cd} {su:cv} {P:LP} {B:Nat} {usl lb:cv} {S:Nat->kb} {g b':Nat} {lb2 st sd:cv} {tw dw:List (cv × List (cv × cF))}
structure One (h0 h':Hp) (us:List cd) (P:LP) (B:Nat) (usl lb:cv) (S:Nat->kb):Prop where
 le:h0.size<=B
 pg:oq h' B P.w usl lb ((lI us:Nat):Int) us.length (2*us.length) S
 PP:∀ n,(hn:n<us.length)->(S (2*n)).ws.map (·.2)=us[n].text.map (P.fl n)/\(S (2*n+1)).ws.map (·.2)=us[n].data.map (P.fl n)
 sz:∀ k,k<2*us.length->LV (S k)
def One.ext (b:One h0 h us P B usl lb S) (e:Ext h h'):One h0 h' us P B usl lb S:=⟨b.le,b.pg.ext e,b.PP,b.sz⟩
def AP (u:cd) (j:Nat):List cF:=if j=0 then u.text else u.data
def One.sec (b:One h0 h us P B usl lb S) {n j:Nat} (hn:n<us.length) (hj:j<2):(S (2*n+j)).ws.map (·.2)=(AP us[n] j).map (P.fl n):=by
 unfold AP
 by_cases h:j=0
 ·rw [Xb h,h]; exact (b.PP n hn).1
 ·rw [W6 h,show j=1 from ad]; exact (b.PP n hn).2
def One.item (b:One h0 h us P B usl lb S) {n j:Nat} (hn:n<us.length) (hj:j<2):sR S us.length (n:Int) (j:Int)=(AP us[n] j).map (P.fl n):=by
 unfold sR;rw [Xb ⟨ad,ad,ad⟩];rw [show ((n:Int)).toNat=n from ad,show ((j:Int)).toNat=j from ad];exact b.sec hn hj
def One.ok (b:One h0 h us P B usl lb S) {hv:Hp} {p:ZC} {l:Nat} (v:xX hv p l us) {n j:Nat} (hn:n<us.length) (hj:j<2):∀ x,x∈(AP us[n] j).map (P.fl n)->x.name.size<=maxLen/\Sm x.inst.op/\x.e.ai.length<=2^60/\∀ t,t∈x.e.ai->t.1.size<=maxLen:=by
 intro x hx;obtain ⟨y,hy,rfl⟩:=Xd.1 hx;have hz:=b.sz (2*n+j) ad;rw [<- b.sec hn hj] at hx;obtain ⟨w,hw,he⟩:=Xd.1 hx;have h1:=hz.UF w hw;have h2:=hz.sz w hw;rw [he] at h1 h2;obtain ⟨a,sa,sb,sc,sd',ha,hc,va⟩:=v.cells n hn;have hi:kC hv none 0 y\/(y.name.size<=maxLen/\Sm y.inst.op):=by
  right
  have key:∀ {q:ZC} {m:Nat} {xs:List cF},Dj hv q m xs->y∈xs->y.name.size<=maxLen/\Sm y.inst.op:=by
   intro q m xs vx hm;obtain ⟨i,hi,rfl⟩:=Xw hm;obtain ⟨_,_,_,_,_,_,it⟩:=vx.cells i hi;exact ⟨it.name,it.op⟩
  unfold AP at hy
  by_cases h:j=0
  ·rw [Xb h] at hy; exact key va.text hy
  ·rw [W6 h] at hy; exact key va.data hy
 have hi:y.name.size<=maxLen/\Sm y.inst.op:=hi.elim (fun it=>⟨it.name,it.op⟩) id;exact ⟨hi.1,hi.2,ad,h2⟩
def One.many (b:One h0 h us P B usl lb S) {n j:Nat} (hn:n<us.length) (hj:j<2):(AP us[n] j).length<=2^30:=by
 have h1:=(b.sz (2*n+j) ad).len;have h2:=Xj List.length (b.sec hn hj);rw [W3,W3] at h2;omega
def One.out (b:One h0 h us P B usl lb S) (h64:us.length<=2^20) {hv:Hp} {p:ZC} {l:Nat} (v:xX hv p l us) {n j:Nat} (hn:n<us.length) (hj:j<2) :
  HC Tryz.prog 22 #[ptr (B+3),.int .i64 (n:Int),.int .i64 (j:Int)] h fun w h'=>Ext h h'/\∃ t ws,w=cv.v t/\Gm h' h.size t ws/\ws.map (·.2)=(AP us[n] j).map (P.fl n)/\Dj h' t.p t.l ((AP us[n] j).map (P.fl n)):=by
 have hit:=K1 b.pg (Xk _) ad (fun k hk=>⟨(b.sz k hk).len,(b.sz k hk).UF⟩) n j ad;rw [b.item hn hj] at hit;refine HC.mono hit fun w h' hr=>?_
 obtain ⟨e,t,ws,hw,o,hm⟩:=hr;refine ⟨e,t,ws,hw,o,hm,?_⟩;have hmn:=b.many hn hj;have hlen:ws.length<=2^60:=by
  have:=Xj List.length hm
  rw [W3,W3] at this;omega
 have:=o.vw hlen (by rw [hm]; exact b.ok v hn hj)
 rwa [hm] at this
end
end Go.Sx.Lk
namespace Go.Sx.Pn
open Go.Proofs Go.Sx.Ob Go.Sx.Lk
def F3 (a b:List Int) (q:Wh):xL (a++b) q=(xL a q || xL b q):=by
 unfold xL;rw [YS]
 simp
theorem BW (a b:List Int):∀ l:List Wh,(l.find? (xL (a++b))=none/\l.find? (xL a)=none/\l.find? (xL b)=none)\/∃ q,l.find? (xL (a++b))=some q/\(l.find? (xL a)=some q\/l.find? (xL b)=some q)
 | []=>.inl ⟨rfl,rfl,rfl⟩
 | x::l=>by
  simp only [List.find?_cons,F3];cases ha:xL a x with
  | true=>exact .inr ⟨x,aj,.inl rfl⟩
  | false =>
   cases hb:xL b x with
   | true=>exact .inr ⟨x,aj,.inr rfl⟩
   | false=>simpa using BW a b l
def f1:Option Wh->Int | none=>0 | some q=>q.u
def f2:Option Wh->Int | none=>0 | some q=>q.s
def f3:Option Wh->Int | none=>0 | some q=>q.i
def f4:Option Wh->Int | none=>0 | some q=>q.r
def CE (o:Option Wh):RN o=.tuple #[.agg #[.int .i64 (f1 o),.int .i64 (f2 o),.int .i64 (f3 o),.int .i64 (f4 o)],.bool o.isSome]:=by cases o <;> rfl
def Uq:Tryz.prog.underlying 25=some (.struct (Aw Tryz.prog 25)):=az
def TV (a b c d a' b' c' d':Int):(Aw Tryz.prog 25).all (FJ #[.int .i64 a,.int .i64 b,.int .i64 c,.int .i64 d] #[.int .i64 a',.int .i64 b',.int .i64 c',.int .i64 d'])=(a==a' && (b==b' && (c==c' && (d==d' && true)))):=by
 rw [<- Yj]
 kernel_rfl
def H4 (x y:Operand) (a b c d a' b' c' d':Int) (h:Hp) (K:ZB->Hp->Prop) (hk:K (.bool (a==a' && (b==b' && (c==c' && d==d')))) h) :
  aS Tryz.prog (Sx.ir (BinOp.eql) 25 x y (.agg #[.int .i64 a,.int .i64 b,.int .i64 c,.int .i64 d]) (.agg #[.int .i64 a',.int .i64 b',.int .i64 c',.int .i64 d'])) h K:=by
 refine zf Uq az az az K ?_;rw [TV,Yk];exact hk
def Dk (rs:List Int):List (List ZB):=rs.map fun n=>[Value.int .i64 n]
def Hv {h:Hp} {p:ZC} {l:Nat} {rs:List Int} (v:GO h p l rs):(p=none/\Dk rs=[])\/∃ a,p=some a/\aJ h a 0 (Dk rs).flatten:=by
 cases p with
 | none =>
  left
  cases rs with
  | nil=>exact ⟨rfl,rfl⟩
  | cons x xs =>
   obtain ⟨a,ha,_⟩:=v.cells 0 aj;cases ha
 | some a =>
  right
  refine ⟨a,rfl,?_⟩
  have:=fM (h:=h) (a:=a) (sz:=1) (Dk rs) 0 (fun x hx=>by
   obtain ⟨s,_,rfl⟩:=Xd.1 hx;rfl) (fun i hi=>by
   unfold Dk at hi ⊢;rw [W3] at hi;obtain ⟨a',ha,hc⟩:=v.cells i hi;cases ha;rw [Xc,XK];exact hc)
  rwa [Za] at this
def ID (rs:List Int):∀ y,y∈Dk rs->y.length=1:=by
 intro y hy;obtain ⟨s,_,rfl⟩:=Xd.1 hy;rfl
def AY (rs:List Int):(Dk rs).flatten.all cX=true:=by
 rw [XA];intro v hv;obtain ⟨y,hy,hv⟩:=YX.1 hv;obtain ⟨s,_,rfl⟩:=Xd.1 hy;rw [Xm.1 hv]; rfl
def TC {h:Hp} {b:Nat} {e:TypeId} {p:ZC} {l c:Nat} {rs:List Int} (s:SL h b e 1 p l c (Dk rs)) (hm:rs.length<=2^60):GO h p l rs :=
 ⟨by have:=s.1; unfold Dk at this; rwa [W3] at this,hm,fun i hi=>by
  obtain ⟨a,ha,hc⟩:=SL.cells s (i:=i) (by unfold Dk; rw [W3]; exact hi);unfold Dk at hc;rw [Xc] at hc;exact ⟨a,ha,hc⟩⟩
def Bf:Tryz.prog.underlying 31=some (.slice 3):=az
def Ni:(Tryz.prog.info? 3).map (fun i=>(i.zero,i.size,i.bytes))=some (some (.int .i64 0),1,8):=az
def Qn {L:Lp} {K:ZB->Hp->Prop} {h:Hp} {p q:ZC} {l c m d:Nat} {av bv:List Int} (va:GO h p l av) (vb:GO h q m bv) (ha:av.length<=2^30) (hb:bv.length<=2^30) {k:ZC->Nat->Nat->T}
  (hk:∀ p' l' c' h',GO h' p' l' (av++bv)->Ext h h'->k p' l' c' L K h') :
  T.ek Tryz.prog (Instr.buildSlice 31 0 #[]) false [(false,[.slice 0])] (fun (p19:ZC) (l20:Nat) (l21:Nat) =>
  T.ek Tryz.prog (Builtin.append_ #[31,31] 31 #[.slice p19 l20 l21,.slice p l c]) false [(false,[.slice 0])] <| fun (p22:ZC) (l23:Nat) (l24:Nat) =>
  T.ek Tryz.prog (Builtin.append_ #[31,31] 31 #[.slice p22 l23 l24,.slice q m d]) false [(false,[.slice 0])] k) L K h:=by
 have hal:=va.len;have hbl:=vb.len;refine HI Bf Ni ?_;intro h1 s1 e1;have hx:∀ rs:List Int,(Dk rs).length=rs.length:=fun rs=>by unfold Dk; rw [W3]
 refine rM (z:=.int .i64 0) (sz:=1) (by':=8) Bf Ni rfl s1 (ys:=Dk av) (Hv (va.an e1)) (by rw [hx]; exact hal) (ID av) (AY av) ad ad (by have:=e1.size; omega) ?_;intro p2 c2 h2 s2 k2;have e02:Ext h h2:=Ch.trans e1 k2 (fun j hj hl=>by have:=(s1.cj hj).1; omega);have z2:=k2.size;have z1:=e1.size;refine rM (z:=.int .i64 0) (sz:=1) (by':=8) Bf Ni rfl s2 (ys:=Dk bv) (Hv (vb.an e02)) (by rw [hx]; exact hbl) (ID bv) (AY bv) ad ad ad ?_;intro p3 c3 h3 s3 k3;have e03:Ext h h3:=Ch.trans e02 k3 (fun j hj hl=>by have:=(s2.cj hj).1; omega);refine hk _ _ _ h3 (TC (b:=h.size) (e:=3) (c:=c3) ?_ (by rw [W8]; omega)) e03;rw [Yr] at s3;rw [show Dk (av++bv)=Dk av++Dk bv by unfold Dk; rw [Xf]];exact s3
def Rg (h:Hp):Prop:=∀ h',Ext h h'->HC Tryz.prog 11 #[] h' fun v h''=>v=.bool true/\Ext h' h''
def GM {L:Lp} {h h1:Hp} (kn:Rg h) (e1:Ext h h1):(T.call Tryz.prog 11 [] false [(false,[.bool])] fun (b6:Bool)=>T.ret (.bool b6)) L (fun w h'=>w=.bool true/\Ext h h') h1:=by
 refine aK (kn h1 e1) ?_;rintro _ h2 ⟨rfl,e2⟩;exact ⟨(true,()),rfl,rfl,e1.trans e2⟩
def SO {h0 h:Hp} {us:List cd} {P:LP} {B:Nat} {usl lb:cv} {S:Nat->kb} (b:One h0 h us P B usl lb S) (h64:us.length<=2^20) {hv:Hp} {p:ZC} {l:Nat} (v:xX hv p l us):∀ h',Ext h h'->∀ n j:Nat,n<us.length->j<2->HC Tryz.prog 22 #[ptr (B+3),.int .i64 (n:Int),.int .i64 (j:Int)] h' fun v h''=>Ext h' h''/\∃ t:cv,v=t.v/\Dj h'' t.p t.l (if hn:n<us.length then (AP us[n] j).map (P.fl n) else []):=by
 intro h' e n j hn hj;refine HC.mono ((b.ext e).out h64 v hn hj) fun w h'' hr=>?_
 obtain ⟨e',t,ws,hw,o,hm,vt⟩:=hr;refine ⟨e',t,hw,?_⟩;rw [dif_pos hn];exact vt
def Lj {nm:Nat->ZA} {h:Hp} (pw:fP h) (tn:zx nm h) (kn:Rg h) {su sa sb:cv} {us:List cd} {av bv:List Int} (v:xX h su.p su.l us) (sm:Im us) (va:GO h sa.p sa.l av) (vb:GO h sb.p sb.l bv) (ha:av.length<=2^30) (hb:bv.length<=2^30) :
  HC Tryz.prog 5 #[.slice su.p su.l su.c,.slice sa.p sa.l sa.c,.slice sb.p sb.l sb.c] h fun w h'=>w=.bool true/\Ext h h':=by
 refine bd (args:=[.slice su.p su.l su.c,.slice sa.p sa.l sa.c,.slice sb.p sb.l sb.c]) mixed Tryz.func5 az (jM su.p su.l su.c sa.p sa.l sa.c sb.p sb.l sb.c) ?_;unfold fL aT bK dr bm bC cg;refine aK (TZ (su:=su) pw tn.Sf v sm) ?_;rintro w1 h1 ⟨e1,hq⟩
 by_cases hlg:sQ us=true
 ·rw [Xb hlg] at hq;refine ⟨(none,none,false,true,()),hq,ao ?_⟩;exact bn rfl (bn rfl (GM kn e1))
 rw [W6 hlg] at hq;have ag:=zC (us:=us) sm.num;cases hlp:lE us with
 | error f =>
  rw [hlp] at hq;refine ⟨(none,none,false,true,()),hq,ao ?_⟩;exact bn rfl (bn rfl (GM kn e1))
 | ok P =>
 rw [hlp] at hq ag;obtain ⟨_,h64,_,_,A,_,_,_⟩:=ag;obtain ⟨B,usl,lb,S,g,b',lb2,st,sd,tw,dw,rfl,bo⟩:=hq;have r:Fh us:=⟨A.right,h64⟩
 have hLl:=r.eb;have hlbw:P.w.lb=bY 0 us:=A.wi.lb;have b:One h h1 us P B usl lb S:=⟨bo.le,bo.pg,bo.PP,bo.sz⟩
 refine ⟨(some ⟨B+3,0,none⟩,some ⟨g,0,none⟩,true,true,()),rfl,ao ?_⟩;refine bJ rfl ?_;have any:=fun (h':Hp) (e:Ext h1 h') (p:ZC) (l c:Nat) (rs:List Int) (vr:GO h' p l rs)=>Tk (c:=c) (tn.an (e1.trans e) aj) (pw.an (e1.trans e) aj) (b.ext e).pg (by rw [hlbw]; omega) ad (SO (b.ext e) ad v) vr
 generalize hI:(fun n j=>if hn:n<us.length then (AP us[n] j).map (P.fl n) else [])=I at any;have law:=BW av bv (V7 nm (Kd P.w.lb 0 []) I us.length);simp only [Vn] at any;generalize V7 nm (Kd P.w.lb 0 []) I us.length=C at any law;refine aK (any h1 (Ch.refl _ _) sa.p sa.l sa.c av (va.an e1)) ?_;rintro _ h2 ⟨e2,rfl⟩;rw [CE];generalize C.find? (xL av)=o1 at law;refine ⟨(f1 o1,f2 o1,f3 o1,f4 o1,o1.isSome,()),rfl,ao ?_⟩;refine bk ?_;intro h3 b3 e3 z3;refine aw b3 rfl aj ?_;intro h4 b4 k4 z4;have b4:bH h4 h2.size 25 [.int .i64 (f1 o1),.int .i64 (f2 o1),.int .i64 (f3 o1),.int .i64 (f4 o1)]:=b4;have e24:Ext h2 h4:=Ch.trans e3 k4 (fun i hi hx=>by simp at hi; omega);have e14:=e2.trans e24;refine aK (any h4 e14 sb.p sb.l sb.c bv (vb.an (e1.trans e14))) ?_;rintro _ h5 ⟨e5,rfl⟩;rw [CE];generalize C.find? (xL bv)=o2 at law;refine ⟨(f1 o2,f2 o2,f3 o2,f4 o2,o2.isSome,()),rfl,ao ?_⟩;refine bk ?_;intro h6 b6 e6 z6;refine aw b6 rfl aj ?_;intro h7 b7 k7 z7;have b7:bH h7 h5.size 25 [.int .i64 (f1 o2),.int .i64 (f2 o2),.int .i64 (f3 o2),.int .i64 (f4 o2)]:=b7;have e57:Ext h5 h7:=Ch.trans e6 k7 (fun i hi hx=>by simp at hi; omega);have e17:=(e14.trans e5).trans e57;refine Qn (va.an (e1.trans e17)) (vb.an (e1.trans e17)) ha hb ?_;intro p8 l8 c8 h8 v8 e8;have e18:=e17.trans e8;refine aK (any h8 e18 p8 l8 c8 (av++bv) v8) ?_;rintro _ h9 ⟨e9,rfl⟩;rw [CE];generalize C.find? (xL (av++bv))=o3 at law;refine ⟨(f1 o3,f2 o3,f3 o3,f4 o3,o3.isSome,()),rfl,ao ?_⟩;refine bk ?_;intro h10 b10 e10 z10;refine aw b10 rfl aj ?_;intro h11 b11 k11 z11;have b11:bH h11 h9.size 25 [.int .i64 (f1 o3),.int .i64 (f2 o3),.int .i64 (f3 o3),.int .i64 (f4 o3)]:=b11;have e911:Ext h9 h11:=Ch.trans e10 k11 (fun i hi hx=>by simp at hi; omega);have e811:=e9.trans e911;have e111:=e18.trans e811;have e011:=e1.trans e111;have w1:=((b4.an (e5.trans e57) aj).an e8 aj).an e811 aj;have w2:=(b7.an e8 aj).an e811 aj;have L1:∀ {L:Lp} {K:ZB->Hp->Prop} {k:Int->Int->Int->Int->T},k (f1 o1) (f2 o1) (f3 o1) (f4 o1) L K h11->T.ah (⟨h2.size,0,none⟩:Zx) [.int .i64,.int .i64,.int .i64,.int .i64] k L K h11:=fun hk=>af w1 (_,_,_,_,()) rfl hk
 have L2:∀ {L:Lp} {K:ZB->Hp->Prop} {k:Int->Int->Int->Int->T},k (f1 o2) (f2 o2) (f3 o2) (f4 o2) L K h11->T.ah (⟨h5.size,0,none⟩:Zx) [.int .i64,.int .i64,.int .i64,.int .i64] k L K h11:=fun hk=>af w2 (_,_,_,_,()) rfl hk
 have L3:∀ {L:Lp} {K:ZB->Hp->Prop} {k:Int->Int->Int->Int->T},k (f1 o3) (f2 o3) (f3 o3) (f4 o3) L K h11->T.ah (⟨h9.size,0,none⟩:Zx) [.int .i64,.int .i64,.int .i64,.int .i64] k L K h11:=fun hk=>af b11 (_,_,_,_,()) rfl hk
 have fin:=fun (L:Lp)=>GM (L:=L) kn e011
 have same:∀ o:Option Wh,(f1 o==f1 o && (f2 o==f2 o && (f3 o==f3 o && f4 o==f4 o)))=true:=fun o=>aj
 rcases law with ⟨rfl,rfl,rfl⟩ | ⟨q,rfl,hq⟩
 ·exact bJ rfl (bn rfl (bn rfl (fin _)))
 ·cases h1s:o1 with
  | some q1 =>
   subst h1s;refine bn rfl (bn rfl (bJ rfl ?_));refine L3 (L1 ?_);refine lz (fun K' hK=>H4 _ _ _ _ _ _ _ _ _ _ _ _ hK) ?_;refine ak (fun _=>bn rfl (fin _)) (fun hne=>?_);rcases hq with hq | hq
   ·cases hq;rw [same] at hne;cases hne
   ·subst hq;refine L3 (L2 ?_);refine lz (fun K' hK=>H4 _ _ _ _ _ _ _ _ _ _ _ _ hK) ?_;exact bn (same _) (bn rfl (fin _))
  | none =>
   subst h1s;have hq:o2=some q:=hq.resolve_left aj;subst hq;refine bJ rfl (bn rfl (bJ rfl ?_));refine L3 (L1 ?_);refine lz (fun K' hK=>H4 _ _ _ _ _ _ _ _ _ _ _ _ hK) ?_;refine ak (fun _=>bJ rfl ?_) (fun _=>?_) <;>
   ·refine L3 (L2 ?_);refine lz (fun K' hK=>H4 _ _ _ _ _ _ _ _ _ _ _ _ hK) ?_;exact bn (same _) (bn rfl (fin _))
end Go.Sx.Pn
namespace Go.Sx.Ob
open Go.Proofs Go.Proofs.YthbffkdafjboiaaGreatDoor
open Go.ChangeShapes Go.WideShapes Go.ChangeAt Go.WideMaps Go.WideElems Go.RowKit
def uP (P:Program) (t:TypeId):Option (List (TypeId × Nat)):=(P.underlying t).bind fun d=>match d with | .struct fs=>some (fs.toList.map fun f=>(f.type,f.offset)) | _=>none
section
variable {H:Type} {enc:TypeId × ZB->H} {P:Program} {W:World} {base fuel:Nat} {sp:Nat->Bool} {held:Bool} {t:TypeId} {cs:List ZB} {y:DataW H × List MemPlace}
def fU {l:List (TypeId × Nat)} (hu:uP P t=some l) (h:DataW.trod enc P W base sp held fuel t cs=some y) :
  ∃ (xs:List (DataW H × List MemPlace)) (n:Nat),y.1=.agg (xs.map (·.1))/\cs.length=P.cellsOf t/\xs.length=l.length/\∀ (i:Nat) (p:TypeId × Nat),l[i]?=some p->∃ x,xs[i]?=some x/\DataW.trod enc P W base sp held n p.1 ((cs.drop p.2).take (P.cellsOf p.1))=some x:=by
 unfold uP at hu;cases hd:P.underlying t with
 | none=>rw [hd] at hu; cases hu
 | some d =>
  rw [hd] at hu;simp only [Option.bind_some] at hu;split at hu
  ·rename_i fs;simp only [Option.some.injEq] at hu;obtain ⟨xs,n,_,hy,hl,hlen,hf⟩:=DataW.trod_struct hd h;refine ⟨xs,n,by rw [hy],hl,by rw [<- hu,W3,hlen,Yb],fun i p hp=>?_⟩;rw [<- hu,XO,YI] at hp;obtain ⟨f,hf1,rfl⟩:=hp;rw [Yn] at hf1;have h1:=hf i f hf1;cases hx:xs[i]? with
   | none =>
    rw [List.getElem?_eq_none_iff] at hx
    have:i<fs.size:=by
     by_cases g:i<fs.size
     ·exact g
     ·rw [XY ad] at hf1;cases hf1
    omega
   | some x=>rw [hx] at h1; exact ⟨x,rfl,h1⟩
  ·cases hu
theorem jm {h:Hp} {a:Zx}:∀ (vs:List ZB) (i:Nat),(∀ j,(hj:j<vs.length)->iq h (a.add (i+j))=some vs[j])->aJ h a i vs
 | [],_,_=>trivial
 | v::vs,i,hh=>⟨by have:=hh 0 aj; rw [Zi] at this; exact this,jm vs (i+1) fun j hj=>by
  have:=hh (j+1) (by simpa using hj)
  rw [show i+1+j=i+(j+1) from ad];simpa using this⟩
def Tl {a:Zx} {n:Nat} (h:W.cells? base a n=some cs):cs.length=n/\aJ W.heap a 0 cs:=by
 unfold World.cells? at h;split at h
 ·have hl:cs.length=n:=by simpa using Lib.mapM_length h
  refine ⟨hl,jm cs 0 fun j hj=>?_⟩;obtain ⟨b,hb,hf⟩:=Lib.mapM_at h j j (Ym ad);rw [W5 hj] at hb;cases hb;rw [XK,<- JI];exact hf
 ·cases h
theorem xA {α:Type} (Q:Nat->α->Prop):∀ n,(∀ i,i<n->∃ x,Q i x)->∃ l:List α,l.length=n/\∀ i (hi:i<l.length),Q i l[i]
 | 0,_=>⟨[],rfl,fun i hi=>by simp at hi⟩
 | n+1,h=>by
  obtain ⟨l,hl,hp⟩:=xA Q n (fun i hi=>h i ad);obtain ⟨x,hx⟩:=h n ad;refine ⟨l++[x],by simp [hl],fun i hi=>?_⟩
  by_cases hin:i<l.length
  ·rw [Yv hin];exact hp i hin
  ·have hi':i=n:=by simp at hi; omega
   subst hi';rw [List.getElem_append_right ad];simpa using hx
def NL {ds:List (DataW H)} {ks:List Nat} (hl:ds.length=ks.length) (h:∀ i,(hi:i<ks.length)->(hj:i<ds.length)->ks[i]=Rows.uptoBulk ds[i]):Rows.uptoBulkAll ds=ks.sum:=by
 induction ds generalizing ks with
 | nil =>
  cases ks with
  | nil=>rfl
  | cons k ks=>simp at hl
 | cons d ds ih =>
  cases ks with
  | nil=>simp at hl
  | cons k ks =>
   have h0:=h 0 aj aj;simp only [List.getElem_cons_zero] at h0
   have:=ih (ks:=ks) (by simpa using hl) (fun i hi hj=>h (i+1) (by simpa using hi) (by simpa using hj))
   unfold Rows.uptoBulkAll;rw [this,X1,h0]
structure AJ {α:Type} (Q:α->List ZB->Nat->Prop) (h:Hp) (sz:Nat) (p:ZC) (l c:Nat) (us:List α) (ks:List Nat):Prop where
 len:l=us.length
 xS:ks.length=us.length
 cells:∀ i,(hi:i<us.length)->(hk:i<ks.length)->∃ a cs,p=some a/\aJ h (a.add (i*sz)) 0 cs/\Q us[i] cs ks[i]
 cap:l<=c
 TX:c<=maxLen
 nil:p=none->c=0
def open_slice {α:Type} {e:TypeId} {sz:Nat} (hu:P.underlying t=some (.slice e)) (hc:P.cellsOf e=sz) (Q:α->List ZB->Nat->Prop)
  (hel:∀ (cs:List ZB) (y:DataW H × List MemPlace) (n:Nat),DataW.trod enc P W base sp held n e cs=some y->∃ x:α,Q x cs (Rows.uptoBulk y.1))
  (h:DataW.trod enc P W base sp held fuel t cs=some y) :
  ∃ (p:ZC) (l c:Nat) (us:List α) (ks:List Nat),cs=[.slice p l c]/\AJ Q W.heap sz p l c us ks/\ks.sum+1<=Rows.uptoBulk y.1:=by
 rcases DataW.trod_slice hu h with ⟨e0,hy0⟩ | ⟨a,len,cap,elems,rest,n,_,e0,hy0,hbase,hlc,hcm,hlen,hev,_,_⟩
 ·refine ⟨none,0,0,[],[],e0,⟨rfl,rfl,fun i hi=>by simp at hi,Xk _,Y5 _,fun _=>rfl⟩,?_⟩;rw [hy0];simp only [Rows.uptoBulk];decide
 ·have each:∀ i,i<len->∃ x:α × Nat,∃ cs',aJ W.heap (a.add (i*sz)) 0 cs'/\Q x.1 cs' x.2/\∃ y,elems[i]?=some y/\x.2=Rows.uptoBulk y.1:=by
   intro i hi;have he:=hev i hi;cases hy:elems[i]? with
   | none=>rw [List.getElem?_eq_none_iff] at hy; omega
   | some y =>
    rw [hy,hc] at he;simp only [Option.bind_eq_some_iff] at he;obtain ⟨cs',hcs,htr⟩:=he;obtain ⟨hl,iq⟩:=Tl hcs;obtain ⟨x,hx⟩:=hel _ _ _ htr;exact ⟨(x,Rows.uptoBulk y.1),cs',iq,hx,y,rfl,rfl⟩
  obtain ⟨xs,hxl,hxs⟩:=xA _ len each;refine ⟨some a,len,cap,xs.map (·.1),xs.map (·.2),e0,⟨by rw [W3,hxl],by rw [W3,W3],fun i hi hk=>?_,hlc,hcm,fun h=>by cases h⟩,?_⟩
  ·rw [W3] at hi;obtain ⟨cs',h1,h2,_⟩:=hxs i hi;rw [Xc,Xc];exact ⟨a,cs',rfl,h1,h2⟩
  ·have:=NL (ds:=elems.map (·.1)) (ks:=xs.map (·.2)) (by rw [W3,W3,hlen,hxl]) (fun i hi hj=>by
    rw [W3] at hi hj;obtain ⟨cs',_,_,y,hy,hk⟩:=hxs i hi;rw [W5 hj] at hy;rw [Xc,Xc,hk,Xo hy])
   rw [hy0];simp only [Rows.uptoBulk];rw [this];omega
end
def Nq {P:Program} {f:FuncId} {args:Array ZB} {W:World} {R:ZB->Hp->Prop} (h:HC P f args W.heap R) (he:∀ v h',R v h'->Ext W.heap h'):Calls P f args W fun e w'=>∃ v,e=.returned v/\Below W.heap.size W w'/\R v w'.heap:=by
 refine (h W rfl).mono fun e w' ⟨v,hv,hs,hr⟩=>⟨v,hv,⟨hs.os,hs.tape,hs.output,(he v _ hr).size,fun k hk=>(he v _ hr).same k hk aj⟩,hr⟩
def Gq {W W':World} (hB:Below W.heap.size W W') {p:MemPlace} (hp:p.block<W.heap.size):W.sameAt W' p:=by
 cases p with
 | cell b off =>
  show W'.cell? _=W.cell? _;unfold World.cell?;rw [hB.block b hp]
 | map b=>exact hB.block b hp
def V1:ownKnob Tryz.prog.godebug=none:=az
def u9:Tryz.prog.underlying 9=some .string:=az
def u4:Tryz.prog.underlying 4=some .bool:=az
def u3:Tryz.prog.underlying 3=some (.int .i64):=az
def u5:Tryz.prog.underlying 5=some (.int .u8):=az
def VT:Tryz.prog.underlying 155=some (.array 43 120):=az
def UZ:Tryz.prog.cellsOf 120=3:=az
def V9:Tryz.prog.cellsOf 155=129:=az
def c9:Tryz.prog.cellsOf 9=1:=az
def c5:Tryz.prog.cellsOf 5=1:=az
def c3:Tryz.prog.cellsOf 3=1:=az
def Wj:uP Tryz.prog 120=some [(9,0),(5,1),(3,2)]:=az
def Dg:List (DataW Unit):=match (Rows.laid_spandrel_isa_table:DataW Unit) with | .agg l=>l | _=>[]
def LK:DataW Unit->Int
 | .agg [_,_,.lit (.int _ n)]=>n
 | _=>0
def Pe:(Rows.laid_spandrel_isa_table:DataW Unit)=.agg Dg:=az
def Mo:Dg.map LK=(List.range 43).map fun k=>((jG.getD k 0:Nat):Int):=az
theorem DH {α β:Type} (f:α->List β) (m:Nat) (hf:∀ x,(f x).length=m):∀ l:List α,(l.flatMap f).length=l.length*m
 | []=>aj
 | x::l=>by rw [XJ,W8,hf,DH f m hf l,XP,Nat.succ_mul,Nat.add_comm]
def Cq (nm:Nat->ZA) (by_:Nat->Int):(iT nm by_).length=129:=by
 unfold iT;rw [DH _ 3 (fun x=>rfl),Yy]
def Tg:DataW Unit->List UInt8
 | .agg [.lit (.string s),_,_]=>s
 | _=>[]
def Ti:DataW Unit->Int
 | .agg [_,.lit (.int _ n),_]=>n
 | _=>0
def VJ (k:Nat):List UInt8:=(sT k).data.toList
def Oy:Dg.map Tg=(List.range 43).map fun k=>VJ k:=az
def Pz:Dg.map Ti=(List.range 43).map fun k=>tK k:=az
def Bz {enc:TypeId × ZB->Unit} {W:World} {base fuel:Nat} {sp:Nat->Bool} {held:Bool} {cs:List ZB} {p:List MemPlace}
  (h:DataW.trod enc Tryz.prog W base sp held fuel 155 cs=some (Rows.laid_spandrel_isa_table,p)):cs=iT sT tK:=by
 obtain ⟨xs,m,_,hx,hl,hlen,hf⟩:=DataW.trod_array VT h;rw [V9] at hl;have hxs:xs.map (·.1)=Dg:=by
  have:=Xj Prod.fst hx
  rw [show (Rows.laid_spandrel_isa_table,p).1=DataW.agg Dg from Pe] at this;simpa using this.symm
 have each:∀ i,i<43->(cs.drop (i*3)).take 3=[.string (sT i),.int .u8 (tK i),.int .i64 ((jG.getD i 0:Nat):Int)]:=by
  intro i hi;have h1:=hf i hi;rw [UZ] at h1;rw [W5 ad] at h1;obtain ⟨ys,n,hy,hyl,hyn,hys⟩:=fU Wj h1;obtain ⟨y0,g0,t0⟩:=hys 0 _ rfl;obtain ⟨y1,g1,t1⟩:=hys 1 _ rfl;obtain ⟨y2,g2,t2⟩:=hys 2 _ rfl;rw [UZ] at hyl;generalize hc:(cs.drop (i*3)).take 3=c at *
  match c,hyl with
  | [v0,v1,v2],_ =>
   rw [show Tryz.prog.cellsOf (9,0).1=1 from c9] at t0;rw [show Tryz.prog.cellsOf (5,1).1=1 from c5] at t1;rw [show Tryz.prog.cellsOf (3,2).1=1 from c3] at t2;obtain ⟨s,e0,r0,_⟩:=DataW.trod_string u9 t0;obtain ⟨b,e1,r1,_⟩:=DataW.trod_int u5 t1;obtain ⟨k,e2,r2,_⟩:=DataW.trod_int u3 t2;cases e0; cases e1; cases e2;have hys3:ys=[y0,y1,y2]:=by
    apply Yd;intro j
    match j with
    | 0=>exact g0
    | 1=>exact g1
    | 2=>exact g2
    | j+3=>rw [XI (by rw [hyn]; simp),XI aj]
   have h2:(xs.map (·.1))[i]?=some (xs[i]'ad).1:=by rw [XO,W5 ad]; rfl
   rw [hxs] at h2;have hk:k=((jG.getD i 0:Nat):Int):=by
    have h3:(Dg.map LK)[i]?=some (LK (xs[i]'ad).1):=by rw [XO,h2]; rfl
    rw [Mo,XO,Ym hi] at h3;rw [hy,hys3,r0,r1,r2] at h3;exact (Xo h3).symm
   have hb:b=tK i:=by
    have h3:(Dg.map Ti)[i]?=some (Ti (xs[i]'ad).1):=by rw [XO,h2]; rfl
    rw [Pz,XO,Ym hi] at h3;rw [hy,hys3,r0,r1,r2] at h3;exact (Xo h3).symm
   have hs:s=sT i:=by
    have h3:(Dg.map Tg)[i]?=some (Tg (xs[i]'ad).1):=by rw [XO,h2]; rfl
    rw [Oy,XO,Ym hi] at h3;rw [hy,hys3,r0,r1,r2] at h3;exact B9 (Xo h3).symm
   rw [hk,hb,hs]
 apply Yd;intro j
 by_cases hj:j<129
 ·obtain ⟨a,b,hab,hb⟩:∃ a b,j=a*3+b/\b<3:=⟨j / 3,j % 3,ad,ad⟩
  subst hab;unfold iT;rw [qZ (fun k=>[Value.string (sT k),.int .u8 (tK k),.int .i64 (jG.getD k 0:Nat)]) 3 (fun x=>rfl) _ a b hb,Ym ad];show cs[a*3+b]?=[Value.string (sT a),.int .u8 (tK a),.int .i64 ((jG.getD a 0:Nat):Int)][b]?
  have:=each a ad
  rw [<- this,YN,Xb hb,YC]
 ·have hr:(iT sT tK).length=129:=Cq _ _;rw [XI ad,XI ad]
def Cl {P:Program} {W:World} {name:String} {g:Nat} {cs:Array ZB} (hg:P.globalNamed name=some g) (hv:W.var? P name=some cs):∃ e f,W.heap[g]?=some (.cells cs e f):=by
 unfold World.var? at hv;rw [hg] at hv;have hv:(match (W.heap[g]?:Option Obj) with | some (.cells cs _ _)=>some cs | _=>none)=some cs:=hv;split at hv
 ·rename_i cs' e f hh;cases hv;exact ⟨e,f,hh⟩
 ·cases hv
def Oz {W:World} (h:laidMetH Tryz.prog Rows.plainNumbersRow.laid W):Ar W.heap/\fP W.heap:=by
 rw [MakeChecks.laidMetH_plain _ _ _ az] at h;obtain ⟨ps,⟨g0,t0,cs0,f0,p0,q0,hg0,ht0,hv0,hd0,⟨g1,t1,cs1,f1,p1,q1,hg1,ht1,hv1,hd1,⟨g2,t2,cs2,f2,p2,q2,hg2,ht2,hv2,hd2,⟨g3,t3,cs3,f3,p3,q3,hg3,ht3,hv3,hd3,_,_⟩,_⟩,_⟩,_⟩,_,_⟩:=h;obtain rfl:=Xo ((show Tryz.prog.globalNamed _=some 1 from az).symm.trans hg2);obtain rfl:=Xo ((show Tryz.prog.globalNamed _=some 0 from az).symm.trans hg3);have h2:(Tryz.prog.globals[1]?).map (·.type)=some 239:=az
 obtain rfl:=Xo (h2.symm.trans ht2);have h3:(Tryz.prog.globals[0]?).map (·.type)=some 155:=az
 obtain rfl:=Xo (h3.symm.trans ht3);have hc:=Lib.cells_of_tab (n:=20) (e:=215) (k:=.u64) (zs:=Lib.pow10Tab) az az az az hd2;have hr:=Bz hd3;obtain ⟨e2,ff2,ho2⟩:=Cl hg2 hv2;obtain ⟨e3,ff3,ho3⟩:=Cl hg3 hv3;refine ⟨⟨sT,tK,e3,ff3,?_⟩,⟨e2,ff2,?_⟩⟩
 ·rw [ho3,<- hr]
 ·rw [ho2,<- hc]
def NC (os:Os) (args:Array ZB):laidMetH Tryz.prog Rows.plainNumbersRow.laid ((World.doorLaid Tryz.prog 400 os).forCall (fun _ _=>0) ⟨#[],args,[]⟩).memory :=
 laidMetH_of_parts3 (fuel:=8) (laidMet_of_run' 8 az az) az az
end Go.Sx.Ob
