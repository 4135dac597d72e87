/- Contracts over heaps, part 6. Condition: as each statement says. -/
import Derived.Test.YtmdncdaladplkaaGreatDoorP5
import Derived.Test.YtmdncdaladplkaaGreatDoorSxV
import Derived.Test.YtmdncdaladplkaaGreatDoorBtG
import Derived.Test.YtmdncdaladplkaaGreatDoorRows
import Derived.ProofKit
import Derived.LaidMore
import Derived.LaidLaws
import Derived.OpenShut
import Derived.ChangeSame
import Derived.ChangeStays
import Derived.ChangeOld
import Derived.ChangeSlices
import Derived.ChangeMaps5
import Derived.JoinedCond
import Derived.Lib.LaidTab
import Derived.Stop.Joined
set_option linter.all false
set_option maxRecDepth 100000
set_option maxHeartbeats 4000000
namespace Go.Sx.Lk
open Go.Proofs Go.Sx.Ob
structure C2 (h:Hp) (b:Nat) (s:bC) (ws:List (bC × cB)):Prop where
 out:SL h b 55 10 s.p s.l s.c (ws.map uN)
 fF:∀ u,u∈ws->SL h b 64 2 u.1.p u.1.l u.1.c (u.2.e.af.map cT)
variable {H:Hp}
def C2.vd {b:Nat} {s:bC} {ws:List (bC × cB)} (o:C2 H b s ws):Ym H s.p s.l ws :=
 ⟨by have:=o.out.1; rwa [ab9] at this,λi hi=>by
  obtain ⟨a,c,hc⟩:=o.out.cells (i:=i) (by simpa using hi);rw [aj9] at hc;exact ⟨a,c,hc⟩⟩
def kh (lo hi:Nat) (ts:List bC):Prop:=∃ β:Nat->Nat,(∀ k,lo<=β k/\β k<=hi/\β k<=β (k+1))/\∀ k,(hk:k<ts.length)->∀ i,i∈ax ts[k].p->β k<=i/\i<β (k+1)
def kh.nil {lo hi:Nat} (h:lo<=hi):kh lo hi []:=⟨λ_=>lo,λ_=>⟨am9 _,h,am9 _⟩,λk hk=>absurd hk ai⟩
def kh.snoc {lo m hi:Nat} {ts:List bC} {t:bC} (a:kh lo m ts) (e:m<=hi) (ht:∀ i,i∈ax t.p->m<=i/\i<hi):kh lo hi (ts++[t]):=by
 obtain ⟨β,h1,h2⟩:=a;refine ⟨λk=>if k<=ts.length then β k else hi,λk=>?_,λk hk i b=>?_⟩
 ·have h3:=h1 k;have h4:=h1 0;dsimp only;split <;> split <;> omega
 ·dsimp only;rw [ae9,List.length_singleton] at hk;rw [ag9 ad]
  by_cases c:k<ts.length
  ·rw [ag9 ad];rw [br9 c] at b;exact h2 k c i b
  ·have d:k=ts.length:=ad
   subst d;rw [ch9 (am9 _)] at b;simp only [Nat.sub_self,List.getElem_cons_zero] at b;rw [ac9 ad]
   have:=ht i b
   have:=h1 ts.length
   omega
variable {O U:Nat}
def kh.bd {lo hi:Nat} {ts:List bC} (a:kh lo hi ts) {t:bC} (ht:t∈ts) (b:O∈ax t.p):lo<=O/\O<hi:=by
 obtain ⟨β,h1,h2⟩:=a;obtain ⟨k,hk,rfl⟩:=bh9 ht
 have:=h2 k hk O b
 have:=h1 k
 have:=h1 (k+1)
 omega
def kh.wk {lo hi:Nat} {ts:List bC} (a:kh lo hi ts) (h1:O<=lo) (h2:hi<=U):kh O U ts:=by
 obtain ⟨β,b,c⟩:=a;exact ⟨β,λk=>by have:=b k; omega,c⟩
def X4 {e:TypeId} {sz:Nat} {p:Xac} {c:Nat} {zs:List (List Xab)} (s:SL H O e sz p U c zs):∀ i,i∈ax p->i<H.size:=λi hi=>by
 obtain ⟨ys,a⟩:=SL.ye s i hi;exact a.lt
def yx (h:Hp) (us:List cB) (v:Xab) (h':Hp):Prop:=Ext h h'/\∃ s ws,v=bC.v s/\C2 h' h.size s ws/\ws.map (·.2)=us/\kh h.size h'.size (ws.map (·.1))
def WE {h0 h:Hp} {b0:Nat} {s:bC} {ws:List (bC × cB)} (e0:Ext h0 h) (o:SL h h0.size 55 10 s.p s.l s.c (ws.map uN)) (hin:∀ u,u∈ws->SL h0 b0 64 2 u.1.p u.1.l u.1.c (u.2.e.af.map cT)) (hl:ws.length<=2^30) (ht:∀ u,u∈ws->u.2.e.af.length<=2^40) :
  ZP s.p s.l s.c [] (yx h0 (ws.map (·.2))) h:=by
 unfold ZP aR aY bz aK cv aS;have K:s.l=ws.length:=by have:=o.1; rwa [ab9] at this
 have z0:=e0.size
 refine aM (cs:=cz) (λy I h'=>∃ (i:Nat) (b:List (bC × cB)),y.1=(i:Int)/\i<=ws.length/\I=ws.length-i/\Ext h0 h'/\SL h' h0.size 55 10 s.p s.l s.c (b.map uN)/\b.length=ws.length/\kh h0.size h'.size ((b.take i).map (·.1)) /\
   ∀ m,(g:m<ws.length)->(x:m<b.length)->b[m].2=ws[m].2/\if m<i then SL h' h0.size 64 2 b[m].1.p b[m].1.l b[m].1.c (b[m].2.e.af.map cT) else b[m]=ws[m]) ((0:Int),()) ws.length rfl
  ⟨0,ws,rfl,ad,ad,e0,o,rfl,kh.nil z0,λm g x=>⟨rfl,by rw [ac9 ad]⟩⟩ ?_
 clear e0 o z0;rintro ⟨L,⟨⟩⟩ I h1 ⟨i,b,hi,M,rfl,C,o,t,f,et⟩;simp only at hi;subst hi;refine ak ?_;have z1:=C.size;refine aI ?_ ?_<;>intro q
 ·have w:i<ws.length:=ad
  have d:i<b.length:=ad
  have hi:=(et i w d).2;rw [ac9 ad] at hi;obtain ⟨a,H,hc⟩:=o.cells (i:=i) (by simpa using d);rw [aj9,hi] at hc;have hin:=hin ws[i] (ah9 w);have ht:=ht ws[i] (ah9 w);generalize D:ws[i]=u at hin hc ht;refine bM H ?_;rw [cg i];refine ar ((u.1.p,u.1.l,u.1.c),()) (fk 1 [_,_,_] 0 (jL _ 7 0 (iK 7 _ 0 hc))) (ak ?_);refine aG (Ix (c:=u.1.c) (ym (hin.aj C ai)) ht) ?_;rintro _ h2 ⟨⟨p',l',c',rfl,E⟩,F⟩;refine ⟨((p',l',c'),()),rfl,ak ?_⟩;refine bM H ?_;have o2:=o.aj F ai;refine SL.part (P:=Xaz) o2 (i:=i) (by rw [ab9]; exact d) (o:=7) ai (by simp [df]) H ?_;intro N J G z3;have z:(b.map uN).set i (iw ((b.map uN)[i]'(by rw [ab9]; exact d)) 7 [.slice p' l' c'])=(b.set i (⟨p',l',c'⟩,u.2)).map uN:=by
   rw [fh9,aj9,hi,D] <;> rfl
  rw [z] at J;have hw:=gK i;rw [hw];refine aC (cs:=cz) (((i+1:Nat):Int),()) (ws.length-(i+1)) rfl ad rfl ?_;refine ⟨i+1,_,rfl,ad,rfl,Ch.trans (C.trans F) G (λj n hl=>by have:=(o2.cj n).1; omega),J,by rw [cv9]; exact t,?_,λm g x=>?_⟩
  ·rw [af9 (by rw [cv9]; exact d),ao9,List.take_set_of_le (am9 _),List.getElem_set_self];have z2:=F.size;have z3':=G.size;exact f.snoc ad λj n=>⟨(E.cj n).1,by have:=X4 E j n; omega⟩
  by_cases A:m=i
  ·subst A;rw [ag9 ad,List.getElem_set_self,D];exact ⟨rfl,(E.bf G (λj n g=>xc o2 E bH j g n)).mono z1⟩
  ·have k:m<b.length:=ad
   have:=et m g k
   rw [List.getElem_set_ne (Ne.symm A)];refine ⟨this.1,?_⟩;have this:=this.2
   by_cases r:m<i
   ·rw [ag9 r] at this;rw [ag9 ad]
    have:=this.aj F ai
    exact this.bf G (λj n g=>xc o2 this bH j g n)
   ·rw [ac9 r] at this;rw [ac9 ad];exact this
 ·have hi:i=ws.length:=ad
  subst hi;refine ⟨C,s,b,rfl,⟨o,λu D=>?_⟩,?_,by rw [<- t,bj9] at f; exact f⟩
  ·obtain ⟨m,g,rfl⟩:=bh9 D
   have:=(et m ad g).2
   rwa [ag9 ad] at this
  ·refine fy9 (by rw [ab9,ab9]; exact t) λm B k=>?_
   rw [ab9] at B k;rw [aj9,aj9];exact (et m k B).1
section
variable {h:Hp} {B N M:Nat} {w:LW} {usl lb:bC} {sp:Int} {S:Nat->lM}
def O4 (s:r5 h B w usl lb sp N M S):ug Xaz 39 [ptr (B+3)] h (vI (N:Int)):=by
 refine eW mixed Tryz.func39 av (oL (some ⟨B+3,0,none⟩)) ?_;unfold jU;refine aF rfl ?_;refine ay s.box ((usl.p,usl.l,usl.c),()) ?_;have a:usl.l=N:=by have:=s.un.1; rwa [km] at this
 exact ⟨by rw [<- a],rfl⟩
def vv (S:Nat->lM) (N:Nat) (n k:Int):List cB:=if 0<=n/\n<N/\(k=0\/k=1) then (S (2*n.toNat+k.toNat)).ws.map (·.2) else []
def qS (h:Hp):yx h [] (.slice none 0 0) h:=⟨Ch.refl _ _,mG,[],rfl,⟨SL.nil _ _ _ _,ai⟩,rfl,kh.nil (am9 _)⟩
def O5 (s:r5 h B w usl lb sp N M S) (K:2*N<=M) (L:N<=2^30) (hs:∀ k,k<2*N->(S k).ws.length<=2^30/\∀ u,u∈(S k).ws->u.2.e.af.length<=2^40) (n k:Int) (hn:-9223372036854775808<=n/\n<=9223372036854775807) :
  HC Xaz 40 #[ptr (B+3),vI n,vI k] h (yx h (vv S N n k)):=by
 refine aX (args:=[ptr (B+3),vI n,vI k]) mixed Tryz.func40 av (oA (some ⟨B+3,0,none⟩) n k) ?_;unfold jX aR aK cv bm;have D:usl.l=N:=by have:=s.un.1; rwa [km] at this
 have d:¬ (0<=n/\n<N/\(k=0\/k=1))->vv S N n k=[]:=λh=>by unfold vv; rw [ac9 h]
 refine ao ?_ ?_<;>intro q
 ·have q:=ai9 q;rw [d ad];exact qS h
 have q1:=aw9 q;refine aF rfl ?_;refine ay s.box ((usl.p,usl.l,usl.c),()) (ak ?_);refine ao ?_ ?_<;>intro q
 ·have q:=ai9 q;rw [d ad];exact qS h
 have q2:=aw9 q;refine ao ?_ ?_<;>intro q
 ·have q:=ai9 q;rw [d ad];exact qS h
 have q3:=aw9 q;refine ao ?_ ?_<;>intro q
 ·have q:=ai9 q;rw [d ad];exact qS h
 have q4:=aw9 q;have o:n.toNat<N:=ad
 obtain ⟨a,C,hc⟩:=s.un.cells (i:=n.toNat) (by rw [km]; exact o);rw [Eo] at hc;generalize A:n.toNat=m at hc o;have g:∀ j,j<2->∃ f:bC,f=(S (2*m+j)).s/\Ym h f.p f.l (S (2*m+j)).ws:=by
  intro j E;have hs:=s.yP.sec (2*m+j) ad;exact ⟨_,rfl,C2.vd (b:=B+4) ⟨hs.out,hs.fF⟩⟩
 have hit:k=0\/k=1->vv S N n k=(S (2*m+k.toNat)).ws.map (·.2):=λhk=>by
  unfold vv;rw [ag9 ⟨ad,ad,hk⟩,A]
 refine aF rfl ?_;refine ay s.box ((usl.p,usl.l,usl.c),()) (ak ?_);refine bM C ?_;obtain ⟨f,r,F⟩:=g 0 ad;obtain ⟨x,y,G⟩:=g 1 ad;have hc:aH h (a.add (m*4)) 0 [f.v,x.v,mG.v,mG.v]:=by rw [r,y]; exact hc
 refine ar ((f.p,f.l,f.c),()) (fk 1 _ 0 hc) (ak ?_);have z:∀ (j:Nat) (t:bC),j<2->t=(S (2*m+j)).s->Ym h t.p t.l (S (2*m+j)).ws->(T.call Xaz 57 [.slice t.p t.l t.c] false [(false,[.slice 55])] λp l c=>ZP p l c) [] (yx h ((S (2*m+j)).ws.map (·.2))) h:=by
  intro j t E ht H;have hsz:=hs (2*m+j) ad;have se:=s.yP.sec (2*m+j) ad;refine aG (Es (c:=t.c) H hsz.1) ?_;rintro _ h1 ⟨⟨p',c',rfl,I⟩,J⟩;refine ⟨((p',t.l,c'),()),rfl,ak ?_⟩;exact WE (s:=⟨p',t.l,c'⟩) J I se.fF hsz.1 hsz.2
 refine ao ?_ ?_<;>intro q
 ·have hk:k=1:=by simpa using q
  rw [hit (.inr hk),hk];refine aF rfl ?_;refine ay s.box ((usl.p,usl.l,usl.c),()) (ak ?_);refine bM C ?_;refine ar ((x.p,x.l,x.c),()) (fk 1 [_,_,_] 0 (jL _ 1 0 (iK 1 _ 0 hc))) (ak ?_);exact z 1 x ad y G
 ·have hk:k=0:=by
   have:¬ k=1:=by
    intro h;rw [h] at q;exact absurd q bH
   omega
  rw [hit (.inl hk),hk];exact z 0 f ad r F
end
def Wv:Xab:=.tuple #[.pointer none,.pointer none,.bool false,.bool true]
def R3 (us:List cm) (P:LP) (F:cm->List cB) (tw:List (bC × List (bC × cB))):Prop :=
 tw.length=us.length/\∀ n u x,us[n]?=some u->tw[n]?=some x->x.2.map (·.2)=(F u).map (P.fG n)
structure C8 (h0 h':Hp) (us:List cm) (su:bC) (P:LP) (B:Nat) (usl lb:bC) (S:Nat->lM) (g b':Nat) (lb2 st sd:bC) (tw dw:List (bC × List (bC × cB))):Prop where
 le:h0.size<=B
 pg:r5 h' B P.w usl lb ((nG us:Nat):Int) us.length (2*us.length) S
 its:∀ n,(hn:n<us.length)->(S (2*n)).ws.map (·.2)=us[n].text.map (P.fG n)/\(S (2*n+1)).ws.map (·.2)=us[n].data.map (P.fG n)
 sz:∀ k,k<2*us.length->P2 (S k)
 pr:Fy h' g su lb2 st sd (cr 0 us)
 tx:wY h' b' st tw
 dx:wY h' b' sd dw
 ti:R3 us P (·.text) tw
 di:R3 us P (·.data) dw
def ofQ (h0:Hp) (us:List cm) (su:bC) (v:Xab) (h':Hp):Prop:=Ext h0 h' /\
 if vu us=true then v=Wv else match nB us with
 | .error _=>v=Wv
 | .ok P=>∃ B usl lb S g b' lb2 st sd tw dw,v=.tuple #[ptr (B+3),ptr g,.bool true,.bool true]/\C8 h0 h' us su P B usl lb S g b' lb2 st sd tw dw
def Rl {us:List cm} {P:LP} (d:F7 us (.ok P)) (sm:IJ us) {ms:List cV} (f:ms.map fQ=(dR us (cr 0 us) us).map λy=>(y.1,fy (fl (dR us (cr 0 us) us)) y.1)) {F:cm->List cB} (g:∀ u x,x∈F u->x.e∈cR u)
  {tw:List (bC × List (bC × cB))} (t:Aa us (cr 0 us) ms F us.length tw):R3 us P F tw:=by
 obtain ⟨z1,m,o,h,i,c,j,p⟩:=d;refine ⟨t.1,λn u x b k=>?_⟩;rw [t.2 n u x b k];refine cm9 λy l=>?_
 have hn:=(bc9.1 b).1;have hyl:=g u y l;have a:P.w.bad n y.e=none:=by
  have h1:=kz us 0 c n hn;rw [by9,(bc9.1 b).2,yM,db9] at h1;exact h1 _ hyl
 have e1:=i.put c j hn a (sm.num u (cr9 b) _ hyl).1 f;unfold LP.fG yp;rw [h,e1]
def YL (pw:eU H) (G:zY H) {su:bC} {us:List cm} (v:xZ H su.p su.l us) (sm:IJ us):HC Xaz 11 #[.slice su.p su.l su.c] H (ofQ H us su):=by
 refine aX (args:=[.slice su.p su.l su.c]) mixed Tryz.func11 av (tN su.p su.l su.c) ?_;unfold ob bj cv bR bZ;refine aJ (OB (c:=su.c) v) ?_;refine ao ?_ ?_<;>intro q
 ·refine ⟨Ch.refl _ _,?_⟩;rw [ag9 q] <;> rfl
 ·have F:∀ (w:Xab) (h':Hp),(Ext H h'/\match nB us with
    | .error _=>w=Wv
    | .ok P=>∃ B usl lb S g b' lb2 st sd tw dw,w=.tuple #[ptr (B+3),ptr g,.bool true,.bool true]/\C8 H h' us su P B usl lb S g b' lb2 st sd tw dw)->ofQ H us su w h':=by
   intro w h' Q;refine ⟨Q.1,?_⟩;rw [ac9 (by rw [q]; simp)];exact Q.2
  have ag:=BQ sm.num;refine aG (Uq (c:=su.c) pw G v sm) ?_;rintro _ h1 ⟨I,hl⟩;have v1:=v.aj I;cases s:nB us with
  | error f =>
   rw [s] at hl ag F;have hl:_=KS f.r6 f.unit f.name:=hl;subst hl;obtain ⟨t,k⟩:=ag;refine ⟨(none,(f.r6:Int),(f.unit:Int),f.name,()),rfl,ak ?_⟩;refine bn ?_;intro h2 J K z2;refine bJ J ?_;intro h3 m L z3;have m:br h3 h1.size 77 [vI (f.r6:Int),vI (f.unit:Int),.string f.name]:=m;have e:Ext h1 h3:=bS K L;have R:(gg us).r6=0->Qf us (FD us):=by
    intro n;rcases k with k | ⟨_,⟨o,w,A,U⟩,_⟩
    ·rw [k] at n;exact absurd n t
    ·exact HK sm o A U
   refine aG (Dq (v1.aj e) R) ?_;rintro V y ⟨z,j⟩;have C:V=Value.tuple #[.pointer none,SS f]:=by
    unfold Ep at j;rcases k with k | ⟨n,_,i,x,r,hi,rfl⟩
    ·rw [ag9 (by rw [k]; exact t),k] at j;exact j
    ·rw [ac9 ad] at j;rcases j with ⟨W,X,a,D,C⟩ | ⟨_,_,_,_,_,_,_,_,a,_⟩
     ·rw [r] at a;cases a;rw [hi] at D;cases D;exact C
     ·rw [r] at a;cases a
   subst C;refine ⟨(none,(f.r6:Int),(f.unit:Int),f.name,()),rfl,ak ?_⟩;refine bn ?_;intro Y M N Z;refine bJ M ?_;intro h6 d O z6;have d:br h6 y.size 91 [vI (f.r6:Int),vI (f.unit:Int),.string f.name]:=d;have b:Ext y h6:=bS N O;have b36:=m.aj (z.trans b) ai;have e06:=((I.trans e).trans z).trans b;refine ay b36 ((f.r6:Int),()) (ak ?_);refine ay d ((f.r6:Int),()) (ak ?_);refine bU ai ?_;rw [aw,aw];refine ay b36 ((f.unit:Int),()) (ak ?_);refine ay d ((f.unit:Int),()) (ak ?_);refine bU ai ?_;rw [aw,aw];refine ay b36 (f.name,()) (ak ?_);refine ay d (f.name,()) (ak ?_);refine bU ai ?_;refine ay d ((f.r6:Int),()) (ak ?_);have n:((f.r6:Int)==(0:Int))=false:=by
    have:¬ (f.r6:Int)=0:=ad
    simpa using this
   rw [n];refine bU rfl ?_;exact F _ _ ⟨e06,rfl⟩
  | ok P =>
   rw [s] at hl ag F;obtain ⟨B,usl,lb,S,hB,hv,pg,its,n⟩:=hl;subst hv;have ag':=ag;obtain ⟨z1,o,u1,d1,A1,b1,c1,f1⟩:=ag;refine ⟨(some ⟨B+3,0,none⟩,(0:Int),(0:Int),(⟨#[]⟩:Xaa),()),rfl,ak ?_⟩;refine bn ?_;intro h2 J K z2;refine bJ J ?_;intro h3 m L z3;have m:br h3 h1.size 77 [vI 0,vI 0,.string ⟨#[]⟩]:=m;have e:Ext h1 h3:=bS K L;refine aG (Dq (v1.aj e) (λ_=>HK sm o A1 b1)) ?_;rintro _ y ⟨z,j⟩;unfold Ep at j;rw [ac9 ad] at j;rcases j with ⟨W,X,a,_⟩ | ⟨g,b',lb2,st,sd,tw,dw,ms,_,C,E,pr,tx,dx,ti,di⟩
   ·rw [f1] at a;cases a
   subst C;refine ⟨(some ⟨g,0,none⟩,(0:Int),(0:Int),(⟨#[]⟩:Xaa),()),rfl,ak ?_⟩;refine bn ?_;intro Y M N Z;refine bJ M ?_;intro h6 d O z6;have d:br h6 y.size 91 [vI 0,vI 0,.string ⟨#[]⟩]:=d;have b:Ext y h6:=bS N O;have b36:=m.aj (z.trans b) ai;have e16:=(e.trans z).trans b;refine ay b36 ((0:Int),()) (ak ?_);refine ay d ((0:Int),()) (ak ?_);refine bU rfl ?_;rw [aw,aw];refine ay b36 ((0:Int),()) (ak ?_);refine ay d ((0:Int),()) (ak ?_);refine bU rfl ?_;rw [aw,aw];refine ay b36 ((⟨#[]⟩:Xaa),()) (ak ?_);refine ay d ((⟨#[]⟩:Xaa),()) (ak ?_);refine bU ai ?_;refine ay d ((0:Int),()) (ak ?_);refine bU rfl ?_;refine F _ _ ⟨I.trans e16,B,usl,lb,S,g,b',lb2,st,sd,tw,dw,rfl,hB,pg.ext e16,its,n,pr.aj b,tx.ext b,dx.ext b,?_,?_⟩
   ·exact Rl ag' sm E (λu x r=>be9 _ (be9 _ (ay9 r))) ti
   ·exact Rl ag' sm E (λu x r=>be9 _ (bi9 _ (ay9 r))) di
end Go.Sx.Lk
namespace Go.Sx
open Go.Proofs
def Dg {h:Hp} {p q:Xac} {l m c d:Nat} {x y:bK} (v:iA h p l x.af) (w:iA h q m y.af) (hl:x.af.length<=2^60) :
  HC Xaz 16 #[iD p l c x,iD q m d y] h λr h'=>r=.bool (jO x y)/\Ext h h':=by
 refine aX (args:=[.agg #[.slice p l c,.int .u32 x.num],.agg #[.slice q m d,.int .u32 y.num]]) mixed Tryz.func16 av (qI p l c x.num q m d y.num) ?_;unfold lP aR aY bz aK ja aE cC fR aS cH;refine bn ?_;intro h1 b1 F z1;refine bn ?_;intro h2 A B z2;have b1:=b1.aj B ai;have e02:=F.trans B;have v:=v.aj e02 ai;have w:=w.aj e02 ai;have hv:=v.len;have hw:=w.len;rw [aw,aw];refine ay b1 ((x.num:Int),()) (ak ?_);refine ay A ((y.num:Int),()) (ak ?_);refine ao ?_ ?_<;>intro f
 ·have f:¬ x.num=y.num:=by have:¬ (x.num:Int)=y.num:=(by simpa using f); omega
  refine ⟨?_,e02⟩;unfold jO;rw [al9 f] <;> rfl
 ·have f:x.num=y.num:=by have:(x.num:Int)=y.num:=(by simpa using f); omega
  have G:jO x y=decide (x.af=y.af):=by
   unfold jO;rw [ak9 f] <;> rfl
  rw [G];refine ay b1 ((p,l,c),()) (ak ?_);refine ay A ((q,m,d),()) (ak ?_);refine ao ?_ ?_<;>intro g
  ·have g:¬ (l:Int)=(m:Int):=by simpa using g
   exact ⟨by rw [al9 (λe=>by rw [e] at hv; omega)],e02⟩
  ·have g:(l:Int)=(m:Int):=by simpa using g
   refine aM (cs:=iv) (λz n h'=>∃ (i:Nat),z.2.1=(i:Int)/\i<=x.af.length/\n=x.af.length-i/\h2=h'/\(x.af=y.af↔x.af.drop i=y.af.drop i)) (false,(0:Int),()) x.af.length rfl
    ⟨0,rfl,ad,ad,rfl,Iff.rfl⟩ ?_
   rintro ⟨C,n8,⟨⟩⟩ n H ⟨i,hi,D,rfl,rfl,E⟩;simp only at hi;subst hi;refine ak ?_;refine ay b1 ((p,l,c),()) (ak ?_);refine aI ?_ ?_<;>intro g
   ·have j:i<x.af.length:=ad
    have k:i<y.af.length:=ad
    obtain ⟨a,rfl,hc⟩:=v.cells i j;obtain ⟨a',rfl,o⟩:=w.cells i k;have hst:=xR j k;have hno:=BR j k;generalize x.af[i]=t at hc hst hno;generalize y.af[i]=u at o hst hno;refine ay b1 ((some a,l,c),()) (ak ?_);refine bM rfl ?_;rw [cg i];refine ar (t.1,(t.2:Int),()) hc (ak ?_);refine ay A ((some a',m,d),()) (ak ?_);refine bM rfl ?_;refine ar (u.1,(u.2:Int),()) o (ak ?_);refine pL (b:=decide (t≠u)) (λI hk=>FM _ _ _ _ _ _ _ _ (by rw [OL]; exact hk)) ?_;refine ⟨⟨A.cells _ rfl,b1.cells _ rfl,trivial⟩,?_⟩;refine ao ?_ ?_<;>intro s
    ·exact ⟨by rw [al9 (hno (ai9 s))],e02⟩
    ·have s:t=u:=by simpa using s
     have hw:=gK i;exact aC (cs:=iv) (C,((i+1:Nat):Int),()) (x.af.length-(i+1)) rfl ad (as9 (λz=>[Value.bool C,Value.int .i64 z]) hw) ⟨i+1,rfl,ad,rfl,rfl,E.trans (hst s)⟩
   ·refine ⟨?_,e02⟩;rw [ak9 (E.2 (by rw [ce9 ad,ce9 ad]))]
end Go.Sx
namespace Go.Sx.Po
open Go.Proofs Go.Sx.Ob Go.Sx.Lk
def Gc (x:cB):Bool:=x.kind==2 && ((dA x.inst.op:Nat):Int)==11
variable {O:Hp} {V b:Xac} {H U Z c:Nat} {a:cB}
def Nb (v:jj O V H a):HC Xaz 15 #[.agg (encI V H U a).toArray] O λw h'=>w=.bool (Gc a)/\Ext O h':=by
 refine aX (args:=[.agg (encI V H U a).toArray]) mixed Tryz.func15 av (pY a.kind a.name a.inst.op a.inst.a a.inst.b a.inst.n a.inst.form V H U a.e.num a.n) ?_;unfold kK cY aE cC;refine bn ?_;intro h1 d f z1;have d:br h1 O.size 55 (encI V H U a):=d;rw [aw];refine ay d (a.kind,()) (ak ?_);unfold Gc;cases i:a.kind==(2:Int) with
 | false=>exact bX rfl ⟨rfl,f⟩
 | true =>
  refine bU rfl ?_;refine ay d (a.inst.op,()) (ak ?_);refine aG (pF h1 a.inst.op v.op) ?_;rintro _ h2 ⟨rfl,g⟩;refine ⟨(((dA a.inst.op:Nat):Int),()),rfl,?_⟩;exact ⟨rfl,f.trans g⟩
structure W1 (h:Hp) (p:Xac) (l:Nat) (xs:List bK):Prop where
 len:l=xs.length
 many:xs.length<=2^40
 cells:∀ i,(hi:i<xs.length)->∃ a q m d,p=some a/\aH h (a.add (i*2)) 0 [.slice q m d,.int .u32 (xs[i].num:Int)]/\nL h q m xs[i]
def mD (xs:List bK) (x:bK):Int:=match xs.findIdx? λy=>jO y x with
 | some k=>(k:Int)
 | none=>-1
def F6 {xs:List bK} {p:bK->Bool} {i:Nat} (hi:i<xs.length) (h:∀ j,(a:j<xs.length)->j<i->p xs[j]=false) (ht:p xs[i]=true):xs.findIdx? p=some i:=by
 rw [bf9];exact ⟨hi,ht,λj a=>by rw [h j ad a]; simp⟩
variable {d:bK}
def Sl {xs:List bK} (v:W1 O V H xs) (w:nL O b Z d) :
  HC Xaz 25 #[.slice V H U,.agg #[.slice b Z c,.int .u32 (d.num:Int)]] O λz h'=>z=vI (mD xs d)/\Ext O h':=by
 refine aX (args:=[.slice V H U,.agg #[.slice b Z c,.int .u32 (d.num:Int)]]) mixed Tryz.func25 av (oP V H U b Z c (d.num:Int)) ?_;unfold jQ aR aY bz aK bj aE aS;have hl:=v.len;have hm:=v.many;refine bn ?_;intro h1 D E z1;refine aM (cs:=fV) (λy k h'=>∃ i:Nat,y.2.1=(i:Int)/\k=H-i/\i<=H/\Ext h1 h'/\∀ j,(f:j<xs.length)->j<i->jO xs[j] d=false) ((0:Int),(0:Int),()) H rfl ⟨0,rfl,rfl,ad,Ch.refl _ _,λj f o=>ad⟩ ?_;rintro ⟨u,K,⟨⟩⟩ k h2 ⟨i,hi,rfl,A,r,e⟩;simp only at hi;subst hi;refine ak ?_;have e02:=E.trans r;refine aI ?_ ?_<;>intro g
 ·have n:i<xs.length:=ad
  obtain ⟨a,F,G,B,I,hc,hv⟩:=v.cells i n;refine bM I ?_;rw [cg i];refine ar ((F,G,B),(xs[i].num:Int),()) (aP e02 ai _ _ hc) (ak ?_);refine ay (D.aj r ai) ((b,Z,c),(d.num:Int),()) (ak ?_);refine aG (Dg (c:=B) (d:=c) (hv.aj e02).vw (w.aj e02).vw hv.many) ?_;rintro _ L ⟨rfl,C⟩;refine ⟨(jO xs[i] d,()),rfl,ak ?_⟩;refine ao ?_ ?_<;>intro t
  ·refine ⟨?_,e02.trans C⟩;unfold mD;rw [F6 n e t]
  ·have hw:=gK i;exact aC (cs:=fV) (u,((i+1:Nat):Int),()) (H-(i+1)) rfl ad (as9 (λz=>[Value.int .i64 u,Value.int .i64 z]) hw) ⟨i+1,rfl,rfl,ad,r.trans C,λj f o=>by
    by_cases s:j=i
    ·subst s; exact t
    ·exact e j f ad⟩
 ·refine ⟨?_,e02⟩;unfold mD;rw [bz9.2 λy J=>by
   obtain ⟨j,f,rfl⟩:=bh9 J;rw [e j f ad]]
structure Pl where
 u:Nat
 i:Nat
 l:List bK
def lL (l:List bK) (x:bK):List bK:=if mD l x<0 then l++[x] else l
def shut (u i:Nat) (l:List bK):List Pl:=if l.length=0 then [] else [⟨u,i,l⟩]
def xp (u:Nat):Nat->List cB->List bK->List Pl
 | i,[],l=>shut u i l
 | i,x::xs,l=>if x.kind=4 then shut u i l++xp u (i+1) xs [] else xp u (i+1) xs (if Gc x then lL l x.e else l)
def C3 (I:Nat->List cB) (N:Nat):List Pl:=(List.range N).flatMap λu=>xp u 0 (I u) []
def Gz (h:Hp) (st:bC) (N:Nat) (F:Nat->List cB):Prop:=st.l=N/\∀ n,n<N->∃ (a:Xax) (t:bC),st.p=some a/\aH h (a.add (n*1)) 0 [t.v]/\Ge h t.p t.l (F n)
structure ln (h0 h:Hp) (b:Nat) (s:bC) (xs:List bK):Prop where
 ex:∃ cs:List (List Xab),SL h b 53 2 s.p s.l s.c cs/\cs.length=xs.length/\∀ i,(hi:i<xs.length)->(hc:i<cs.length)->∃ q m d,cs[i]=[.slice q m d,.int .u32 (xs[i].num:Int)]/\nL h0 q m xs[i]
def ln.nil (h0 h:Hp) (b:Nat):ln h0 h b ⟨none,0,0⟩ []:=⟨⟨[],SL.nil _ _ _ _,rfl,λi hi=>absurd hi ai⟩⟩
variable {Y:bC}
def ln.len {h0:Hp} {xs:List bK} (v:ln h0 O H Y xs):Y.l=xs.length:=by
 obtain ⟨cs,sl,hl,_⟩:=v.ex;rw [<- hl];exact sl.1
variable {e:List Nat}
def ln.aj {h0 h':Hp} {xs:List bK} (v:ln h0 O H Y xs) (k:Ch e O h') (a:∀ i,i∈ax Y.p->i∉e):ln h0 h' H Y xs:=by
 obtain ⟨cs,sl,hl,c⟩:=v.ex;exact ⟨⟨cs,sl.bf k a,hl,c⟩⟩
def ln.lB {h0 h h':Hp} {b:Nat} {s:bC} {xs:List bK} (v:ln h0 h b s xs) {W:List Nat} (k:Ch W h h') {a:TypeId} (c:∀ i,i∈W->∃ ys,br h i a ys) (d:53≠a):ln h0 h' b s xs:=by
 obtain ⟨cs,sl,hl,e⟩:=v.ex;exact ⟨⟨cs,SL.lB sl k c d,hl,e⟩⟩
def ln.vw {h0:Hp} {xs:List bK} (v:ln h0 O H Y xs) (e:Ext h0 O) (c:xs.length<=2^40):W1 O Y.p Y.l xs:=by
 obtain ⟨cs,sl,hl,f⟩:=v.ex;refine ⟨v.len,c,λi hi=>?_⟩;obtain ⟨a,g,hc⟩:=SL.cells sl (i:=i) ad;obtain ⟨q,m,d,j,hv⟩:=f i hi ad;rw [j] at hc;exact ⟨a,q,m,d,g,hc,hv.aj e⟩
variable {f:TypeId}
def eP {sz:Nat} {zs:List (List Xab)} (s:SL O H f sz V U Z zs):∀ i,i∈ax V->∃ ys,br O i f ys:=SL.ye s
def P' {sz:Nat} {zs:List (List Xab)} (s:SL O H f sz V U Z zs):∀ i,i∈ax V->i<O.size:=λi hi=>by
 obtain ⟨ys,a⟩:=SL.ye s i hi;exact a.lt
def ln.cj {h0 h:Hp} {b:Nat} {s:bC} {xs:List bK} (v:ln h0 h b s xs):∀ i,i∈ax s.p->b<=i/\i<h.size:=by
 obtain ⟨cs,sl,hl,a⟩:=v.ex;exact λi hi=>⟨(sl.cj hi).1,P' sl i hi⟩
def T6 (x:Pl × bC):List Xab:=[vI (x.1.u:Int),vI (x.1.i:Int),x.2.v]
structure nX (h0 h:Hp) (b bl:Nat) (s:bC) (pw:List (Pl × bC)):Prop where
 sl:SL h b 94 3 s.p s.l s.c (pw.map T6)
 lits:∀ x,x∈pw->ln h0 h h0.size x.2 x.1.l/\∀ i,i∈ax x.2.p->i<bl
def YD:Tryz.prog.underlying 38=some (.slice 94):=av
def Zg:(Tryz.prog.info? 94).map (λi=>(i.zero,i.size,i.bytes))=some (some (.agg #[vI 0,vI 0,.slice none 0 0]),3,40):=av
def Pp:Tryz.prog.underlying 28=some (.slice 53):=av
def Rg:(Tryz.prog.info? 53).map (λi=>(i.zero,i.size,i.bytes))=some (some (.agg #[.slice none 0 0,.int .u32 0]),2,32):=av
def XK (u i:Int) (p:Xac) (l c:Nat):Instr.fill (λj=>some (j*3,3)) ((Array.range (1*3)).map ((Value.agg #[vI 0,vI 0,.slice none 0 0]).cells[· % (Value.agg #[vI 0,vI 0,.slice none 0 0]).cells.size]!)) [(0,.agg #[vI u,vI i,.slice p l c])]=some ([vI u,vI i,.slice p l c]:List Xab).toArray:=av
def O' (p:Xac) (l c:Nat) (n:Int):Instr.fill (λj=>some (j*2,2)) ((Array.range (1*2)).map ((Value.agg #[.slice none 0 0,.int .u32 0]).cells[· % (Value.agg #[.slice none 0 0,.int .u32 0]).cells.size]!)) [(0,.agg #[.slice p l c,.int .u32 n])]=some ([.slice p l c,.int .u32 n]:List Xab).toArray:=av
section
variable {L:Lp} {K:Xab->Hp->Prop} {h0 h:Hp}
variable {H:Xac->Nat->Nat->T} {O:bC}
def P0 {bl:Nat} {xs:List bK} {q:Xac} {m d:Nat} {x:bK} (v:ln h0 h bl O xs) (t:bl<=h.size) (w:xs.length<=2^30) (u:nL h0 q m x)
  (hk:∀ a h',ln h0 h' bl a (xs++[x])->Ch (ax O.p) h h'->H a.p a.l a.c L K h') :
  T.dP Xaz (Instr.buildSlice 28 1 #[(0,.agg #[.slice q m d,.int .u32 (x.num:Int)])]) false [(false,[.slice 0])] (λ(g:Xac) (j n:Nat)=>T.dP Xaz (Builtin.append_ #[28,28] 28 #[.slice O.p O.l O.c,.slice g j n]) false [(false,[.slice 0])] H) L K h:=by
 have hl:=v.len;obtain ⟨cs,sl,e,o⟩:=v.ex;refine eZ (b:=bl) (vs:=[.slice q m d,.int .u32 (x.num:Int)]) Pp Rg rfl ad ad (O' q m d x.num) rfl rfl sl t ad ad ?_;intro p' c' h' a k' _;refine hk ⟨p',O.l+1,c'⟩ h' ⟨⟨_,a,by simp [e],λi hi hc=>?_⟩⟩ k'
 by_cases f:i<xs.length
 ·rw [br9 (show i<cs.length from ad),br9 f];exact o i f ad
 ·have r:i=xs.length:=by simp at hi; omega
  subst r;rw [ch9 (show cs.length<=xs.length from ad),ch9 (am9 _)];simp only [e,Nat.sub_self,List.getElem_cons_zero];exact ⟨q,m,d,rfl,u⟩
def Mt {bl:Nat} {t:bC} {pw:List (Pl × bC)} {u i:Nat} {xs:List bK} (ps:nX h0 h h0.size bl O pw) (v:ln h0 h bl t xs) (e:h0.size<=bl) (w:bl<=h.size) (y:pw.length<=2^30)
  (hk:∀ a h',nX h0 h' h0.size h'.size a (pw++[(⟨u,i,xs⟩,t)])->Ch (ax O.p) h h'->H a.p a.l a.c L K h') :
  T.dP Xaz (Instr.buildSlice 38 1 #[(0,.agg #[vI (u:Int),vI (i:Int),.slice t.p t.l t.c])]) false [(false,[.slice 0])] (λ(f:Xac) (g m:Nat)=>T.dP Xaz (Builtin.append_ #[38,38] 38 #[.slice O.p O.l O.c,.slice f g m]) false [(false,[.slice 0])] H) L K h:=by
 have hl:O.l=pw.length:=by have:=ps.sl.1; rwa [ab9] at this
 refine eZ (b:=h0.size) (vs:=[vI (u:Int),vI (i:Int),.slice t.p t.l t.c]) YD Zg rfl ad ad (XK u i t.p t.l t.c) rfl rfl ps.sl ad ad ad ?_;intro p' c' h' a k' _;have hbx:=eP ps.sl;have z:=k'.size;refine hk ⟨p',O.l+1,c'⟩ h' ⟨by rw [ao9]; exact a,λx d=>?_⟩ k';rcases ar9.1 d with d | d
 ·obtain ⟨h1,h2⟩:=ps.lits x d;exact ⟨h1.lB k' hbx bH,λj n=>by have:=(h1.cj j n).2; omega⟩
 ·rw [an9.1 d];have hv:=v.cj;obtain ⟨cs,sl,o,q⟩:=v.ex;have r:ln h0 h h0.size t xs:=⟨⟨cs,sl.mono e,o,q⟩⟩
  exact ⟨r.lB k' hbx bH,λj n=>by have:=(hv j n).2; omega⟩
end
def Js {its:List cB} {l:List bK} (h:U<its.length):xp H U (its.drop U) l=if its[U].kind=4 then shut H U l++xp H (U+1) (its.drop (U+1)) [] else xp H (U+1) (its.drop (U+1)) (if Gc its[U] then lL l its[U].e else l):=by
 rw [ax9 h] <;> rfl
def KD {its:List cB} {l:List bK}:xp H its.length (its.drop its.length) l=shut H its.length l:=by
 rw [dg9] <;> rfl
def II (I:Nat->List cB) (N n:Nat):List Pl:=((List.range N).drop n).flatMap λu=>xp u 0 (I u) []
variable {g:Nat->List cB}
def Wh (h:U<H):II g H U=xp U 0 ((g U).drop 0) []++II g H (U+1):=by
 unfold II;rw [ax9 (by simpa using h),cf9]
 simp
def VU (h:H<=U):II g H U=[]:=by
 unfold II;rw [dl9 (by simpa using h)] <;> rfl
def nX.Mi {h0 h':Hp} {bl:Nat} {pw:List (Pl × bC)} (v:nX h0 O H bl Y pw) (k:Ch e O h') (c:∀ i,i∈e->∃ ys,br O i 53 ys) (d:∀ i,i∈e->bl<=i):nX h0 h' H bl Y pw :=
 ⟨SL.lB v.sl k c bH,λx a=>⟨(v.lits x a).1.aj k λi hi f=>by have:=(v.lits x a).2 i hi; have:=d i f; omega,(v.lits x a).2⟩⟩
def nX.ext {h0 h':Hp} {bl:Nat} {pw:List (Pl × bC)} (v:nX h0 O H bl Y pw) (e:Ext O h'):nX h0 h' H bl Y pw:=v.Mi e ai ai
def nX.nil (h0 h:Hp) (b bl:Nat):nX h0 h b bl ⟨none,0,0⟩ []:=⟨SL.nil _ _ _ _,ai⟩
def SK (u i:Nat) (l:List bK):(shut u i l).length<=1:=by
 unfold shut;split <;> simp
def Nz {su lb st sd : bC} {L : List Lb} (pr : Fy O H su lb st sd L) {N : Nat} {I : Nat -> List cB} (hN : N <= 2 ^ 29) (rt : Gz O st N I) (hI : ∀ n, n < N -> (I n).length <= 2 ^ 29) (hR : (C3 I N).length <= 2 ^ 30) :
    HC Xaz 14 #[.pointer (some ⟨H, 0, none⟩)] O λv h' => Ext O h' /\ ∃ s pw, v = bC.v s /\ nX O h' O.size h'.size s pw /\ pw.map (·.1) = C3 I N := by
  refine aX (args := [.pointer (some ⟨H, 0, none⟩)]) mixed Tryz.func14 av (oJ (some ⟨H, 0, none⟩)) ?_;unfold jW aR aY bz aK bj cY bg aE bm aS fH;have hT : II I N 0 = C3 I N := rfl;generalize C3 I N = R at hT hR
  refine aM (cs := kX) (λy k h' => ∃ (n : Nat) (s : bC) (pw : List (Pl × bC)) (bl : Nat), y.1 = (s.p, s.l, s.c) /\ y.2.1 = (n : Int) /\ k = N - n /\ n <= N /\ Ext O h' /\ nX O h' O.size bl s pw /\ O.size <= bl /\ bl <= h'.size /\ pw.map (·.1) ++ II I N n = R) ((none, 0, 0), (0 : Int), ()) N rfl
    ⟨0, ⟨none, 0, 0⟩, [], O.size, rfl, rfl, rfl, ad, Ch.refl _ _, nX.nil _ _ _ _, am9 _, am9 _, hT⟩ ?_
  rintro ⟨⟨p1, l2, c3⟩, n4, ⟨⟩⟩ k h1 ⟨n, s, pw, bl, S, hn, rfl, hle, e1, ps, f, M, d⟩;simp only [Prod.mk.injEq] at S hn;obtain ⟨rfl, rfl, rfl⟩ := S;subst hn;refine ak ?_;refine aF rfl ?_;rw [aw];refine ay (pr.aj e1).box ((st.p, st.l, st.c), ()) (ak ?_);rw [rt.1];refine aI (λq => ?_) (λq => ?_)
  · have hn : n < N :=ad
    have hIn := hI n hn;rw [Wh hn] at d;obtain ⟨a, t, ha, hc, vi⟩ := rt.2 n hn;have htl := vi.len
    have rd : ∀ {h3 : Hp} {K : Xab -> Hp -> Prop} {Lq : Lp} {kk : Xac -> Nat -> Nat -> T}, Ext O h3 -> kk t.p t.l t.c Lq K h3 -> T.bh (some (⟨H, 0, none⟩ : Xax)) (λ(a11 : Xax) => T.ah (a11.add 2) [.slice 46] <| λ(U : Xac) (V l14:Nat) =>
        T.need (((0 : Int) <= (n : Int)) /\ ((n : Int) < (V : Int))) <| T.bh U <| λ(a15 : Xax) => T.ah (a15.add ((Int.toNat (n : Int)) * 1)) [.slice 55] kk) Lq K h3 := by
      intro h3 K Lq kk B hk;refine aF rfl ?_;rw [aw];refine ay (pr.aj B).box ((st.p, st.l, st.c), ()) (ak ?_);refine cX ⟨ad, by rw [rt.1]; omega⟩ (aF ha ?_);rw [cg n];exact ar ((t.p, t.l, t.c), ()) (aP B ai _ _ hc) hk
    refine aM (cs := A9) (λy k h' => ∃ (i : Nat) (s w : bC) (pw : List (Pl × bC)) (xs : List bK) (bl : Nat), y.1 = (s.p, s.l, s.c) /\ y.2.1 = (w.p, w.l, w.c) /\ y.2.2.1 = (i : Int) /\ k = (I n).length + 1 - i /\ i <= (I n).length + 1 /\ Ext O h' /\ nX O h' O.size bl s pw /\ ln O h' bl w xs /\ O.size <= bl /\ bl <= h'.size /\ xs.length <= i /\
        pw.map (·.1) ++ ((if i <= (I n).length then xp n i ((I n).drop i) xs else []) ++ II I N (n + 1)) = R) ((s.p, s.l, s.c), (none, 0, 0), (0 : Int), ()) ((I n).length + 1) rfl
      ⟨0, s, ⟨none, 0, 0⟩, pw, [], bl, rfl, rfl, rfl, rfl, ad, e1, ps, ln.nil _ _ _, f, M, am9 _, by rw [ag9 ad]; exact d⟩ ?_
    clear d ps f M pw bl e1;rintro ⟨⟨p9, l10, c11⟩, ⟨U, V, c14⟩, n15, ⟨⟩⟩ k h2 ⟨i, s, w, pw, xs, bl, S, hw, hi, rfl, hil, o, ps, v, f, M, hxs, d⟩;simp only [Prod.mk.injEq] at S hw hi;obtain ⟨rfl, rfl, rfl⟩ := S;obtain ⟨rfl, rfl, rfl⟩ := hw;subst hi;refine ak ?_
    have hpl : pw.length <= 2 ^ 30 := by
      have := as9 List.length d;rw [ae9, ab9] at this;omega
    have hwl := v.len;have hwi := gK i;refine rd o ?_;refine aI (λq1 => ?_) (λq1 => ?_)
    · have W : i <= (I n).length :=ad
      rw [ag9 W] at d;refine rd o ?_
      -- closing a pool
      have close : (if i + 1 <= (I n).length then xp n (i + 1) ((I n).drop (i + 1)) [] else []) = (if i + 1 <= (I n).length then xp n (i + 1) ((I n).drop (i + 1)) [] else []) -> ∀ rest : List Pl, pw.map (·.1) ++ (shut n i xs ++ rest) = R -> rest = (if i + 1 <= (I n).length then xp n (i + 1) ((I n).drop (i + 1)) [] else []) ++ II I N (n + 1) -> ∀ X, (cond (decide ((w.l : Int) > (0 : Int)))
          (T.dP Xaz (Instr.buildSlice 38 1 #[(0, .agg #[vI (n : Int), vI (i : Int), .slice w.p w.l w.c])]) false [(false, [.slice 0])] <| λ(p32 : Xac) (l33 l34:Nat) =>
          T.dP Xaz (Builtin.append_ #[38, 38] 38 #[.slice s.p s.l s.c, .slice p32 l33 l34]) false [(false, [.slice 0])] <| λ(p35 : Xac) (l36 l37:Nat) =>
          T.again 1 [.slice p35 l36 l37, .slice none 0 0, vI (IntKind.wrap .i64 ((i : Int) + (1 : Int)))])
          (T.again 1 [.slice s.p s.l s.c, .slice none 0 0, vI (IntKind.wrap .i64 ((i : Int) + (1 : Int)))])) ([X] ++ [Jl (cs := A9) (λy k h' => ∃ (i : Nat) (s w : bC) (pw : List (Pl × bC)) (xs : List bK) (bl : Nat), y.1 = (s.p, s.l, s.c) /\ y.2.1 = (w.p, w.l, w.c) /\ y.2.2.1 = (i : Int) /\ k = (I n).length + 1 - i /\ i <= (I n).length + 1 /\ Ext O h' /\ nX O h' O.size bl s pw /\ ln O h' bl w xs /\ O.size <= bl /\ bl <= h'.size /\ xs.length <= i /\
            pw.map (·.1) ++ ((if i <= (I n).length then xp n i ((I n).drop i) xs else []) ++ II I N (n + 1)) = R) ((I n).length + 1 - i)]) (λv h' => Ext O h' /\ ∃ s pw, v = bC.v s /\ nX O h' O.size h'.size s pw /\ pw.map (·.1) = R) h2 := by
        intro _ rest d r X;refine aI (λE => ?_) (λE => ?_)
        · refine Mt (u := n) (i := i) (xs := xs) ps v f M hpl ?_
          intro m h3 ps3 k3;have B : Ext O h3 := Ch.trans o k3 (λj F hl => by have := (ps.sl.cj F).1; omega);have z := k3.size;have G : shut n i xs = [⟨n, i, xs⟩] := by unfold shut; rw [ac9 ad]
          rw [G, r] at d
          exact aC (cs := A9) ((m.p, m.l, m.c), (none, 0, 0), ((i + 1 : Nat) : Int), ()) ((I n).length + 1 - (i + 1)) rfl ad (as9 (λz => [Value.slice m.p m.l m.c, Value.slice none 0 0, Value.int .i64 z]) hwi)
            ⟨i + 1, m, ⟨none, 0, 0⟩, _, [], h3.size, rfl, rfl, rfl, rfl, ad, B, ps3, ln.nil _ _ _, ad, am9 _, ai, by rw [ao9, az9]; exact d⟩
        · have hx0 : xs = [] := bu9 ad
          have G : shut n i xs = [] := by unfold shut; rw [ag9 (by rw [hx0]; rfl)]
          rw [G, r] at d
          exact aC (cs := A9) ((s.p, s.l, s.c), (none, 0, 0), ((i + 1 : Nat) : Int), ()) ((I n).length + 1 - (i + 1)) rfl ad (as9 (λz => [Value.slice s.p s.l s.c, Value.slice none 0 0, Value.int .i64 z]) hwi)
            ⟨i + 1, s, ⟨none, 0, 0⟩, pw, [], bl, rfl, rfl, rfl, rfl, ad, o, ps, ln.nil _ _ _, f, M, ai, d⟩
      refine ao (λE => ?_) (λE => ?_)
      · have E : (i : Int) = (t.l : Int) := eq_of_beq E
        have Y : i = (I n).length :=ad
        refine close rfl (II I N (n + 1)) ?_ ?_ _
        · rw [Y, KD] at d
          rw [Y];exact d
        · rw [ac9 ad]
          rfl
      have E : ¬ (i : Int) = (t.l : Int) := fi9 E;have Z : i < (I n).length :=ad
      rw [Js Z] at d;obtain ⟨aa, P, mm, Q, C, hcc, hv⟩ := vi.cells i Z;generalize (I n)[i] = x at d hcc hv;refine rd o ?_;refine bM C ?_;rw [cg i];have A : ∀ {h3 : Hp}, Ext O h3 -> aH h3 (aa.add (i * 10)) 0 (encI P mm Q x) := λe => aP e ai _ _ hcc
      refine ar (x.kind, ()) ⟨(A o).1, trivial⟩ (ak ?_);refine ao (λJ => ?_) (λJ => ?_)
      · have J : x.kind = 4 := eq_of_beq J
        rw [ag9 J, az9] at d;refine close rfl _ d ?_ _;rw [ag9 ad]
      have J : ¬ x.kind = 4 := fi9 J;rw [ac9 J] at d;refine rd o ?_;refine bM C ?_;refine ar (x.kind, x.name, x.inst.op, x.inst.a, x.inst.b, x.inst.n, x.inst.form, (P, mm, Q), (x.e.num : Int), x.n, ()) (A o) (ak ?_);refine aG (Nb (hv.aj o)) ?_;rintro _ h3 ⟨rfl, B⟩;refine ⟨(Gc x, ()), rfl, ak ?_⟩;have e03 := o.trans B
      have hE : ∀ {h5 : Hp}, Ext O h5 -> aH h5 ((aa.add (i * 10)).add 7) 0 [.slice P mm Q, .int .u32 (x.e.num : Int)] := λe => by
        have := (A e).2.2.2.2.2.2.2;exact fj [.slice P mm Q, .int .u32 (x.e.num : Int)] 7 0 ⟨this.1, this.2.1, trivial⟩
      have D : ∀ (h5 : Hp) (e : Ext h2 h5) X, pw.map (·.1) ++ (xp n (i + 1) ((I n).drop (i + 1)) xs ++ II I N (n + 1)) = R -> T.again 1 [.slice s.p s.l s.c, .slice w.p w.l w.c, vI (IntKind.wrap .i64 ((i : Int) + (1 : Int)))] ([X] ++ [Jl (cs := A9) (λy k h' => ∃ (i : Nat) (s w : bC) (pw : List (Pl × bC)) (xs : List bK) (bl : Nat), y.1 = (s.p, s.l, s.c) /\ y.2.1 = (w.p, w.l, w.c) /\ y.2.2.1 = (i : Int) /\ k = (I n).length + 1 - i /\ i <= (I n).length + 1 /\ Ext O h' /\ nX O h' O.size bl s pw /\ ln O h' bl w xs /\ O.size <= bl /\ bl <= h'.size /\ xs.length <= i /\
            pw.map (·.1) ++ ((if i <= (I n).length then xp n i ((I n).drop i) xs else []) ++ II I N (n + 1)) = R) ((I n).length + 1 - i)]) (λv h' => Ext O h' /\ ∃ s pw, v = bC.v s /\ nX O h' O.size h'.size s pw /\ pw.map (·.1) = R) h5 := by
        intro h5 e X d;have z := e.size
        exact aC (cs := A9) ((s.p, s.l, s.c), (w.p, w.l, w.c), ((i + 1 : Nat) : Int), ()) ((I n).length + 1 - (i + 1)) rfl ad (as9 (λz => [Value.slice s.p s.l s.c, Value.slice w.p w.l w.c, Value.int .i64 z]) hwi)
          ⟨i + 1, s, w, pw, xs, bl, rfl, rfl, rfl, rfl, ad, o.trans e, ps.ext e, v.aj e ai, f, ad, ad, by rw [ag9 ad]; exact d⟩
      cases hld : Gc x with
      | false =>
        refine bX rfl ?_;rw [hld] at d;exact D h3 B _ d
      | true =>
        refine bU rfl ?_;rw [hld, ag9 rfl] at d;refine rd e03 ?_;refine bM C ?_;refine ar ((P, mm, Q), (x.e.num : Int), ()) (hE e03) (ak ?_);refine aG (Sl ((v.aj B ai).vw e03 ad) (hv.lin.aj e03)) ?_;rintro _ h4 ⟨rfl, e4⟩;refine ⟨(mD xs x.e, ()), rfl, ak ?_⟩;have e24 := B.trans e4;have e04 := o.trans e24;unfold lL at d;refine aI (λq4 => ?_) (λq4 => ?_)
        · rw [ag9 q4] at d
          refine rd e04 ?_;refine bM C ?_;refine ar ((P, mm, Q), (x.e.num : Int), ()) (hE e04) (ak ?_);have z4 := e24.size;have v4 := v.aj e24 ai;refine P0 v4 ad ad hv.lin ?_;intro m h5 v5 k5;have hbk := v4.cj;have e05 : Ext O h5 := Ch.trans e04 k5 (λj F hl => by have := hbk j F; omega);have z5 := k5.size
          have ps5 := (ps.ext e24).Mi k5 (by
            obtain ⟨cs, sl, _, _⟩ := v4.ex;exact eP sl) (λj F => (hbk j F).1)
          exact aC (cs := A9) ((s.p, s.l, s.c), (m.p, m.l, m.c), ((i + 1 : Nat) : Int), ()) ((I n).length + 1 - (i + 1)) rfl ad (as9 (λz => [Value.slice s.p s.l s.c, Value.slice m.p m.l m.c, Value.int .i64 z]) hwi)
            ⟨i + 1, s, m, pw, _, bl, rfl, rfl, rfl, rfl, ad, e05, ps5, v5, f, ad, by simp; omega, by rw [ag9 ad]; exact d⟩
        · rw [ac9 q4] at d
          exact D h4 e24 _ d
    · rw [ac9 ad, cw9] at d
      have hw := gK n;exact aC (cs := kX) ((s.p, s.l, s.c), ((n + 1 : Nat) : Int), ()) (N - (n + 1)) rfl ad (as9 (λz => [Value.slice s.p s.l s.c, Value.int .i64 z]) hw) ⟨n + 1, s, pw, bl, rfl, rfl, rfl, ad, o, ps, f, M, d⟩
  · rw [VU ad, cb9] at d
    refine ⟨e1, s, pw, rfl, ⟨ps.sl, λx hx => ⟨(ps.lits x hx).1, λj F => by have := (ps.lits x hx).2 j F; omega⟩⟩, d⟩
def L9 (R:List Pl) (u i:Nat) (x:bK):Option (Nat × Int):=match R.findIdx? λp=>p.u==u && decide (i<p.i) with
 | some k=>some (k,mD (R[k]?.map (·.l) |>.getD []) x)
 | none=>none
def Mj (I:Nat->List cB) (N:Nat) (u i:Int):Option (Nat × Int) :=
 if u<0\/(N:Int)<=u\/i<0 then none else match (I u.toNat)[i.toNat]? with
 | some x=>if Gc x then L9 (C3 I N) u.toNat i.toNat x.e else none
 | none=>none
def ZY {h0:Hp} {bl:Nat} {pw:List (Pl × bC)} (v:nX h0 O H bl Y pw) (hk:U<pw.length):∃ a,Y.p=some a/\aH O (a.add (U*3)) 0 [vI (pw[U].1.u:Int),vI (pw[U].1.i:Int),pw[U].2.v]/\ln h0 O h0.size pw[U].2 pw[U].1.l:=by
 obtain ⟨a,c,hc⟩:=SL.cells v.sl (i:=U) (by rw [ab9]; exact hk);rw [aj9] at hc;exact ⟨a,c,hc,(v.lits _ (ah9 hk)).1⟩
def Sq {α:Type} {xs:List α} {p:α->Bool} {i:Nat} (hi:i<xs.length) (h:∀ j,(a:j<xs.length)->j<i->p xs[j]=false) (ht:p xs[i]=true):xs.findIdx? p=some i:=by
 rw [bf9];exact ⟨hi,ht,λj a=>by rw [h j ad a]; simp⟩
def NK (j:zY O) (v:jj O V H a):HC Xaz 41 #[.agg (encI V H U a).toArray] O λw h'=>w=.bool (Gc a)/\Ext O h':=by
 refine aX (args:=[.agg (encI V H U a).toArray]) mixed Tryz.func41 av (Af a.kind a.name a.inst.op a.inst.a a.inst.b a.inst.n a.inst.form V H U a.e.num a.n) ?_;unfold wV cv aE cC bZ cH;refine bn ?_;intro h1 d f z1;have d:br h1 O.size 55 (encI V H U a):=d;rw [aw];refine ay d (a.inst.op,()) (ak ?_);refine aG (LN (j.aj f ai) a.inst.op v.op.1 v.op.2) ?_;rintro _ h2 ⟨s,b,rfl,k⟩;refine ⟨(s,b,((dA a.inst.op:Nat):Int),decide (dA a.inst.op≠0),()),rfl,ak ?_⟩;refine bn ?_;intro r m o z3;refine bJ m ?_;intro h4 g p z4;have g:br h4 h2.size 171 [.string s,.int .u8 b,vI ((dA a.inst.op:Nat):Int)]:=g;have i:Ext h2 h4:=bS o p;have e14:=k.trans i;refine ay (d.aj e14 ai) (a.kind,()) (ak ?_);unfold Gc;cases t:a.kind==(2:Int) with
 | false=>exact bX rfl ⟨rfl,f.trans e14⟩
 | true =>
  refine bU rfl ?_;rw [aw];refine ay g (((dA a.inst.op:Nat):Int),()) ?_;exact ⟨rfl,f.trans e14⟩
structure Xm (h:Hp) (p:Xac) (l:Nat) (ps:List Pl):Prop where
 len:l=ps.length
 many:ps.length<=2^40
 cells:∀ i,(hi:i<ps.length)->∃ (a:Xax) (w:bC),p=some a/\aH h (a.add (i*3)) 0 [vI (ps[i].u:Int),vI (ps[i].i:Int),.slice w.p w.l w.c]/\W1 h w.p w.l ps[i].l
def W1.aj {h h':Hp} {p:Xac} {l:Nat} {xs:List bK} (v:W1 h p l xs) (e:Ext h h'):W1 h' p l xs :=
 ⟨v.len,v.many,λi hi=>by
  obtain ⟨a,q,m,d,b,hc,hv⟩:=v.cells i hi;exact ⟨a,q,m,d,b,aP e ai _ _ hc,hv.aj e⟩⟩
def Xm.aj {h h':Hp} {p:Xac} {l:Nat} {ps:List Pl} (v:Xm h p l ps) (e:Ext h h'):Xm h' p l ps :=
 ⟨v.len,v.many,λi hi=>by
  obtain ⟨a,w,b,hc,hv⟩:=v.cells i hi;exact ⟨a,w,b,aP e ai _ _ hc,hv.aj e⟩⟩
def nX.vw {h0 h:Hp} {b bl:Nat} {s:bC} {pw:List (Pl × bC)} (v:nX h0 h b bl s pw) (e:Ext h0 h) (c:pw.length<=2^40) (hl:∀ p,p∈pw.map (·.1)->p.l.length<=2^40):Xm h s.p s.l (pw.map (·.1)) :=
 ⟨by have:=v.sl.1; rw [ab9] at this; rw [ab9]; exact this,by rw [ab9]; exact c,λi hi=>by
  rw [ab9] at hi;obtain ⟨a,d,hc,hv⟩:=ZY v hi;rw [aj9];exact ⟨a,pw[i].2,d,hc,hv.vw e (hl _ (ay9 (ah9 hi)))⟩⟩
def No {ps:List Pl} (v:Xm O V H ps) (w:Xm O b U ps):HC Xaz 13 #[.slice V H Z,.slice b U c] O λz h'=>z=.bool true/\Ext O h':=by
 refine aX (args:=[.slice V H Z,.slice b U c]) mixed Tryz.func13 av (qe V H Z b U c) ?_;unfold kI aR aY bz aK bj aE cC fR aS cH;have hl:=v.len;have hm:=w.len;have hmany:=v.many;refine bX (by simp; omega) ?_;refine aM (cs:=iv) (λy k h'=>∃ i:Nat,y.2.1=(i:Int)/\k=H-i/\i<=H/\Ext O h') (false,(0:Int),()) H rfl ⟨0,rfl,rfl,ad,Ch.refl _ _⟩ ?_;rintro ⟨W,n3,⟨⟩⟩ k h1 ⟨i,hi,rfl,X,E⟩;simp only at hi;subst hi;refine ak ?_;refine aI ?_ ?_<;>intro g
 ·have r:i<ps.length:=ad
  obtain ⟨a,s,A,hc,hv⟩:=(v.aj E).cells i r;obtain ⟨f,t,F,G,hw⟩:=(w.aj E).cells i r;generalize ps[i]=x at hc hv G hw;refine bM A ?_;rw [cg i];refine ar ((x.u:Int),()) ⟨hc.1,trivial⟩ (ak ?_);refine bM F ?_;refine ar ((x.u:Int),()) ⟨G.1,trivial⟩ (ak ?_);refine bX ai ?_;refine bM A ?_;refine ar ((x.i:Int),()) (fj [vI (x.i:Int)] 1 0 ⟨hc.2.1,trivial⟩) (ak ?_);refine bM F ?_;refine ar ((x.i:Int),()) (fj [vI (x.i:Int)] 1 0 ⟨G.2.1,trivial⟩) (ak ?_);refine bX ai ?_;have I:∀ {B:Hp},Ext h1 B->aH B ((a.add (i*3)).add 2) 0 [.slice s.p s.l s.c]:=λe=>aP e ai _ _ (fj [.slice s.p s.l s.c] 2 0 ⟨hc.2.2.1,trivial⟩)
  have J:∀ {B:Hp},Ext h1 B->aH B ((f.add (i*3)).add 2) 0 [.slice t.p t.l t.c]:=λe=>aP e ai _ _ (fj [.slice t.p t.l t.c] 2 0 ⟨G.2.2.1,trivial⟩)
  refine bM A ?_;refine ar ((s.p,s.l,s.c),()) (I (Ch.refl _ _)) (ak ?_);refine bM F ?_;refine ar ((t.p,t.l,t.c),()) (J (Ch.refl _ _)) (ak ?_);have hsl:=hv.len;have htl:=hw.len;have hsm:=hv.many;refine bX (by simp; omega) ?_;refine aM (cs:=iv) (λy k h'=>∃ j:Nat,y.2.1=(j:Int)/\k=s.l-j/\j<=s.l/\Ext h1 h') (W,(0:Int),()) s.l rfl ⟨0,rfl,rfl,ad,Ch.refl _ _⟩ ?_;rintro ⟨n,Y,⟨⟩⟩ k h2 ⟨j,Q,rfl,hjl,o⟩;simp only at Q;subst Q;refine ak ?_;refine bM A ?_;refine ar ((s.p,s.l,s.c),()) (I o) (ak ?_);refine aI ?_ ?_<;>intro g1
  ·have C:j<x.l.length:=ad
   obtain ⟨a2,q2,m2,R,K,L,D⟩:=(hv.aj o).cells j C;obtain ⟨b3,q3,m3,S,M,N,P⟩:=(hw.aj o).cells j C;refine bM A ?_;refine ar ((s.p,s.l,s.c),()) (I o) (ak ?_);refine bM K ?_;rw [cg j];refine ar ((q2,m2,R),(x.l[j].num:Int),()) L (ak ?_);refine bM F ?_;refine ar ((t.p,t.l,t.c),()) (J o) (ak ?_);refine bM M ?_;refine ar ((q3,m3,S),(x.l[j].num:Int),()) N (ak ?_);refine aG (Dg (c:=R) (d:=S) D.vw P.vw D.many) ?_;rintro _ h3 ⟨rfl,e3⟩;refine ⟨(jO x.l[j] x.l[j],()),rfl,ak ?_⟩;have e13:=o.trans e3;refine ⟨⟨J e13,I e13,trivial⟩,?_⟩;rw [yf];refine bX rfl ?_;have hw:=gK j;exact aC (cs:=iv) (n,((j+1:Nat):Int),()) (s.l-(j+1)) rfl ad (as9 (λz=>[Value.bool n,Value.int .i64 z]) hw) ⟨j+1,rfl,rfl,ad,e13⟩
  ·have hw:=gK i;exact aC (cs:=iv) (n,((i+1:Nat):Int),()) (H-(i+1)) rfl ad (as9 (λz=>[Value.bool n,Value.int .i64 z]) hw) ⟨i+1,rfl,rfl,ad,E.trans o⟩
 ·exact ⟨rfl,E⟩
def M5 {y:bK} (a:Good d) (b:Good y) (h:fM d=fM y):d=y:=by
 have h1:=(Dk a).2;have h2:=(Dk b).2;rw [h] at h1;rw [h1] at h2;cases h2;rfl
def N0 {xs:List bK} {x:bK} (a:∀ y,y∈xs->Good y) (b:Good x):(xs.findIdx? λy=>decide (fM y=fM x))=xs.findIdx? λy=>jO y x:=by
 induction xs with
 | nil=>rfl
 | cons y xs c =>
  have d:decide (fM y=fM x)=jO y x:=by
   rw [ek9];unfold jO;simp only [decide_eq_true_eq,Bool.and_eq_true];constructor
   ·intro h
    have:=M5 (a y ai) b h
    rw [this];exact ⟨rfl,rfl⟩
   ·rintro ⟨h1,h2⟩;obtain ⟨f,g⟩:=y;obtain ⟨i,j⟩:=x;simp only at h1 h2;subst h1 h2;rfl
  rw [List.findIdx?_cons,List.findIdx?_cons,d,c λz e=>a z (aq9 _ e)]
end Go.Sx.Po
namespace Go.Sx.Ob
open Go.Proofs
def Pg (b:Bool) (n:Int) (s:Xaa) (h:Hp) (K:Unit->Hp->Prop):aQ Xaz (Instr.checkKey b 10000 131 (.agg #[vI n,.string s])) h K=K () h:=av
def N9:Tryz.prog.underlying 131=some (.struct (wJ Xaz 131)):=av
def WT:Tryz.prog.stoodInHeld 131=false:=av
def ZG (n m:Int) (s t:Xaa):(wJ Xaz 131).all (okF Xaz #[vI n,.string s] #[vI m,.string t])=true:=av
def Xh (n m:Int) (s t:Xaa):(wJ Xaz 131).all (IB #[vI n,.string s] #[vI m,.string t])=(n==m && (s==t && true)):=by
 rw [<- df9]
 kernel_rfl
def kzT:yC Xaz 131 FY where
 check b a h K hk:=by rw [show FY a=.agg #[vI (a.1:Int),.string a.2] from rfl,Pg]; exact hk
 kind:=⟨_,N9,λa b=>rfl⟩
 eqv a b h K hk:=by
  show aQ Xaz (Op.equal 131 (.agg #[vI (a.1:Int),.string a.2]) (.agg #[vI (b.1:Int),.string b.2])) h K;rw [ij N9 WT (ZG _ _ _ _),Xh];have e:decide (a=b)=(((a.1:Nat):Int)==((b.1:Nat):Int) && (a.2==b.2 && true)):=by
   obtain ⟨c,d⟩:=a;obtain ⟨f,g⟩:=b;show decide ((c,d)=(f,g))=(((c:Nat):Int)==((f:Nat):Int) && (d==g && true));rw [sV,di9,ek9];simp only [Prod.mk.injEq,decide_eq_true_eq,Bool.and_eq_true,beq_iff_eq];constructor <;> exact λ⟨x,y⟩=>⟨ad,y⟩
  rw [<- e];exact hk
 bits a:=by
  show ((2:Nat)==2 && _)=true;simp [Instr.sameBits,FY,sV]
 inj a b h:=by
  obtain ⟨c,d⟩:=a;obtain ⟨f,g⟩:=b;simp only [FY,Value.agg.injEq,Array.mk.injEq,List.cons.injEq,Value.int.injEq,Value.string.injEq,and_true,true_and] at h;rw [Prod.mk.injEq];exact ⟨ad,h.2⟩
def Iv (b:Bool) (n m:Int) (h:Hp) (K:Unit->Hp->Prop):aQ Xaz (Instr.checkKey b 10000 89 (.agg #[vI n,vI m])) h K=K () h:=av
def FX:Tryz.prog.underlying 89=some (.struct (wJ Xaz 89)):=av
def Si:Tryz.prog.stoodInHeld 89=false:=av
def VW (n m s t:Int):(wJ Xaz 89).all (okF Xaz #[vI n,vI s] #[vI m,vI t])=true:=av
def PV (n m s t:Int):(wJ Xaz 89).all (IB #[vI n,vI s] #[vI m,vI t])=(n==m && (s==t && true)):=by
 rw [<- df9]
 kernel_rfl
def kiT:yC Xaz 89 Cr.Hf where
 check b a h K hk:=by rw [show Cr.Hf a=.agg #[vI (a.1:Int),vI (a.2:Int)] from rfl,Iv]; exact hk
 kind:=⟨_,FX,λa b=>rfl⟩
 eqv a b h K hk:=by
  show aQ Xaz (Op.equal 89 (.agg #[vI (a.1:Int),vI (a.2:Int)]) (.agg #[vI (b.1:Int),vI (b.2:Int)])) h K;rw [ij FX Si (VW _ _ _ _),PV];have e:decide (a=b)=(((a.1:Nat):Int)==((b.1:Nat):Int) && (((a.2:Nat):Int)==((b.2:Nat):Int) && true)):=by
   obtain ⟨c,d⟩:=a;obtain ⟨f,g⟩:=b;show decide ((c,d)=(f,g))=(((c:Nat):Int)==((f:Nat):Int) && (((d:Nat):Int)==((g:Nat):Int) && true));rw [di9,ek9];simp only [Prod.mk.injEq,decide_eq_true_eq,Bool.and_eq_true,beq_iff_eq];omega
  rw [<- e];exact hk
 bits a:=by
  show ((2:Nat)==2 && _)=true;simp [Instr.sameBits,Cr.Hf]
 inj a b h:=by
  obtain ⟨c,d⟩:=a;obtain ⟨f,g⟩:=b;simp only [Cr.Hf,Value.agg.injEq,Array.mk.injEq,List.cons.injEq,Value.int.injEq,and_true,true_and] at h;rw [Prod.mk.injEq];omega
end Go.Sx.Ob
namespace Go.Sx.Lk
open Go.Proofs Go.Sx.Ob
def C2.vw {h:Hp} {b:Nat} {s:bC} {ws:List (bC × cB)} (o:C2 h b s ws) (hl:ws.length<=2^60) (c:∀ x,x∈ws.map (·.2)->x.name.size<=maxLen/\Sm x.inst.op/\x.e.af.length<=2^60/\∀ t,t∈x.e.af->t.1.size<=maxLen):Ge h s.p s.l (ws.map (·.2)) :=
 ⟨by have:=o.out.1; rw [ab9] at this ⊢; exact this,by rw [ab9]; exact hl,λi hi=>by
  rw [ab9] at hi;obtain ⟨a,d,hc⟩:=o.out.cells (i:=i) (by simpa using hi);rw [aj9] at hc;rw [aj9];have h1:=c ws[i].2 (ay9 (ah9 hi));exact ⟨a,_,_,_,d,hc,⟨ym (o.fF _ (ah9 hi)),h1.2.2.1,h1.2.2.2⟩,h1.1,h1.2.1⟩⟩
section
variable {h0 h h':Hp} {us:List cm} {su:bC} {P:LP} {B:Nat} {usl lb:bC} {S:Nat->lM} {g b':Nat} {lb2 st sd:bC} {tw dw:List (bC × List (bC × cB))}
structure One (h0 h':Hp) (us:List cm) (P:LP) (B:Nat) (usl lb:bC) (S:Nat->lM):Prop where
 le:h0.size<=B
 pg:r5 h' B P.w usl lb ((nG us:Nat):Int) us.length (2*us.length) S
 its:∀ n,(hn:n<us.length)->(S (2*n)).ws.map (·.2)=us[n].text.map (P.fG n)/\(S (2*n+1)).ws.map (·.2)=us[n].data.map (P.fG n)
 sz:∀ k,k<2*us.length->P2 (S k)
def One.ext (b:One h0 h us P B usl lb S) (e:Ext h h'):One h0 h' us P B usl lb S:=⟨b.le,b.pg.ext e,b.its,b.sz⟩
def C8.one (b:C8 h0 h us su P B usl lb S g b' lb2 st sd tw dw):One h0 h us P B usl lb S:=⟨b.le,b.pg,b.its,b.sz⟩
def As (u:cm) (j:Nat):List cB:=if j=0 then u.text else u.data
def One.sec (b:One h0 h us P B usl lb S) {n j:Nat} (hn:n<us.length) (a:j<2):(S (2*n+j)).ws.map (·.2)=(As us[n] j).map (P.fG n):=by
 unfold As
 by_cases h:j=0
 ·rw [ag9 h,h]; exact (b.its n hn).1
 ·rw [ac9 h,show j=1 from ad]; exact (b.its n hn).2
def One.item (b:One h0 h us P B usl lb S) {n j:Nat} (hn:n<us.length) (a:j<2):vv S us.length (n:Int) (j:Int)=(As us[n] j).map (P.fG n):=by
 unfold vv;rw [ag9 ⟨ad,ad,ad⟩];rw [show ((n:Int)).toNat=n from ad,show ((j:Int)).toNat=j from ad];exact b.sec hn a
variable {H:Xac}
def One.ok (b:One h0 h us P B usl lb S) {hv:Hp} {l:Nat} (v:xZ hv H l us) {n j:Nat} (hn:n<us.length) (r:j<2):∀ x,x∈(As us[n] j).map (P.fG n)->x.name.size<=maxLen/\Sm x.inst.op/\x.e.af.length<=2^60/\∀ t,t∈x.e.af->t.1.size<=maxLen:=by
 intro x f;obtain ⟨y,c,rfl⟩:=ap9.1 f;have hz:=b.sz (2*n+j) ad;rw [<- b.sec hn r] at f;obtain ⟨w,k,s⟩:=ap9.1 f;have h1:=hz.Zv w k;have h2:=hz.sz w k;rw [s] at h1 h2;obtain ⟨a,sa,sb,sc,u,C,hc,o⟩:=v.cells n hn;have hi:jj hv none 0 y\/(y.name.size<=maxLen/\Sm y.inst.op):=by
  right
  have d:∀ {q:Xac} {m:Nat} {xs:List cB},Ge hv q m xs->y∈xs->y.name.size<=maxLen/\Sm y.inst.op:=by
   intro q m xs z A;obtain ⟨i,hi,rfl⟩:=bh9 A;obtain ⟨_,_,_,_,_,_,it⟩:=z.cells i hi;exact ⟨it.name,it.op⟩
  unfold As at c
  by_cases h:j=0
  ·rw [ag9 h] at c; exact d o.text c
  ·rw [ac9 h] at c; exact d o.data c
 have hi:y.name.size<=maxLen/\Sm y.inst.op:=hi.elim (λit=>⟨it.name,it.op⟩) id;exact ⟨hi.1,hi.2,ad,h2⟩
def One.many (b:One h0 h us P B usl lb S) {n j:Nat} (hn:n<us.length) (a:j<2):(As us[n] j).length<=2^30:=by
 have h1:=(b.sz (2*n+j) ad).len;have h2:=as9 List.length (b.sec hn a);rw [ab9,ab9] at h2;omega
def One.out (b:One h0 h us P B usl lb S) (f:us.length<=2^20) {hv:Hp} {l:Nat} (v:xZ hv H l us) {n j:Nat} (hn:n<us.length) (d:j<2) :
  HC Xaz 40 #[ptr (B+3),vI (n:Int),vI (j:Int)] h λw h'=>Ext h h'/\∃ t ws,w=bC.v t/\C2 h' h.size t ws/\ws.map (·.2)=(As us[n] j).map (P.fG n)/\Ge h' t.p t.l ((As us[n] j).map (P.fG n))/\kh h.size h'.size (ws.map (·.1)):=by
 have hit:=O5 b.pg (am9 _) ad (λk hk=>⟨(b.sz k hk).len,(b.sz k hk).Zv⟩) n j ad;rw [b.item hn d] at hit;refine HC.mono hit λw h' i=>?_
 obtain ⟨e,t,ws,m,o,c,Gd⟩:=i;refine ⟨e,t,ws,m,o,c,?_,Gd⟩;have hmn:=b.many hn d;have a:ws.length<=2^60:=by
  have:=as9 List.length c
  rw [ab9,ab9] at this;omega
 have:=o.vw a (by rw [c]; exact b.ok v hn d)
 rwa [c] at this
end
end Go.Sx.Lk
namespace Go.Sx.Po
open Go.Proofs Go.Sx.Ob Go.Sx.Lk
def FZ (k:Int × Int):Xab:=.agg #[vI k.1,vI k.2]
def kjT:yC Xaz 89 FZ where
 check b a h K hk:=by rw [show FZ a=.agg #[vI a.1,vI a.2] from rfl,Iv]; exact hk
 kind:=⟨_,FX,λa b=>rfl⟩
 eqv a b h K hk:=by
  show aQ Xaz (Op.equal 89 (.agg #[vI a.1,vI a.2]) (.agg #[vI b.1,vI b.2])) h K;rw [ij FX Si (VW _ _ _ _),PV];have e:decide (a=b)=(a.1==b.1 && (a.2==b.2 && true)):=by
   obtain ⟨c,d⟩:=a;obtain ⟨f,g⟩:=b;show decide ((c,d)=(f,g))=(c==f && (d==g && true));rw [di9,ek9];simp only [Prod.mk.injEq,decide_eq_true_eq,Bool.and_eq_true,beq_iff_eq]
  rw [<- e];exact hk
 bits a:=by
  show ((2:Nat)==2 && _)=true;simp [Instr.sameBits,FZ]
 inj a b h:=by
  obtain ⟨c,d⟩:=a;obtain ⟨f,g⟩:=b;simp only [FZ,Value.agg.injEq,Array.mk.injEq,List.cons.injEq,Value.int.injEq,and_true,true_and] at h;rw [Prod.mk.injEq];exact h
def Zt (q:Nat × Nat):Xab:=.agg #[vI (q.1:Int),vI (q.2:Int)]
def noE (n:Nat):Xab:=vI (n:Int)
def VP:Tryz.prog.underlying 81=some (.map 89 86):=av
def vJ:Tryz.prog.underlying 126=some (.map 131 3):=av
def W8:(Tryz.prog.info? 3).bind (·.zero)=some (vI 0):=av
section
variable {L:Lp} {K:Xab->Hp->Prop} {h:Hp}
def OF {g n:Nat} {f:Ky->Option Nat} (m:jA FY noE h g f n) (s:Ky) {k:Int->Bool->T} (hk:k (((f s).getD 0:Nat):Int) (f s).isSome L K h) :
  T.dP Xaz (Instr.lookup 126 (.map (some g)) (FY s) true) true [(false,[.int .i64]),(false,[.bool])] k L K h:=by
 obtain ⟨D,m,a,_⟩:=m;show aQ _ _ _ _;refine sY kzT vJ W8 m s true _ ?_;rw [ag9 rfl,uc,a];refine ⟨((((f s).getD 0:Nat):Int),(f s).isSome,()),?_,hk⟩
 all_goals (cases f s <;> rfl)
end
variable {e:List bK}
def RX {m:List bK} {x:bK} (h:0<=mD e x):mD (e++m) x=mD e x:=by
 unfold mD at *;rw [ee9];cases a:e.findIdx? λy=>jO y x with
 | none=>rw [a] at h; exact absurd h bH
 | some k=>rfl
def NI {x:bK} (h:mD e x<0):mD (e++[x]) x=(e.length:Int):=by
 unfold mD at *;rw [ee9];cases a:e.findIdx? λy=>jO y x with
 | some k=>rw [a] at h; simp at h; omega
 | none=>simp [yf]
def GG (l:List bK) (x:bK):mD (lL l x) x=if mD l x<0 then (l.length:Int) else mD l x:=by
 unfold lL;split
 ·next h=>exact NI h
 ·rfl
def Mk (l:List bK) (x:bK):0<=mD (lL l x) x:=by
 rw [GG];split <;> omega
def iV (l:List bK) (x:bK):lL l x≠[]:=by
 intro h
 have:=Mk l x
 rw [h] at this;have h2:mD [] x=-1:=rfl;omega
def U3 (l:List bK) (x:bK):l <+: lL l x:=by
 unfold lL;split
 ·exact ⟨[x],rfl⟩
 ·exact ew9 _
theorem BO (u:Nat):∀ (its:List cB) (i:Nat) (l:List bK),l≠[]->∃ j l' r,xp u i its l=⟨u,j,l'⟩::r/\i<=j/\l <+: l'
 | [],i,l,h=>⟨i,l,[],by
   unfold xp shut;rw [ac9 (λa=>h (bu9 a))],am9 _,ew9 _⟩
 | x::its,i,l,h=>by
  unfold xp
  by_cases hk:x.kind=4
  ·rw [ag9 hk];unfold shut;rw [ac9 (λa=>h (bu9 a))];exact ⟨i,l,_,rfl,am9 _,ew9 _⟩
  ·rw [ac9 hk]
   by_cases hl:Gc x=true
   ·rw [ag9 hl];obtain ⟨j,l',r,h1,h2,b⟩:=BO u its (i+1) (lL l x.e) (iV _ _);exact ⟨j,l',r,h1,ad,(U3 l x.e).trans b⟩
   ·rw [ac9 hl];obtain ⟨j,l',r,h1,h2,b⟩:=BO u its (i+1) l h;exact ⟨j,l',r,h1,ad,b⟩
def Ts {out rest:List Pl} {u i:Nat} {x:cB} {its:List cB} {l:List bK} (d:∀ p,p∈out->p.u<u\/p.u=u/\p.i<i) (hl:Gc x=true) :
  L9 (out++(xp u (i+1) its (lL l x.e)++rest)) u i x.e=some (out.length,mD (lL l x.e) x.e):=by
 obtain ⟨j,l',r,h1,h2,f⟩:=BO u its (i+1) (lL l x.e) (iV _ _);rw [h1];have a:out.length<(out++((⟨u,j,l'⟩::r)++rest)).length:=ai
 have b:(out++((⟨u,j,l'⟩::r)++rest))[out.length]=⟨u,j,l'⟩:=by
  rw [ch9 (am9 _)]
  simp
 unfold L9;rw [Sq a (λe g c=>?_) (by rw [b]; simp; omega)]
 ·simp only [List.getElem?_eq_getElem a,b,Option.map_some,Option.getD_some];obtain ⟨m,rfl⟩:=f;rw [RX (Mk _ _)]
 ·rw [br9 c];rcases d _ (ah9 c) with h | ⟨h,h'⟩
  ·have:((out[e].u==u)=false):=by simp; omega
   rw [this]; rfl
  ·have:decide (i<out[e].i)=false:=by simp; omega
   rw [this,fe9]
def IG (I:Nat->List cB) (N:Nat) (k:Int × Int):Option (Nat × Nat):=(Mj I N k.1 k.2).map λq=>(q.1,q.2.toNat)
structure rK (h:Hp) (W:List Nat) (bl:Nat):Prop where
 t:∀ i,i∈W->∀ ys,¬ br h i 64 ys
 m:∀ i,i∈W->∀ ys,¬ br h i 55 ys
 l:∀ i,i∈W->bl<=i\/∀ ys,¬ br h i 53 ys
variable {O:Hp} {H Y a c i j:Nat} {f:TypeId}
def iU {e':TypeId} {ys zs:List Xab} (a:br O H f ys) (b:br O H e' zs):f=e':=by
 have:=bb9 (Eq.trans (Eq.symm a) b)
 injection this
variable {V:List Nat}
def rK.box {bl:Nat} {e:TypeId} (c:∀ i,i∈V->∃ ys,br O i e ys) (h1:e≠64) (h2:e≠55) (d:e≠53):rK O V bl :=
 ⟨λi hi ys a=>by obtain ⟨zs,b⟩:=c i hi; exact h1 (iU b a),λi hi ys a=>by obtain ⟨zs,b⟩:=c i hi; exact h2 (iU b a),λi hi=>.inr λys a=>by obtain ⟨zs,b⟩:=c i hi; exact d (iU b a)⟩
def rK.lit {bl:Nat} (c:∀ i,i∈V->∃ ys,br O i 53 ys) (a:∀ i,i∈V->bl<=i):rK O V bl :=
 ⟨λi hi ys a=>by obtain ⟨zs,b⟩:=c i hi; exact absurd (iU b a) bH,λi hi ys a=>by obtain ⟨zs,b⟩:=c i hi; exact absurd (iU b a) bH,λi hi=>.inl (a i hi)⟩
def rK.map {α β:Type} [DecidableEq α] {kv:α->Xab} {en:β->Xab} {bl:Nat} {f:α->Option β} {n:Nat} (m:jA kv en O H f n):rK O [H] bl:=by
 obtain ⟨D,⟨es,cl,b,_⟩,_⟩:=m;have no:∀ i,i∈[H]->∀ e ys,¬ br O i e ys:=by
  intro i hi e ys a;rw [an9.1 hi] at a
  have:=bb9 (Eq.trans (Eq.symm b) a)
  cases this
 exact ⟨λi hi=>no i hi 64,λi hi=>no i hi 55,λi hi=>.inr (no i hi 53)⟩
def rK.nil (h:Hp) (bl:Nat):rK h [] bl:=⟨ai,ai,ai⟩
structure Tg (x:bK):Prop where
 many:x.af.length<=2^40
 names:∀ t,t∈x.af->t.1.size<=maxLen
structure jM (h:Hp) (b lo hi:Nat) (s:bC) (xs:List bK):Prop where
 ex:∃ (cs:List (List Xab)) (ts:List bC),SL h b 53 2 s.p s.l s.c cs/\cs.length=xs.length/\ts.length=xs.length/\(∀ i,(hi:i<xs.length)->(hc:i<cs.length)->(ht:i<ts.length)->cs[i]=[ts[i].v,.int .u32 (xs[i].num:Int)]/\SL h 0 64 2 ts[i].p ts[i].l ts[i].c (xs[i].af.map cT)/\Tg xs[i])/\kh lo hi ts
def jM.nil (h:Hp) (b:Nat) {lo hi:Nat} (a:lo<=hi):jM h b lo hi ⟨none,0,0⟩ []:=⟨⟨[],[],SL.nil _ _ _ _,rfl,rfl,λi hi=>absurd hi ai,kh.nil a⟩⟩
variable {U b:bC}
def jM.len {lo hi:Nat} {xs:List bK} (v:jM O H lo hi U xs):U.l=xs.length:=by
 obtain ⟨cs,ts,sl,hl,_⟩:=v.ex;rw [<- hl];exact sl.1
def jM.cj {h:Hp} {b lo hi:Nat} {s:bC} {xs:List bK} (v:jM h b lo hi s xs):∀ i,i∈ax s.p->b<=i/\i<h.size:=by
 obtain ⟨cs,ts,sl,_⟩:=v.ex;exact λi hi=>⟨(sl.cj hi).1,P' sl i hi⟩
def jM.box {lo hi:Nat} {xs:List bK} (v:jM O H lo hi U xs):∀ i,i∈ax U.p->∃ ys,br O i 53 ys:=by
 obtain ⟨cs,ts,sl,_⟩:=v.ex;exact eP sl
def rc {h':Hp} {t:bC} {zs:List (List Xab)} {bl:Nat} (s:SL O H 64 2 t.p t.l t.c zs) (k:Ch V O h') (o:rK O V bl):SL h' H 64 2 t.p t.l t.c zs :=
 s.bf k λi hi a=>by
  obtain ⟨ys,d⟩:=eP s i hi;exact o.t i a ys d
def jM.aj {h':Hp} {lo hi:Nat} {xs:List bK} (v:jM O H lo hi U xs) {bl:Nat} (k:Ch V O h') (o:rK O V bl) (d:∀ i,i∈ax U.p->i∉V):jM h' H lo hi U xs:=by
 obtain ⟨cs,ts,sl,hl,ht,c,Gd⟩:=v.ex;exact ⟨⟨cs,ts,sl.bf k d,hl,ht,λi hi hc a=>⟨(c i hi hc a).1,rc (c i hi hc a).2.1 k o,(c i hi hc a).2.2⟩,Gd⟩⟩
def jM.Qc {h':Hp} {lo hi:Nat} {xs:List bK} (v:jM O H lo hi U xs) {bl:Nat} (k:Ch V O h') (o:rK O V bl) (a:∀ i,i∈ax U.p->i<bl):jM h' H lo hi U xs :=
 v.aj k o λi hi c=>by
  rcases o.l i c with h1 | h1
  ·have:=a i hi; omega
  ·obtain ⟨ys,d⟩:=v.box i hi;exact h1 ys d
def jM.vw {lo hi:Nat} {xs:List bK} (v:jM O H lo hi U xs) (c:xs.length<=2^40):W1 O U.p U.l xs:=by
 obtain ⟨cs,ts,sl,hl,ht,d,_⟩:=v.ex;refine ⟨v.len,c,λi hi=>?_⟩;obtain ⟨a,e,hc⟩:=SL.cells sl (i:=i) ad;obtain ⟨f,g,ok⟩:=d i hi ad ad;rw [f] at hc;exact ⟨a,_,_,_,e,hc,⟨Sx.SL.Mp g,by have:=ok.many; omega,ok.names⟩⟩
def jM.wk {h:Hp} {b lo hi a c:Nat} {s:bC} {xs:List bK} (v:jM h b lo hi s xs) (h1:a<=lo) (h2:hi<=c):jM h b a c s xs:=by
 obtain ⟨cs,ts,sl,hl,ht,d,Gd⟩:=v.ex;exact ⟨⟨cs,ts,sl,hl,ht,d,Gd.wk h1 h2⟩⟩
structure qF (h:Hp) (b bl lo hi:Nat) (s:bC) (pw:List (Pl × bC)):Prop where
 sl:SL h b 84 3 s.p s.l s.c (pw.map T6)
 lits:∃ β:Nat->Nat,(∀ k,lo<=β k/\β k<=hi/\β k<=β (k+1))/\∀ k,(hk:k<pw.length)->jM h 0 (β k) (β (k+1)) pw[k].2 pw[k].1.l
 Gd:kh b bl (pw.map (·.2))
def qF.bd {h:Hp} {b bl lo hi:Nat} {s:bC} {pw:List (Pl × bC)} (v:qF h b bl lo hi s pw) {x:Pl × bC} (a:x∈pw) {i:Nat} (hi:i∈ax x.2.p):b<=i/\i<bl:=v.Gd.bd (ay9 a) hi
def qF.wk {h:Hp} {b bl lo hi a c:Nat} {s:bC} {pw:List (Pl × bC)} (v:qF h b bl lo hi s pw) (h1:bl<=a) (h2:hi<=c):qF h b a lo c s pw:=by
 obtain ⟨β,d,e⟩:=v.lits;exact ⟨v.sl,⟨β,λk=>by have:=d k; omega,e⟩,v.Gd.wk (am9 _) h1⟩
def qF.aj {h':Hp} {bl lo hi:Nat} {pw:List (Pl × bC)} (v:qF O H bl lo hi U pw) (k:Ch V O h') (o:rK O V bl) (c:∀ i,i∈ax U.p->i∉V):qF h' H bl lo hi U pw:=by
 obtain ⟨β,h1,h2⟩:=v.lits;exact ⟨v.sl.bf k c,⟨β,h1,λj a=>(h2 j a).Qc k o λi hi=>(v.bd (ah9 a) hi).2⟩,v.Gd⟩
def qF.nil (h:Hp) {b bl lo hi:Nat} (h1:b<=bl) (h2:lo<=hi):qF h b bl lo hi ⟨none,0,0⟩ []:=⟨SL.nil _ _ _ _,⟨λ_=>lo,λ_=>⟨am9 _,h2,am9 _⟩,λk hk=>absurd hk ai⟩,kh.nil h1⟩
def YF:Tryz.prog.underlying 80=some (.slice 84):=av
def Zn:(Tryz.prog.info? 84).map (λi=>(i.zero,i.size,i.bytes))=some (some (.agg #[vI 0,vI 0,.slice none 0 0]),3,40):=av
section
variable {L:Lp} {K:Xab->Hp->Prop} {h:Hp}
variable {H:Xac->Nat->Nat->T} {O:bC} {U:Nat}
def MP {bl:Nat} {t:bC} {xs:List bK} {x:bK} {lo hi:Nat} (v:jM h bl lo U O xs) (n:U<=hi) (q:∀ i,i∈ax t.p->U<=i/\i<hi) (A:bl<=h.size) (D:xs.length<=2^30) (B:SL h 0 64 2 t.p t.l t.c (x.af.map cT)) (ok:Tg x)
  (hk:∀ a h',jM h' bl lo hi a (xs++[x])->Ch (ax O.p) h h'->H a.p a.l a.c L K h') :
  T.dP Xaz (Instr.buildSlice 28 1 #[(0,.agg #[.slice t.p t.l t.c,.int .u32 (x.num:Int)])]) false [(false,[.slice 0])] (λ(r:Xac) (u w:Nat)=>T.dP Xaz (Builtin.append_ #[28,28] 28 #[.slice O.p O.l O.c,.slice r u w]) false [(false,[.slice 0])] H) L K h:=by
 have hl:=v.len;have hbx:=v.box;have hbk:=v.cj;obtain ⟨cs,ts,sl,d,f,y,g⟩:=v.ex;refine eZ (b:=bl) (vs:=[.slice t.p t.l t.c,.int .u32 (x.num:Int)]) Pp Rg rfl ad ad (O' t.p t.l t.c x.num) rfl rfl sl A ad ad ?_;intro p' c' h' a k' _;have o:rK h (ax O.p) bl:=rK.lit hbx λi hi=>(hbk i hi).1
 refine hk ⟨p',O.l+1,c'⟩ h' ⟨⟨_,ts++[t],a,by simp [d],by simp [f],λi hi hc ht=>?_,g.snoc n q⟩⟩ k'
 by_cases j:i<xs.length
 ·rw [br9 (show i<cs.length from ad),br9 (show i<ts.length from ad)];have e:(xs++[x])[i]=xs[i]:=br9 j;rw [e];obtain ⟨h1,h2,C⟩:=y i j ad ad;exact ⟨h1,rc h2 k' o,C⟩
 ·have z:i=xs.length:=by simp at hi; omega
  subst z;rw [ch9 (show cs.length<=xs.length from ad),ch9 (show ts.length<=xs.length from ad)];have e:(xs++[x])[xs.length]=x:=ai
  rw [e];simp only [d,f,Nat.sub_self,List.getElem_cons_zero];exact ⟨rfl,rc B k' o,ok⟩
def SJ (u i:Int) (p:Xac) (l c:Nat):Instr.fill (λj=>some (j*3,3)) ((Array.range (1*3)).map ((Value.agg #[vI 0,vI 0,.slice none 0 0]).cells[· % (Value.agg #[vI 0,vI 0,.slice none 0 0]).cells.size]!)) [(0,.agg #[vI u,vI i,.slice p l c])]=some ([vI u,vI i,.slice p l c]:List Xab).toArray:=av
def JL {bl lo mid top:Nat} {t:bC} {pw:List (Pl × bC)} {u i:Nat} {xs:List bK} (ps:qF h U bl lo mid O pw) (v:jM h bl mid top t xs) (y:mid<=top) (A:U<=bl) (N:bl<=h.size) (w:pw.length<=2^30)
  (hk:∀ d h',qF h' U h'.size lo top d (pw++[(⟨u,i,xs⟩,t)])->Ch (ax O.p) h h'->(d.p=O.p\/∃ a,d.p=some a/\h.size<=a.block)->H d.p d.l d.c L K h') :
  T.dP Xaz (Instr.buildSlice 80 1 #[(0,.agg #[vI (u:Int),vI (i:Int),.slice t.p t.l t.c])]) false [(false,[.slice 0])] (λ(g:Xac) (n q:Nat)=>T.dP Xaz (Builtin.append_ #[80,80] 80 #[.slice O.p O.l O.c,.slice g n q]) false [(false,[.slice 0])] H) L K h:=by
 have hl:O.l=pw.length:=by have:=ps.sl.1; rwa [ab9] at this
 refine eZ (b:=U) (vs:=[vI (u:Int),vI (i:Int),.slice t.p t.l t.c]) YF Zn rfl ad ad (SJ u i t.p t.l t.c) rfl rfl ps.sl ad ad ad ?_;intro p' c' h' d k' B;have o:rK h (ax O.p) bl:=rK.box (eP ps.sl) bH bH bH;have z:=k'.size;obtain ⟨β,h1,h2⟩:=ps.lits;have hv:=v.cj;have hbx:=v.box;have C:kh U h'.size ((pw++[((⟨u,i,xs⟩:Pl),t)]).map λx=>x.2):=by
  rw [ao9];exact kh.snoc (m:=bl) (t:=t) ps.Gd ad (λ(j:Nat) (f:j∈ax t.p)=>And.intro (hv j f).1 (by have:=(hv j f).2; omega))
 refine hk ⟨p',O.l+1,c'⟩ h' ⟨by rw [ao9]; exact d,⟨λH=>if H<=pw.length then β H else top,λH=>?_,λH hk=>?_⟩,C⟩ k' B
 ·have h3:=h1 H;have h4:=h1 0;dsimp only;split <;> split <;> omega
 ·dsimp only;rw [ae9,List.length_singleton] at hk;rw [ag9 ad]
  by_cases e:H<pw.length
  ·rw [ag9 ad];rw [br9 e];exact (h2 H e).Qc k' o λj f=>(ps.bd (ah9 e) f).2
  ·have r:H=pw.length:=ad
   subst r;rw [ac9 ad,ch9 (am9 _)];simp only [Nat.sub_self,List.getElem_cons_zero];obtain ⟨cs,ts,sl,D,E,F,G⟩:=v.ex;have I:jM h 0 mid top t xs:=⟨⟨cs,ts,sl.mono (dw9 _),D,E,F,G⟩⟩
   refine (I.aj k' o λj f w=>?_).wk (h1 _).2.1 (am9 _);obtain ⟨ys,J⟩:=hbx j f;obtain ⟨zs,M⟩:=eP ps.sl j w;exact absurd (iU J M) bH
end
def iX (I:Nat->List cB) (N n i:Nat) (k:Int × Int):Option (Nat × Nat):=if 0<=k.1/\0<=k.2/\(k.1<n\/k.1=n/\k.2<i) then IG I N k else none
section
variable {I:Nat->List cB} {N n i:Nat}
def X0 (h:IG I N ((n:Int),(i:Int))=none):iX I N n (i+1)=iX I N n i:=by
 funext k
 obtain ⟨a,b⟩:=k;unfold iX;simp only
 by_cases e:a=(n:Int)/\b=(i:Int)
 ·obtain ⟨rfl,rfl⟩:=e;rw [ag9 ad,ac9 ad,h]
 ·by_cases h1:0<=a/\0<=b/\(a<(n:Int)\/a=(n:Int)/\b<(i:Int))
  ·rw [ag9 h1,ag9 ad]
  ·rw [ac9 h1,ac9 ad]
def Md {v:Nat × Nat} (h:IG I N ((n:Int),(i:Int))=some v):iX I N n (i+1)=uF (iX I N n i) ((n:Int),(i:Int)) v:=by
 funext k
 obtain ⟨a,b⟩:=k;unfold iX uF;simp only [Prod.mk.injEq]
 by_cases e:a=(n:Int)/\b=(i:Int)
 ·rw [ag9 e];obtain ⟨rfl,rfl⟩:=e;rw [ag9 ad,h]
 ·rw [ac9 e]
  by_cases h1:0<=a/\0<=b/\(a<(n:Int)\/a=(n:Int)/\b<(i:Int))
  ·rw [ag9 h1,ag9 ad]
  ·rw [ac9 h1,ac9 ad]
def KQ {u j:Nat} (h:(I u).length<=j):IG I N ((u:Int),(j:Int))=none:=by
 unfold IG Mj;simp only;split
 ·rfl
 ·rw [cg u,cg j,bv9 h] <;> rfl
def TJ {k:Int × Int} (h:k.1<0\/(N:Int)<=k.1\/k.2<0):IG I N k=none:=by
 unfold IG Mj;rw [ag9 h] <;> rfl
def Q7 {u j:Nat} (b:u<N) (a:j<(I u).length):IG I N ((u:Int),(j:Int))=if Gc (I u)[j] then (L9 (C3 I N) u j (I u)[j].e).map (λq=>(q.1,q.2.toNat)) else none:=by
 unfold IG Mj;simp only;rw [ac9 ad,cg u,cg j,ad9 a];simp only;split <;> rfl
def PH {m:Nat} (h:(I n).length<=m):iX I N n m=iX I N (n+1) 0:=by
 funext k
 obtain ⟨a,b⟩:=k;unfold iX;simp only
 by_cases h1:0<=a/\0<=b/\(a<(n:Int)\/a=(n:Int)/\b<(m:Int))
 ·rw [ag9 h1,ag9 ad]
 ·rw [ac9 h1]
  by_cases h2:0<=a/\0<=b/\(a<((n+1:Nat):Int)\/a=((n+1:Nat):Int)/\b<((0:Nat):Int))
  ·rw [ag9 h2];obtain ⟨j,rfl⟩:∃ j:Nat,b=(j:Int):=⟨b.toNat,ad⟩
   have c:a=(n:Int):=ad
   rw [c];exact (KQ ad).symm
  ·rw [ac9 h2]
def Tz:iX I N N 0=IG I N:=by
 funext k
 unfold iX;split
 ·rfl
 ·next h=>exact (TJ ad).symm
def SI:iX I N 0 0=λ_=>none:=by
 funext k
 unfold iX;rw [ac9 ad]
end
structure Ce (x:cB):Prop where
 tm:Tg x.e
 qz:Good x.e
 many:x.e.af.length<=2^30
 sz:∀ t,t∈x.e.af->t.1.size<=32/\t.2<4294967296
 num:x.e.num<4294967296
 name:x.name.size<=maxLen
 op:Sm x.inst.op
structure Z9 (h:Hp) (p:Xac) (l c:Nat) (ws:List (bC × cB)):Prop where
 out:SL h 0 55 10 p l c (ws.map uN)
 fF:∀ u,u∈ws->SL h 0 64 2 u.1.p u.1.l u.1.c (u.2.e.af.map cT)
variable {Z:Xac}
def Z9.aj {h':Hp} {ws:List (bC × cB)} (v:Z9 O Z H Y ws) {bl:Nat} (k:Ch V O h') (o:rK O V bl):Z9 h' Z H Y ws :=
 ⟨v.out.bf k λi hi a=>by
  obtain ⟨ys,b⟩:=eP v.out i hi;exact o.m i a ys b,λu d=>rc (v.fF u d) k o⟩
def jG {α β:Type} [DecidableEq α] {kv:α->Xab} {en:β->Xab} {g:Nat} {a:α->Option β} (m:jA kv en O g a H) {ys:List Xab} (b:br O Y f ys):Y≠g:=by
 rintro rfl;obtain ⟨D,⟨es,cl,c,_⟩,_⟩:=m
 have:=bb9 (Eq.trans (Eq.symm c) b)
 cases this
structure Mem (h:Hp) (b0 bl mid top:Nat) (s w:bC) (pw:List (Pl × bC)) (xs:List bK) (g8 n:Nat) (p:Xac) (l c:Nat) (ws:List (bC × cB)):Prop where
 ps:qF h b0 bl b0 mid s pw
 lq:jM h bl mid top w xs
 mt:mid<=top
 bx:br h g8 84 [vI (n:Int),vI 0,w.v]
 it:Z9 h p l c ws
def Mem.aj {h h':Hp} {b0 bl mid top:Nat} {s w:bC} {pw:List (Pl × bC)} {xs:List bK} {g8 n:Nat} {p:Xac} {l c:Nat} {ws:List (bC × cB)} (v:Mem h b0 bl mid top s w pw xs g8 n p l c ws) {W:List Nat} (k:Ch W h h') (o:rK h W bl) (a:∀ i,i∈ax s.p->i∉W) (b:∀ i,i∈ax w.p->i∉W) (d:g8∉W):Mem h' b0 bl mid top s w pw xs g8 n p l c ws :=
 ⟨v.ps.aj k o a,v.lq.aj k o b,v.mt,v.bx.aj k d,v.it.aj k o⟩
def Mem.PK {α β:Type} [DecidableEq α] {kv:α->Xab} {en:β->Xab} {h':Hp} {b0 bl mid top:Nat} {pw:List (Pl × bC)} {xs:List bK} {g8:Nat} {ws:List (bC × cB)} (v:Mem O b0 bl mid top U b pw xs g8 H Z Y a ws) {f:α->Option β} {nf:Nat} (m:jA kv en O c f nf) (k:Ch [c] O h'):Mem h' b0 bl mid top U b pw xs g8 H Z Y a ws:=by
 refine v.aj k (rK.map m) (λi hi d=>?_) (λi hi d=>?_) (λd=>?_)
 ·obtain ⟨ys,e⟩:=eP v.ps.sl i hi;exact jG m e (an9.1 d)
 ·obtain ⟨ys,e⟩:=v.lq.box i hi;exact jG m e (an9.1 d)
 ·exact jG m v.bx (an9.1 d)
def Mem.ext {h':Hp} {b0 bl mid top:Nat} {pw:List (Pl × bC)} {xs:List bK} {g8:Nat} {ws:List (bC × cB)} (v:Mem O b0 bl mid top U b pw xs g8 H Z Y a ws) (e:Ext O h'):Mem h' b0 bl mid top U b pw xs g8 H Z Y a ws:=v.aj e (rK.nil _ _) ai ai ai
structure NS (h0 h:Hp) (I:Nat->List cB) (β:Nat->Nat) (N gs gm n i g8:Nat) (s w:bC) (pw:List (Pl × bC)) (bl:Nat) (xs:List bK) (p:Xac) (l c:Nat) (ws:List (bC × cB)):Prop where
 e:Ext h0 h
 mem:∃ mid top,Mem h h0.size bl mid top s w pw xs g8 n p l c ws/\top<=β i
 sz:∀ k,β k<=h.size
 lo:h0.size<=bl
 hi:bl<=h.size
 ms:∃ nf,jA FZ Zt h gs (iX I N n i) nf
 mm:∃ m nm,jA FY noE h gm m nm/\(∀ t,m (s.l,t)=xs.findIdx? λy=>decide (fM y=t))/\∀ q t,s.l<q->m (q,t)=none
 ord:∀ p,p∈pw.map (·.1)->p.u<n\/p.u=n/\p.i<i
 l8:h0.size<=g8
 n8:g8∉ax s.p
 xl:xs.length<=i
 qz:∀ y,y∈xs->Good y
 en:(I n).length<i->xs=[]
 eq:pw.map (·.1)++((if i<=(I n).length then xp n i ((I n).drop i) xs else [])++II I N (n+1))=C3 I N
def XB {L:Lp} {K:Xab->Hp->Prop} {h0 h:Hp} {I:Nat->List cB} {β:Nat->Nat} {N gs gm n i g8 M:Nat} {s w:bC} {pw:List (Pl × bC)} {bl:Nat} {xs:List bK} {p:Xac} {l c:Nat} {ws:List (bC × cB)} (O:eU h0) (hg:gs≠gm) (hgs:h0.size<=gs) (hgm:h0.size<=gm)
  (a:NS h0 h I β N gs gm n i g8 s w pw bl xs p l c ws) (hn:n<N) (hi:i<(I n).length) (hlen:(I n).length<=2^29) {q:Xac} {m d:Nat} (o:Gc (I n)[i]=true) (b35:br h M 55 (encI q m d (I n)[i])) (hsl:SL h 0 64 2 q m d ((I n)[i].e.af.map cT)) (ok:Ce (I n)[i]) (hβ:β i<=β (i+1)) (hq:∀ j,j∈ax q->β i<=j/\j<β (i+1))
  (go:∀ h' w' Z,NS h0 h' I β N gs gm n (i+1) g8 s w' pw bl Z p l c ws->T.again 1 [.slice s.p s.l s.c,vI (IntKind.wrap .i64 ((i:Int)+(1:Int)))] L K h'):ldT ⟨g8,0,none⟩ (some gs) (some gm) (n:Int) (i:Int) ⟨M,0,none⟩ s.p s.l s.c L K h:=by
 obtain ⟨mid,top,mem,htop⟩:=a.mem;have P:s.l=pw.length:=by have:=mem.ps.sl.1; rwa [ab9] at this
 have heq:=a.eq;rw [ag9 ad,Js hi] at heq;have hk2:(I n)[i].kind=2:=by
  unfold Gc at o;rw [bm9] at o;exact eq_of_beq o.1
 rw [ac9 ad,ag9 o] at heq;have hT:=Q7 (I:=I) hn hi;rw [ag9 o] at hT;have hsq:=Ts (out:=pw.map (·.1)) (rest:=II I N (n+1)) (u:=n) (i:=i) (its:=(I n).drop (i+1)) (l:=xs) a.ord o;rw [heq,ab9,<- P] at hsq;rw [hsq] at hT;simp only [Option.map_some] at hT;have D:∀ p,p∈pw.map (·.1)->p.u<n\/p.u=n/\p.i<i+1:=λp X=>(a.ord p X).imp id λh=>⟨h.1,ad⟩
 generalize (I n)[i]=x at *;unfold ldT aY fo bg dp aE bZ aS cH;rw [aw,aw];refine ay b35 ((q,m,d),(x.e.num:Int),()) (ak ?_);refine aG (TE (x:=x.e) (Sx.SL.Mp hsl) (O.aj a.e ai) ok.many ok.sz ok.num) ?_;rintro _ h1 ⟨rfl,e1⟩;refine ⟨(fM x.e,()),rfl,ak ?_⟩;refine bn ?_;intro h2 b2 e2 z2;refine bJ b2 ?_;intro h3 Y k3 z3;have Y:br h3 h1.size 131 [vI (s.l:Int),.string (fM x.e)]:=Y;have e13:Ext h1 h3:=bS e2 k3;have e03:=e1.trans e13;refine ay Y ((s.l:Int),fM x.e,()) (ak ?_);have mem:=mem.ext e03;have b35:=b35.aj e03 ai;have hsl:=hsl.bf e03 ai;have eh:=a.e.trans e03;have hbl:=a.hi;have z03:=e03.size;obtain ⟨nf,ms⟩:=a.ms;have ms:=ms.aj e03 ai;obtain ⟨mf,nm,mm,B,Q⟩:=a.mm;have mm:=mm.aj e03 ai;have E:mf (s.l,fM x.e)=xs.findIdx? λy=>jO y x.e:=by rw [B,N0 a.qz ok.qz]
 refine OF (s:=(s.l,fM x.e)) mm ?_;rw [E];cases hf:(xs.findIdx? λy=>jO y x.e) with
 | some k =>
  refine bX rfl ?_;have X:mD xs x.e=(k:Int):=by unfold mD; rw [hf]
  have g:lL xs x.e=xs:=by unfold lL; rw [ac9 ad]
  rw [g,X] at hT;rw [g] at heq;refine L6 kjT VP ms ((n:Int),(i:Int)) ((s.l,k):Nat × Nat) ?_;intro h4 m4 z z4;have e4:Ext h0 h4:=bS eh z;rw [<- Md (by rw [hT]; rfl)] at m4;exact go h4 w xs ⟨e4,⟨mid,top,mem.PK ms z,ad⟩,λk=>by have:=a.sz k; have:=z.size; omega,a.lo,by have:=z.size; omega,⟨_,m4⟩,⟨mf,nm,mm.aj z (by simp; omega),B,Q⟩,D,a.l8,a.n8,by have:=a.xl; omega,a.qz,λC=>absurd C ad,by rw [ag9 ad]; exact heq⟩
 | none =>
  refine bU rfl ?_;have X:mD xs x.e=-1:=by unfold mD; rw [hf]
  have g:lL xs x.e=xs++[x.e]:=by unfold lL; rw [ag9 ad]
  have hwl:=mem.lq.len;have hxl:=a.xl;have R:mD (lL xs x.e) x.e=(xs.length:Int):=by rw [GG,ag9 ad]
  rw [R] at hT;rw [g] at heq;refine ay mem.bx ((w.p,w.l,w.c),()) (ak ?_);refine ay Y ((s.l:Int),fM x.e,()) (ak ?_);refine L6 kzT vJ mm (s.l,fM x.e) w.l ?_;intro h4 S z z4;have mem4:=mem.PK mm z;have b354:=b35.aj z (λb=>jG mm b35 (an9.1 b));have hsl4:=rc (t:=⟨q,m,d⟩) hsl z (rK.map (bl:=0) mm);have ms4:=ms.aj z (by simp; omega);have e4:Ext h0 h4:=bS eh z;have z4':=z.size;refine ay mem4.bx ((w.p,w.l,w.c),()) (ak ?_);refine ay b354 ((q,m,d),(x.e.num:Int),()) (ak ?_);refine MP (t:=⟨q,m,d⟩) (hi:=β (i+1)) mem4.lq ad (λj f=>by have:=hq j f; omega) ad ad hsl4 ok.tm ?_;intro w' h5 U F;have hbx:=mem4.lq.box;have hbk:=mem4.lq.cj;have o5:rK h4 (ax w.p) bl:=rK.lit hbx λj f=>(hbk j f).1
  have ps5:=mem4.ps.aj F o5 (λj f b=>by
   obtain ⟨ys,G⟩:=eP mem4.ps.sl j f;obtain ⟨zs,A⟩:=hbx j b;exact absurd (iU G A) bH)
  have bx5:=mem4.bx.aj F (λb=>by
   obtain ⟨zs,A⟩:=hbx _ b;exact absurd (iU mem4.bx A) bH)
  have it5:=mem4.it.aj F o5;have ms5:=ms4.aj F (λb=>by
   obtain ⟨zs,A⟩:=hbx _ b;exact jG ms4 A rfl)
  have mm5:=S.aj F (λb=>by
   obtain ⟨zs,A⟩:=hbx _ b;exact jG S A rfl)
  have e5:Ext h0 h5:=Ch.trans e4 F (λj f hl=>by have:=(hbk j f).1; have:=a.lo; omega);have z5:=F.size;refine bJ bx5 ?_;intro h6 H J z6;have H:br h6 g8 84 [vI (n:Int),vI 0,w'.v]:=H;have o6:rK h5 [g8] bl:=rK.box (e:=84) (λj f=>by rw [an9.1 f]; exact ⟨_,bx5⟩) bH bH bH;have ps6:=ps5.aj J o6 (λj f b=>a.n8 (by rw [<- an9.1 b]; exact f));have lq6:=U.aj J o6 (λj f b=>by
   obtain ⟨zs,A⟩:=U.box j f;rw [an9.1 b] at A;exact absurd (iU bx5 A) bH)
  have it6:=it5.aj J o6;have ms6:=ms5.aj J (λb=>jG ms5 bx5 (an9.1 b).symm);have mm6:=mm5.aj J (λb=>jG mm5 bx5 (an9.1 b).symm);have e6:Ext h0 h6:=Ch.trans e5 J (λj f hl=>by simp at f; have:=a.l8; omega);refine L6 kjT VP ms6 ((n:Int),(i:Int)) ((s.l,w.l):Nat × Nat) ?_;intro h7 m7 V z7;have e7:Ext h0 h7:=bS e6 V;rw [<- Md (by rw [hT]; simp [hwl])] at m7;have W:Mem h6 h0.size bl mid (β (i+1)) s w' pw (xs++[x.e]) g8 n p l c ws:=⟨ps6,lq6,by have:=mem4.mt; omega,H,it6⟩
  refine go h7 w' (xs++[x.e]) ⟨e7,⟨mid,_,W.PK ms6 V,am9 _⟩,λk=>by have:=a.sz k; have:=V.size; omega,a.lo,by have:=V.size; omega,⟨_,m7⟩,⟨_,_,mm6.aj V (by simp; omega),λt=>?_,λr t hr=>?_⟩,D,a.l8,a.n8,by simp; omega,?_,λC=>absurd C ad,by rw [ag9 ad]; exact heq⟩
  ·unfold uF;rw [ee9]
   by_cases ht:t=fM x.e
   ·subst ht;rw [ag9 rfl,<- B,E,hf,hwl]
    simp
   ·rw [ac9 (by intro C; exact ht (du9 C).2),B];cases (xs.findIdx? λy=>decide (fM y=t)) with
    | some k=>rfl
    | none =>
     have:decide (fM x.e=t)=false:=al9 λC=>ht C.symm
     simp [this]
  ·unfold uF;rw [ac9 (by intro C; have:=(du9 C).1; omega)];exact Q r t hr
  ·intro y G;rcases ar9.1 G with G | G
   ·exact a.qz y G
   ·rw [an9.1 G]; exact ok.qz
def X5 {L:Lp} {K:Xab->Hp->Prop} {h0 h:Hp} {I:Nat->List cB} {β:Nat->Nat} {N gs gm n i g8 M:Nat} {s w:bC} {pw:List (Pl × bC)} {bl:Nat} {xs:List bK} {p:Xac} {l c:Nat} {ws:List (bC × cB)} (hgs:h0.size<=gs) (hgm:h0.size<=gm)
  (b:NS h0 h I β N gs gm n i g8 s w pw bl xs p l c ws) (S:i<=(I n).length) (hlen:(I n).length<=2^29) (U:pw.length<=2^30) {q:Xac} {m d:Nat} {x:cB} (hk:i=(I n).length->x.kind=4) (hβ:β i<=β (i+1)) (V:IG I N ((n:Int),(i:Int))=none) (W:br h M 55 (encI q m d x))
  (X:xp n i ((I n).drop i) xs=if x.kind=4 then shut n i xs++(if i+1<=(I n).length then xp n (i+1) ((I n).drop (i+1)) [] else []) else (if i+1<=(I n).length then xp n (i+1) ((I n).drop (i+1)) xs else []))
  (Y:∀ h' C w' Z bl' xs',NS h0 h' I β N gs gm n (i+1) g8 C w' Z bl' xs' p l c ws->T.again 1 [.slice C.p C.l C.c,vI (IntKind.wrap .i64 ((i:Int)+(1:Int)))] L K h'):plT ⟨g8,0,none⟩ (n:Int) (i:Int) ⟨M,0,none⟩ s.p s.l s.c L K h:=by
 obtain ⟨mid,top,mem,htop⟩:=b.mem;have hsl0:s.l=pw.length:=by have:=mem.ps.sl.1; rwa [ab9] at this
 have heq:=b.eq;rw [ag9 S,X] at heq;have hwl:=mem.lq.len;have o:∀ p,p∈pw.map (·.1)->p.u<n\/p.u=n/\p.i<i+1:=λp hp=>(b.ord p hp).imp id λh=>⟨h.1,ad⟩
 obtain ⟨nf,ms⟩:=b.ms;rw [<- X0 V] at ms;obtain ⟨mf,nm,mm,O,B⟩:=b.mm;unfold plT aY bg bm;rw [aw,aw];refine ay W (x.kind,()) (ak ?_);refine ao ?_ ?_<;>intro D
 ·have D:x.kind=4:=eq_of_beq D;rw [ag9 D,az9] at heq;refine ay mem.bx ((w.p,w.l,w.c),()) (ak ?_);refine aI ?_ ?_<;>intro g1
  ·have hsh:shut n i xs=[⟨n,i,xs⟩]:=by unfold shut; rw [ac9 ad]
   rw [hsh] at heq;refine bJ mem.bx ?_;intro h1 z F z1;have z:br h1 g8 84 [vI (n:Int),vI (i:Int),w.v]:=z;have o1:rK h [g8] bl:=rK.box (e:=84) (λj g=>by rw [an9.1 g]; exact ⟨_,mem.bx⟩) bH bH bH;have ps1:=mem.ps.aj F o1 (λj g f=>b.n8 (by rw [<- an9.1 f]; exact g));have lq1:=mem.lq.aj F o1 (λj g f=>by
    obtain ⟨zs,G⟩:=mem.lq.box j g;rw [an9.1 f] at G;exact absurd (iU mem.bx G) bH)
   have it1:=mem.it.aj F o1;have ms1:=ms.aj F (λf=>jG ms mem.bx (an9.1 f).symm);have mm1:=mm.aj F (λf=>jG mm mem.bx (an9.1 f).symm);have e1:Ext h0 h1:=Ch.trans b.e F (λj g hl=>by simp at g; have:=b.l8; omega);refine ay z ((n:Int),(i:Int),(w.p,w.l,w.c),()) (ak ?_);have hb:=b.hi;refine JL (u:=n) (i:=i) (xs:=xs) ps1 lq1 mem.mt b.lo ad U ?_;intro C h2 P H A;have o2:rK h1 (ax s.p) bl:=rK.box (eP ps1.sl) bH bH bH;have bx2:=z.aj H b.n8;have it2:=it1.aj H o2;have ms2:=ms1.aj H (λf=>by
    obtain ⟨zs,G⟩:=eP ps1.sl _ f;exact jG ms1 G rfl)
   have mm2:=mm1.aj H (λf=>by
    obtain ⟨zs,G⟩:=eP ps1.sl _ f;exact jG mm1 G rfl)
   have e2:Ext h0 h2:=Ch.trans e1 H (λj g hl=>by have:=(ps1.sl.cj g).1; omega);have z2:=H.size;have Q:g8∉ax C.p:=by
    rcases A with A | ⟨a,A,ha⟩
    ·rw [A]; exact b.n8
    ·rw [A];intro f
     have:g8=a.block:=an9.1 f
     have:=z.lt
     omega
   have hs':C.l=s.l+1:=by
    have:=P.sl.1
    rw [ab9,ae9,List.length_singleton] at this;omega
   refine bJ bx2 ?_;intro h3 E R z3;have E:br h3 g8 84 [vI (n:Int),vI 0,(⟨none,0,0⟩:bC).v]:=E;have o3:rK h2 [g8] h2.size:=rK.box (e:=84) (λj g=>by rw [an9.1 g]; exact ⟨_,bx2⟩) bH bH bH;have ps3:=P.aj R o3 (λj g f=>Q (by rw [<- an9.1 f]; exact g));have ms3:=ms2.aj R (λf=>jG ms2 bx2 (an9.1 f).symm);have mm3:=mm2.aj R (λf=>jG mm2 bx2 (an9.1 f).symm);have e3:Ext h0 h3:=Ch.trans e2 R (λj g hl=>by simp at g; have:=b.l8; omega);refine Y h3 C ⟨none,0,0⟩ _ h2.size [] ⟨e3,⟨top,top,⟨ps3,jM.nil _ _ (am9 _),am9 _,E,it2.aj R o3⟩,ad⟩,λk=>by have:=b.sz k; omega,by have:=b.lo; omega,ad,⟨_,ms3⟩,⟨_,_,mm3,λt=>?_,λr t hr=>B r t ad⟩,?_,b.l8,Q,ai,ai,λ_=>rfl,?_⟩
   ·rw [B _ _ ad] <;> rfl
   ·intro y J;rw [ao9,ar9] at J;rcases J with J | J
    ·exact o y J
    ·have:y=⟨n,i,xs⟩:=by simpa using J
     rw [this];exact .inr ⟨rfl,by show i<i+1; omega⟩
   ·rw [ao9,az9];exact heq
  ·have hx0:xs=[]:=bu9 ad;subst hx0;exact Y h s w pw bl [] ⟨b.e,⟨mid,top,mem,ad⟩,b.sz,b.lo,b.hi,⟨_,ms⟩,⟨_,_,mm,O,B⟩,o,b.l8,b.n8,ai,b.qz,λ_=>rfl,heq⟩
 ·have D:¬ x.kind=4:=fi9 D;rw [ac9 D] at heq;exact Y h s w pw bl xs ⟨b.e,⟨mid,top,mem,ad⟩,b.sz,b.lo,b.hi,⟨_,ms⟩,⟨_,_,mm,O,B⟩,o,b.l8,b.n8,by have:=b.xl; omega,b.qz,λhh=>absurd (hk ad) D,heq⟩
def kY:cB:=⟨4,⟨#[]⟩,⟨0,0,0,0,0⟩,⟨[],0⟩,0⟩
def Y5:Tryz.prog.underlying 46=some (.slice 55):=av
def Xr:Instr.fill (λj=>some (j*10,10)) ((Array.range (1*10)).map ((Value.agg iz.toArray).cells[· % (Value.agg iz.toArray).cells.size]!)) [(0,.agg #[vI (4:Int),.string ⟨#[]⟩,vI (0:Int),vI (0:Int),vI (0:Int),.int .i32 (0:Int),vI (0:Int),.slice none 0 0,.int .u32 (0:Int),vI (0:Int)])]=some (encI none 0 0 kY).toArray:=av
def QZ {x:cB} (s:SL O 0 64 2 U.p U.l U.c (x.e.af.map cT)) (ok:Ce x):jj O U.p U.l x:=⟨⟨Sx.SL.Mp s,by have:=ok.tm.many; omega,ok.tm.names⟩,ok.name,ok.op⟩
def Re (h:Hp):jj h none 0 kY:=⟨⟨⟨rfl,λi hi=>absurd hi (by simp [kY])⟩,by simp [kY],by simp [kY]⟩,by show 0<=_; omega,by unfold Sm; show _<=(0:Int)/\(0:Int)<=_; omega⟩
variable {d:Nat->List cB}
def Fs (pw10:eU O) (tb:zY O) {N:Nat} (hN:N<=2^29) (un:∀ h',Ext O h'->ug Xaz 39 [ptr (H+3)] h' (vI (N:Int)))
  (its:∀ h',Ext O h'->∀ n:Nat,n<N->HC Xaz 40 #[ptr (H+3),vI (n:Int),vI 0] h' λv h''=>Ext h' h''/\∃ t ws,v=bC.v t/\C2 h'' h'.size t ws/\ws.map (·.2)=d n/\kh h'.size h''.size (ws.map (·.1)))
  (hI:∀ n,n<N->(d n).length<=2^29) (hR:(C3 d N).length<=2^30) (ok:∀ n x,n<N->x∈d n->Ce x) :
  HC Xaz 22 #[ptr (H+3)] O λv h'=>Ext O h'/\∃ s pw gs nf,v=.tuple #[bC.v s,.map (some gs)]/\qF h' O.size h'.size O.size h'.size s pw/\pw.map (·.1)=C3 d N/\jA FZ Zt h' gs (IG d N) nf:=by
 refine aX (args:=[ptr (H+3)]) mixed Tryz.func22 av (Ca (some ⟨H+3,0,none⟩)) ?_;unfold zk aR aY bz aK bj cY cv bg dp aE bR bm bZ aS fH;refine EQ (kv:=FZ) (en:=Zt) ?_;intro h1 ms1 e1 z1;refine bX rfl ?_;refine EQ (kv:=FY) (en:=noE) ?_;intro h2 mm2 e2 z2;have e02:=e1.trans e2;have ms2:=ms1.aj e2 ai;have hgl:=ms1.lt;refine jD (un h2 e02) ?_;generalize hgs:O.size=gs at ms2;have R:O.size<=h1.size:=ad
 have hne:gs≠h1.size:=ad
 have M:O.size<=gs:=ad
 generalize h1.size=gm at mm2 R hne;refine aM (cs:=kX) (λy k h'=>∃ (n:Nat) (s:bC) (pw:List (Pl × bC)) (bl:Nat),y.1=(s.p,s.l,s.c)/\y.2.1=(n:Int)/\k=N-n/\n<=N/\Ext O h'/\(∃ mid,qF h' O.size bl O.size mid s pw/\mid<=h'.size)/\O.size<=bl/\bl<=h'.size/\(∃ nf,jA FZ Zt h' gs (iX d N n 0) nf)/\(∃ m nm,jA FY noE h' gm m nm/\∀ q t,s.l<=q->m (q,t)=none)/\(∀ p,p∈pw.map (·.1)->p.u<n)/\pw.map (·.1)++II d N n=C3 d N) ((none,0,0),(0:Int),()) N rfl
  ⟨0,⟨none,0,0⟩,[],O.size,rfl,rfl,rfl,ad,e02,⟨O.size,qF.nil _ (am9 _) (am9 _),e02.size⟩,am9 _,by have:=e02.size; omega,⟨0,by rw [SI]; exact ms2⟩,⟨_,_,mm2,λ_ _ _=>rfl⟩,ai,rfl⟩ ?_
 rintro ⟨⟨p4,l5,c6⟩,n7,⟨⟩⟩ k h3 ⟨n,s,pw,bl,hs,hn,rfl,hle,e3,⟨mid,ps,hmid⟩,lo,hi,⟨nf,ms⟩,⟨mf,nm,mm,S⟩,ord,U⟩;simp only [Prod.mk.injEq] at hs hn;obtain ⟨rfl,rfl,rfl⟩:=hs;subst hn;refine ak ?_;refine aI ?_ ?_<;>intro g
 ·have hn:n<N:=ad
  have hIn:=hI n hn;rw [Wh hn] at U;refine bn ?_;intro h4 b4 e4 z4;refine bJ b4 ?_;intro h5 b5 k5 z5;have b5:br h5 h3.size 84 [vI (n:Int),vI 0,(⟨none,0,0⟩:bC).v]:=b5;have V:Ext h3 h5:=bS e4 k5;refine aG (its h5 (e3.trans V) n hn) ?_;rintro _ h6 ⟨e6,t,ws,rfl,own,hws,γ,γ1,γ2⟩;refine ⟨((t.p,t.l,t.c),()),rfl,ak ?_⟩;have hwl:ws.length=(d n).length:=by rw [<- hws,ab9]
  have htl:t.l=ws.length:=by have:=own.out.1; rwa [ab9] at this
  have z6:=e6.size;refine eZ (b:=h5.size) (vs:=encI none 0 0 kY) Y5 aaF rfl ad ad Xr rfl rfl own.out ad ad ad ?_;intro p' c' h7 s7 k7 _;have e57:Ext h5 h7:=Ch.trans e6 k7 (λj hj hl=>by have:=(own.out.cj hj).1; omega);have e37:=V.trans e57;have it:Z9 h7 p' (t.l+1) c' (ws++[(⟨none,0,0⟩,kY)]):=by
   refine ⟨?_,λu E=>?_⟩
   ·have:=s7.mono (dw9 _)
    rw [ao9];exact this
   ·rcases ar9.1 E with E | E
    ·exact SL.lB ((own.fF u E).mono (dw9 _)) k7 (eP own.out) bH
    ·rw [an9.1 E];exact SL.nil _ _ _ _
  have b7:=b5.aj e57 ai;have l8:O.size<=h3.size:=e3.size;have z37:=e37.size;have ns0:NS O h7 d γ N gs gm n 0 h3.size s ⟨none,0,0⟩ pw bl [] p' (t.l+1) c' (ws++[(⟨none,0,0⟩,kY)]) :=
   ⟨e3.trans e37,⟨mid,mid,⟨ps.aj e37 (rK.nil _ _) ai,jM.nil _ _ (am9 _),am9 _,b7,it⟩,by have:=(γ1 0).1; have:=V.size; omega⟩,λk=>by have:=(γ1 k).2.1; have:=k7.size; omega,lo,ad,⟨nf,ms.aj e37 ai⟩,⟨mf,nm,mm.aj e37 ai,λt=>by rw [S _ _ (am9 _)]; rfl,λq t U=>S _ _ ad⟩,λp hp=>.inl (ord p hp),l8,λhm=>by
    have:=P' ps.sl _ hm
    omega,ai,ai,λ_=>rfl,by rw [ag9 ad]; exact U⟩
  refine aM (cs:=kX) (λy k h'=>∃ (i:Nat) (s w:bC) (pw:List (Pl × bC)) (bl:Nat) (xs:List bK),y.1=(s.p,s.l,s.c)/\y.2.1=(i:Int)/\k=(d n).length+1-i/\i<=(d n).length+1/\NS O h' d γ N gs gm n i h3.size s w pw bl xs p' (t.l+1) c' (ws++[(⟨none,0,0⟩,kY)])) ((s.p,s.l,s.c),(0:Int),()) ((d n).length+1) rfl
   ⟨0,s,⟨none,0,0⟩,pw,bl,[],rfl,rfl,rfl,ad,ns0⟩ ?_
  clear ns0 it b7 ps ms mm S ord U;rintro ⟨⟨p18,l19,c20⟩,n21,⟨⟩⟩ k h8 ⟨i,s,w,pw,bl,xs,hs,hi2,rfl,hil,r⟩;simp only [Prod.mk.injEq] at hs hi2;obtain ⟨rfl,rfl,rfl⟩:=hs;subst hi2;refine ak ?_;have hwi:i<=(d n).length->IntKind.wrap .i64 ((i:Int)+1)=((i+1:Nat):Int):=λ_=>by rw [wrap_i64 ad ad]; omega
  refine aI ?_ ?_<;>intro g1
  ·have P:i<=(d n).length:=ad
   have hwi:=hwi P;have hiw:i<(ws++[((⟨none,0,0⟩:bC),kY)]).length:=by simp; omega
   obtain ⟨F,Q,C,G⟩:=r.mem;obtain ⟨a,ha,hc⟩:=SL.cells C.it.out (i:=i) (by rw [ab9]; exact hiw);rw [aj9] at hc;have hin:=C.it.fF _ (ah9 hiw);have E:(i<(d n).length->∃ A:i<(d n).length,(ws++[((⟨none,0,0⟩:bC),kY)])[i].2=(d n)[i])/\(i=(d n).length->(ws++[((⟨none,0,0⟩:bC),kY)])[i]=(⟨none,0,0⟩,kY))/\(i<(d n).length->∀ j,j∈ax (ws++[((⟨none,0,0⟩:bC),kY)])[i].1.p->γ i<=j/\j<γ (i+1)):=by
    refine ⟨?_,?_,?_⟩
    ·intro A;refine ⟨A,?_⟩;rw [br9 ad]
     have:=aj9 (l:=ws) (f:=(·.2)) (i:=i) (h:=by rw [ab9]; omega)
     rw [<- this]
     congr 1
    ·intro A;rw [ch9 ad];simp [hwl,A]
    ·intro A j hj;rw [br9 ad] at hj;exact γ2 i (by rw [ab9]; omega) j (by rw [aj9]; exact hj)
   generalize (ws++[((⟨none,0,0⟩:bC),kY)])[i]=u at hc hin E;obtain ⟨D,x⟩:=u;simp only at hin E;have hc:aH h8 (a.add (i*10)) 0 (encI D.p D.l D.c x):=hc;have hat:jj h8 D.p D.l x:=by
    by_cases A:i<(d n).length
    ·obtain ⟨_,W⟩:=E.1 A;exact QZ hin (by rw [W]; exact ok n _ hn (ah9 A))
    ·have:=E.2.1 ad
     have h1:=(du9 this).1;have h2:=(du9 this).2;subst h1 h2;exact Re _
   refine bM ha ?_;rw [cg i];refine ar (x.kind,x.name,x.inst.op,x.inst.a,x.inst.b,x.inst.n,x.inst.form,(D.p,D.l,D.c),(x.e.num:Int),x.n,()) hc (ak ?_);refine bn ?_;intro h9 b9 e9 z9;refine bJ b9 ?_;intro h10 L k10 z10;have L:br h10 h8.size 55 (encI D.p D.l D.c x):=L;have J:Ext h8 h10:=bS e9 k10;refine ay L (x.kind,x.name,x.inst.op,x.inst.a,x.inst.b,x.inst.n,x.inst.form,(D.p,D.l,D.c),(x.e.num:Int),x.n,()) (ak ?_);refine aG (NK (tb.aj (r.e.trans J) ai) (hat.aj J)) ?_;rintro _ h11 ⟨rfl,e11⟩;refine ⟨(Gc x,()),rfl,ak ?_⟩;have e811:=J.trans e11;have ns':NS O h11 d γ N gs gm n i h3.size s w pw bl xs p' (t.l+1) c' (ws++[(⟨none,0,0⟩,kY)]):=by
    obtain ⟨nf,m1⟩:=r.ms;obtain ⟨m,nm,m2,q1,q2⟩:=r.mm
    have:=e811.size
    have:=r.hi
    exact ⟨r.e.trans e811,⟨F,Q,C.ext e811,G⟩,λk=>by have:=r.sz k; omega,r.lo,ad,⟨nf,m1.aj e811 ai⟩,⟨m,nm,m2.aj e811 ai,q1,q2⟩,r.ord,r.l8,r.n8,r.xl,r.qz,r.en,r.eq⟩
   have b11:=L.aj e11 ai;have hpl:pw.length<=2^30:=by
    have:=as9 List.length r.eq
    rw [ae9,ab9] at this;omega
   cases K:Gc x with
   | true =>
    refine bU rfl ?_;have A:i<(d n).length:=by
     by_cases A:i<(d n).length
     ·exact A
     ·have h2:=(du9 (E.2.1 ad)).2;rw [h2] at K;cases K
    obtain ⟨_,W⟩:=E.1 A;subst W;exact XB (q:=D.p) (m:=D.l) (d:=D.c) pw10 hne M R ns' hn A hIn K b11 (hin.bf e811 ai) (ok n _ hn (ah9 A)) (γ1 i).2.2 (E.2.2 A) λh' w' X Y =>
     aC (cs:=kX) ((s.p,s.l,s.c),((i+1:Nat):Int),()) ((d n).length+1-(i+1)) rfl ad (as9 (λz=>[Value.slice s.p s.l s.c,Value.int .i64 z]) hwi) ⟨i+1,s,w',pw,bl,X,rfl,rfl,rfl,ad,Y⟩
   | false =>
    refine bX rfl ?_;refine X5 (q:=D.p) (m:=D.l) (d:=D.c) (x:=x) M R ns' P hIn hpl (λA=>by rw [(du9 (E.2.1 A)).2]; rfl) (γ1 i).2.2 ?_ b11 ?_ λh' Z w' pw' bl' X Y =>
     aC (cs:=kX) ((Z.p,Z.l,Z.c),((i+1:Nat):Int),()) ((d n).length+1-(i+1)) rfl ad (as9 (λz=>[Value.slice Z.p Z.l Z.c,Value.int .i64 z]) hwi) ⟨i+1,Z,w',pw',bl',X,rfl,rfl,rfl,ad,Y⟩
    ·by_cases A:i<(d n).length
     ·obtain ⟨_,W⟩:=E.1 A;rw [Q7 hn A,<- W,K] <;> rfl
     ·exact KQ ad
    ·by_cases A:i<(d n).length
     ·obtain ⟨_,W⟩:=E.1 A;rw [Js A,<- W,K,ag9 (show i+1<=(d n).length from ad),ag9 (show i+1<=(d n).length from ad)] <;> rfl
     ·have hie:i=(d n).length:=ad
      have h2:=(du9 (E.2.1 hie)).2;rw [h2,ag9 (show kY.kind=4 from rfl),ac9 ad,cb9,hie,KD]
  ·have hie:i=(d n).length+1:=ad
   have hx0:=r.en ad;have heq:=r.eq;rw [ac9 ad,cw9] at heq;obtain ⟨nf,m1⟩:=r.ms;obtain ⟨m,nm,m2,q1,q2⟩:=r.mm;rw [PH ad] at m1;subst hx0;have hpm:∃ mid,qF h8 O.size bl O.size mid s pw/\mid<=h8.size:=by
    obtain ⟨F,Q,C,G⟩:=r.mem
    have:=C.mt
    have:=r.sz i
    exact ⟨F,C.ps,ad⟩
   have hw:=gK n;exact aC (cs:=kX) ((s.p,s.l,s.c),((n+1:Nat):Int),()) (N-(n+1)) rfl ad (as9 (λz=>[Value.slice s.p s.l s.c,Value.int .i64 z]) hw) ⟨n+1,s,pw,bl,rfl,rfl,rfl,ad,r.e,hpm,r.lo,r.hi,⟨nf,m1⟩,⟨m,nm,m2,λq t U=>by
    by_cases hqe:q=s.l
    ·subst hqe; rw [q1]; rfl
    ·exact q2 q t ad⟩,λp hp=>by rcases r.ord p hp with O | ⟨O,_⟩ <;> omega,heq⟩
 ·have hnN:n=N:=ad
  subst hnN;rw [VU (am9 _),cb9] at U;rw [Tz] at ms;subst hgs;exact ⟨e3,s,pw,_,nf,rfl,ps.wk hi hmid,U,ms⟩
def ZL:Tryz.prog.underlying 24=some (.slice 30):=av
def YH:(Tryz.prog.info? 30).map (λi=>(i.zero,i.size,i.bytes))=some (some (.agg #[vI 0,vI 0,.slice none 0 0]),3,40):=av
structure MG (h:Hp) (b bl:Nat) (s:bC) (pw:List (Pl × bC)):Prop where
 sl:SL h b 30 3 s.p s.l s.c (pw.map T6)
 lits:∃ β:Nat->Nat,(∀ k,b<=β k/\β k<=bl/\β k<=β (k+1))/\∀ k,(hk:k<pw.length)->jM h 0 (β k) (β (k+1)) pw[k].2 pw[k].1.l
 Gd:kh b bl (pw.map (·.2))
def MG.vw {h:Hp} {b bl:Nat} {s:bC} {pw:List (Pl × bC)} (v:MG h b bl s pw) (c:pw.length<=2^40) (hl:∀ p,p∈pw.map (·.1)->p.l.length<=2^40):Xm h s.p s.l (pw.map (·.1)) :=
 ⟨by have:=v.sl.1; rw [ab9] at this; rw [ab9]; exact this,by rw [ab9]; exact c,λi hi=>by
  rw [ab9] at hi;obtain ⟨a,d,hc⟩:=SL.cells v.sl (i:=i) (by rw [ab9]; exact hi);obtain ⟨β,_,h2⟩:=v.lits;rw [aj9] at hc;rw [aj9];exact ⟨a,pw[i].2,d,hc,(h2 i hi).vw (hl _ (ay9 (ah9 hi)))⟩⟩
def MO {R:List Pl} (w:R.length<=2^30) (all:HC Xaz 22 #[ptr H] O λv h'=>Ext O h'/\∃ s pw g,v=.tuple #[bC.v s,.map g]/\qF h' O.size h'.size O.size h'.size s pw/\pw.map (·.1)=R) :
  HC Xaz 8 #[ptr H] O λv h'=>Ext O h'/\∃ s pw,v=bC.v s/\MG h' O.size h'.size s pw/\pw.map (·.1)=R:=by
 refine aX (args:=[ptr H]) mixed Tryz.func8 av (Al (some ⟨H,0,none⟩)) ?_;unfold xU aR aY bz aK cv bg bm aS fH;refine aG all ?_;rintro _ h1 ⟨x,s,pw,g,rfl,ps,f⟩;refine ⟨((s.p,s.l,s.c),g,()),rfl,ak ?_⟩;have A:s.l=pw.length:=by have:=ps.sl.1; rwa [ab9] at this
 have C:pw.length<=2^30:=by rw [<- f,ab9] at w; exact w
 have z1:=x.size;refine aM (cs:=kX) (λy k h'=>∃ (i:Nat) (t:bC),y.1=(t.p,t.l,t.c)/\y.2.1=(i:Int)/\k=pw.length-i/\i<=pw.length/\Ext h1 h'/\SL h' h1.size 30 3 t.p t.l t.c ((pw.take i).map T6)) ((none,0,0),(0:Int),()) pw.length rfl
  ⟨0,⟨none,0,0⟩,rfl,rfl,rfl,ad,Ch.refl _ _,SL.nil _ _ _ _⟩ ?_
 rintro ⟨⟨P,Q,S⟩,n8,⟨⟩⟩ k h2 ⟨i,t,ht,hi,rfl,D,e,sl⟩;simp only [Prod.mk.injEq] at ht hi;obtain ⟨rfl,rfl,rfl⟩:=ht;subst hi;refine ak ?_;have E:t.l=i:=by have:=sl.1; rw [ab9,au9] at this; omega
 refine aI ?_ ?_<;>intro g
 ·have m:i<pw.length:=ad
  obtain ⟨a,F,hc⟩:=SL.cells ps.sl (i:=i) (by rw [ab9]; exact m);rw [aj9] at hc;refine bM F ?_;rw [cg i];refine ar ((pw[i].1.u:Int),(pw[i].1.i:Int),(pw[i].2.p,pw[i].2.l,pw[i].2.c),()) (aP e ai _ _ hc) (ak ?_);refine bn ?_;intro U G I z3;refine bJ G ?_;intro h4 n J z4;have n:br h4 h2.size 84 (T6 pw[i]):=n;have d:Ext h2 h4:=bS I J;refine ay n ((pw[i].1.u:Int),(pw[i].1.i:Int),(pw[i].2.p,pw[i].2.l,pw[i].2.c),()) (ak ?_);have z2:=e.size;have z24:=d.size;refine eZ (b:=h1.size) (vs:=T6 pw[i]) ZL YH rfl ad ad (SJ pw[i].1.u pw[i].1.i pw[i].2.p pw[i].2.l pw[i].2.c) rfl rfl (sl.aj d ai) ad ad ad ?_;intro p' c' h5 K L _;have o:Ext h1 h5:=Ch.trans (e.trans d) L (λj q hl=>by have:=(sl.cj q).1; omega);have hw:=gK i;refine aC (cs:=kX) ((p',t.l+1,c'),((i+1:Nat):Int),()) (pw.length-(i+1)) rfl ad (as9 (λz=>[Value.slice p' (t.l+1) c',Value.int .i64 z]) hw) ⟨i+1,⟨p',t.l+1,c'⟩,rfl,rfl,rfl,ad,o,?_⟩;rw [af9 m,ao9];exact K
 ·have r:i=pw.length:=ad
  subst r;rw [bj9] at sl;have z2:=e.size;obtain ⟨β,M,N⟩:=ps.lits;exact ⟨x.trans e,t,pw,rfl,⟨sl.mono z1,⟨β,λk=>by have:=M k; omega,λk hk=>(N k hk).Qc e (rK.nil _ _) λj q=>(ps.bd (ah9 hk) q).2⟩,ps.Gd.wk (am9 _) z2⟩,f⟩
def Ur (h:H<=2^60):(Lib.decDigits H).length<=20:=by
 rw [Lib.decDigits_length]
 by_cases h0:H=0
 ·subst h0; rw [Lib.nDigits_small ad]; omega
 ·have:=Lib.numDigits_eq H ad ad
  split at this <;> omega
def DA {c:UInt8} (hc:c=76\/c=69) (h:H<=2^60):cD (c::Lib.decDigits H)=true:=by
 have hl:=Ur h;have hd:=(Df H).1;have e:dJ c=true:=by rcases hc with rfl | rfl <;> decide
 unfold cD;have h1:decide (0<(c::Lib.decDigits H).length)=true:=ai
 have h2:decide ((c::Lib.decDigits H).length<=32)=true:=by simp; omega
 have g:((c::Lib.decDigits H).all λc=>dJ c || dM c)=true:=by
  rw [fl9,e,Bool.true_or,bl9,bn9];intro x i;rw [hd x i,Bool.or_true]
 have j:(rW (c::Lib.decDigits H)).2.2=false:=by
  by_cases d:(c::Lib.decDigits H).length=2
  ·obtain ⟨a,b,f⟩:∃ a b,c::Lib.decDigits H=[a,b]:=by
    match h:Lib.decDigits H with
    | []=>rw [h] at d; simp at d
    | [b]=>exact ⟨c,b,rfl⟩
    | _::_::_=>rw [h] at d; simp at d
   rw [f];have k:a=c:=by injection f with h _; exact h.symm
   subst k;show (rW [a,b]).2.2=false;unfold rW;have l:¬ cN a=114:=by rcases hc with rfl | rfl <;> decide
   have m:¬ cN a=122:=by rcases hc with rfl | rfl <;> decide
   simp [l,m]
  ·rw [Bz d]
 rw [h1,h2,g,j];show (true && true && dJ c && true && !false)=true;rw [e] <;> rfl
def JC {w:LW} (b:RO w) (k:Ky):cD (w.word k).data.toList=true:=by
 unfold LW.word;cases h:w.num k with
 | some n =>
  have:=b.n _ _ h
  show cD ((⟨#[76]⟩:Xaa)++mj n).data.toList=true;rw [oZ,ep];exact DA (.inl rfl) ad
 | none =>
  have h1:(w.tA k).getD 0<=2^60:=by
   cases h2:w.tA k with
   | none=>simp
   | some i=>have:=b.e _ _ h2; simp; omega
  show cD ((⟨#[69]⟩:Xaa)++mj ((w.tA k).getD 0)).data.toList=true;rw [oZ,ep];exact DA (.inr rfl) h1
section
variable {us:List cm} {w:LW}
variable {H:Nat} {O:bK}
def Rc (A:pH us w) (hn:H<us.length) (a:w.bad H O=none):∀ t,t∈(w.lin H O).af->∃ k,Wx us k/\t.1=w.word k:=by
 intro t ht;obtain ⟨p,k,d,hk,b⟩:=EL a t ht;rw [A.own hn] at hk;obtain ⟨o,c,rfl⟩:=ev9.1 hk;exact ⟨_,FR A.right c,b⟩
def RG (A:pH us w) (h:fX w 0 us=none) (hc:mR (oO w us)=none) (hn:H<us.length) (a:w.bad H O=none):∀ t,t∈(oM (jF (oO w us)) (w.lin H O)).af->∃ k,Wx us k/\t.1=w.word k:=by
 intro t ht;have b:((oO w us).map (·.1)).Nodup:=by rw [Jb]; exact (A.two h).XC
 rcases qC ht with ⟨p,i,c,_⟩ | ⟨p,y,v,i,ho,hv,c⟩
 ·obtain ⟨k,hk,e⟩:=Rc A hn a p i;exact ⟨k,hk,by rw [<- c,e]⟩
 ·rw [sW b] at ho
  by_cases f:cE (fl (oO w us)) p.1=true
  ·rw [ag9 f] at ho;have ho:=bb9 ho;subst ho;obtain ⟨_,s,u,m,j,e⟩:=uh (own:=cE (fl (oO w us))) (lin:=dC (fl (oO w us))) (names:=Sx.aU (fl (oO w us))) (λs=>dY _ s) (Kd hc) ((dY _ _).1 f) v hv;obtain ⟨d,o,_,r⟩:=lj m;rw [r] at j;obtain ⟨y,z,rfl⟩:=ap9.1 o;obtain ⟨q,l,rfl⟩:=ap9.1 (show y∈(eK 0 us).map (λq=>(w.word (jN q),w.lin q.1 q.2.2)) from z);obtain ⟨C,g,_⟩:=Az l;obtain ⟨k,hk,B⟩:=Rc A (bc9.1 g).1 (AI h l) u j;exact ⟨k,hk,by rw [<- c,<- e,B]⟩
  ·rw [ac9 f] at ho; cases ho
def UR (A:pH us w) (r:F0 us) (c:fX w 0 us=none) (hc:mR (oO w us)=none) (hn:H<us.length) (a:w.bad H O=none):(oM (jF (oO w us)) (w.lin H O)).af.length<=2^20:=by
 have b:Nf (oM (jF (oO w us)) (w.lin H O)).af:=eQ _ _;have h1:((oM (jF (oO w us)) (w.lin H O)).af.map (·.1)).Nodup:=cs9.2 (b.1.imp λh=>ko h);have h2:=kJ _ (((cr 0 us).map AE++(eK 0 us).map jN).map w.word) h1 (λs d=>by
  obtain ⟨t,ht,rfl⟩:=ap9.1 d;obtain ⟨k,hk,e⟩:=RG A c hc hn a t ht;rw [e];refine ay9 (ar9.2 ?_);exact hk)
 have h3:=r.eM;have h4:=r.eqs;rw [ab9,ab9,ae9,ab9,ab9] at h2;omega
end
def Xd {us:List cm} {P:LP} (s:F7 us (.ok P)) (sm:IJ us) {h0:Hp} {usl lb:bC} {S:Nat->lM} (b:One h0 O us P H usl lb S) {hv:Hp} (v:xZ hv Z Y us) (hn:a<us.length) :
  ∀ x,x∈(As us[a] 0).map (P.fG a)->Ce x:=by
 intro x q;obtain ⟨_,i,u,z,A,j,hc,_⟩:=s;have r:F0 us:=⟨A.right,i⟩
 have ok:=b.ok v hn (show 0<2 from ad) x q;obtain ⟨y,C,rfl⟩:=ap9.1 q;have f:y∈us[a].text:=C;have hbn:=kz us 0 j a hn;rw [by9] at hbn;have hbx:=(yy hbn).1 y f;have e:(P.fG a y).e=oM (jF (oO P.w us)) (P.w.lin a y.e):=by rw [<- z]; rfl
 have hky:=RG A j hc hn hbx;have hln:=UR A r j hc hn hbx;have lw:=r.Lf A.wi;have d:Nf (oM (jF (oO P.w us)) (P.w.lin a y.e)).af:=eQ _ _;have m:us[a]∈us:=ah9 hn;have o:y.e∈cR us[a]:=by
  unfold cR;simp only [List.mem_append,List.mem_map];exact .inl (.inl ⟨y,f,rfl⟩)
 have c:(oM (jF (oO P.w us)) (P.w.lin a y.e)).num<4294967296:=jB (jB (sm.num _ m _ o).1);rw [<- e] at hky hln d c;have g:∀ t,t∈(P.fG a y).e.af->cD t.1.data.toList=true:=λt ht=>by
  obtain ⟨k,_,D⟩:=hky t ht;rw [D];exact JC lw k
 exact ⟨⟨ad,ok.2.2.2⟩,⟨d,g,c⟩,ad,λt ht=>⟨BV (g t ht),(d.2 t ht).2⟩,c,ok.1,ok.2.1⟩
end Go.Sx.Po
namespace Go.Sx.Lk
open Go.Proofs Go.Sx.Ob
section
variable {h0 h h':Hp} {us:List cm} {su:bC} {P:LP} {B:Nat} {usl lb:bC} {S:Nat->lM} {g b':Nat} {lb2 st sd:bC} {tw dw:List (bC × List (bC × cB))}
def C8.aaQ (b:C8 h0 h us su P B usl lb S g b' lb2 st sd tw dw) {hv:Hp} {p:Xac} {l:Nat} (v:xZ hv p l us) {n:Nat} (hn:n<us.length) :
  ∃ (a:Xax) (t:bC),st.p=some a/\aH h (a.add (n*1)) 0 [t.v]/\Ge h t.p t.l ((As us[n] 0).map (P.fG n)):=by
 have tr:=b.tx;have d:=b.ti;have e:n<tw.length:=by rw [d.1]; exact hn
 obtain ⟨a,f,hc⟩:=SL.cells tr.sl (i:=n) (by rw [ab9]; exact e);rw [aj9] at hc;have hin:=tr.fF _ (ah9 e);have hd:=d.2 n us[n] tw[n] (ad9 hn) (ad9 e);have hd:tw[n].2.map (·.2)=(As us[n] 0).map (P.fG n):=hd;refine ⟨a,tw[n].1,f,hc,?_⟩;have o:C2 h b' tw[n].1 tw[n].2:=⟨hin.sl,hin.own⟩
 have hm:=b.one.many hn (show 0<2 from ad);have c:tw[n].2.length<=2^60:=by
  have:=as9 List.length hd
  rw [ab9,ab9] at this;omega
 have:=o.vw c (by rw [hd]; exact b.one.ok v hn (show 0<2 from ad))
 rwa [hd] at this
end
end Go.Sx.Lk
namespace Go.Sx.Po
open Go.Proofs Go.Sx.Ob Go.Sx.Lk
def V0 (h:Hp):Prop:=∀ h',Ext h h'->HC Xaz 10 #[] h' λv h''=>v=.bool true/\Ext h' h''
variable {H:Hp}
def J5 {L:Lp} {h1:Hp} (b:V0 H) (a:Ext H h1):(T.call Xaz 10 [] false [(false,[.bool])] λ(c:Bool)=>T.ret (.bool c)) L (λw h'=>w=.bool true/\Ext H h') h1:=by
 refine aG (b h1 a) ?_;rintro _ h2 ⟨rfl,d⟩;exact ⟨(true,()),rfl,rfl,a.trans d⟩
theorem FA (u:Nat):∀ (its:List cB) (i:Nat) (l:List bK),(xp u i its l).length<=its.length+1/\∀ p,p∈xp u i its l->p.l.length<=l.length+its.length
 | [],i,l=>by
  unfold xp shut;split
  ·simp
  ·simp
 | x::its,i,l=>by
  unfold xp;split
  ·obtain ⟨h1,h2⟩:=FA u its (i+1) [];have h3:=SK u i l;refine ⟨by simp; omega,λp a=>?_⟩;rcases ar9.1 a with a | a
   ·unfold shut at a;split at a
    ·exact absurd a ai
    ·rw [an9.1 a];show l.length<=_;omega
   ·have:=h2 p a
    simp at this ⊢;omega
  ·obtain ⟨h1,h2⟩:=FA u its (i+1) (if Gc x then lL l x.e else l);have h3:(if Gc x then lL l x.e else l).length<=l.length+1:=by
    split
    ·unfold lL;split
     ·simp
     ·omega
    ·omega
   refine ⟨by simp; omega,λp a=>?_⟩
   have:=h2 p a
   simp at this ⊢;omega
def Yc {I:Nat->List cB} {N m:Nat} (h:∀ n,n<N->(I n).length<=m):(C3 I N).length<=N*(m+1)/\∀ p,p∈C3 I N->p.l.length<=m:=by
 constructor
 ·unfold C3;rw [et9]
  have:∀ l:List Nat,(∀ n,n∈l->n<N)->(l.map λu=>(xp u 0 (I u) []).length).sum<=l.length*(m+1):=by
   intro l
   induction l with
   | nil=>intro _; simp
   | cons n l b =>
    intro hl;have h1:=b λk hk=>hl k (aq9 _ hk)
    have h2:=(FA n (I n) 0 []).1;have h3:=h n (hl n ai);rw [bq9,cu9,cn9,Nat.succ_mul];omega
  have:=this (List.range N) (λn hn=>ef9.1 hn)
  rwa [dx9] at this
 ·intro p a;obtain ⟨n,hn,a⟩:=ff9.1 a;have h1:=(FA n (I n) 0 []).2 p a;have h2:=h n (ef9.1 hn);simp at h1;omega
def IU (us:List cm) (P:LP) (n:Nat):List cB:=if hn:n<us.length then (As us[n] 0).map (P.fG n) else []
structure N5 (h:Hp) (us:List cm) (P:LP) (B:Nat):Prop where
 un:∀ h',Ext h h'->ug Xaz 39 [ptr (B+3)] h' (vI (us.length:Int))
 its:∀ h',Ext h h'->∀ n:Nat,n<us.length->HC Xaz 40 #[ptr (B+3),vI (n:Int),vI 0] h' λv h''=>Ext h' h''/\∃ t ws,v=bC.v t/\C2 h'' h'.size t ws/\ws.map (·.2)=IU us P n/\kh h'.size h''.size (ws.map (·.1))
 ok:∀ n x,n<us.length->x∈IU us P n->Ce x
 len:∀ n,n<us.length->(IU us P n).length<=8192
 many:us.length<=64
section
variable {h0 h h':Hp} {us:List cm} {su:bC} {P:LP} {B:Nat} {usl lb:bC} {S:Nat->lM} {g b':Nat} {lb2 st sd:bC} {tw dw:List (bC × List (bC × cB))}
variable {H:Xac}
def _root_.Go.Sx.Lk.C8.prg (b:C8 h0 h us su P B usl lb S g b' lb2 st sd tw dw) (d:F7 us (.ok P)) (sm:IJ us) {hv:Hp} {l:Nat} (v:xZ hv H l us):N5 h us P B:=by
 have ag':=d;obtain ⟨_,a,_,_,A,_,_,_⟩:=ag';have r:F0 us:=⟨A.right,a⟩
 refine ⟨λh' e=>O4 (b.one.ext e).pg,λh' e n hn=>?_,λn x hn c=>?_,λn hn=>?_,a⟩
 ·refine HC.mono ((b.one.ext e).out ad v hn (show 0<2 from ad)) λw h'' f=>?_
  obtain ⟨i,t,ws,j,o,k,m,Gd⟩:=f;exact ⟨i,t,ws,j,o,by unfold IU; rw [dif_pos hn]; exact k,Gd⟩
 ·unfold IU at c;rw [dif_pos hn] at c;exact Xd d sm b.one v hn x c
 ·unfold IU;rw [dif_pos hn,ab9]
  have:=(r.bi (ah9 hn)).2
  show us[n].text.length<=_;omega
def _root_.Go.Sx.Lk.C8.Y7 (b:C8 h0 h us su P B usl lb S g b' lb2 st sd tw dw) {hv:Hp} {l:Nat} (v:xZ hv H l us):Gz h st us.length (IU us P):=by
 refine ⟨?_,λn hn=>?_⟩
 ·have:=b.tx.sl.1
  rw [ab9,b.ti.1] at this;exact this
 ·obtain ⟨a,t,c,hc,hv⟩:=b.aaQ v hn;refine ⟨a,t,c,hc,?_⟩;unfold IU;rw [dif_pos hn];exact hv
def N5.aj (p:N5 h us P B) (e:Ext h h'):N5 h' us P B:=⟨λh2 a=>p.un h2 (e.trans a),λh2 a=>p.its h2 (e.trans a),p.ok,p.len,p.many⟩
def N5.sz (p:N5 h us P B):(C3 (IU us P) us.length).length<=2^30/\∀ q,q∈C3 (IU us P) us.length->q.l.length<=8192:=by
 obtain ⟨h1,h2⟩:=Yc (I:=IU us P) (N:=us.length) p.len
 have:=p.many
 have a:us.length*(8192+1)<=64*(8192+1):=cz9 _ this;exact ⟨ad,h2⟩
def N5.all (p:N5 h us P B) (pw:eU h) (a:zY h):HC Xaz 22 #[ptr (B+3)] h λv h'=>Ext h h'/\∃ s pw gs nf,v=.tuple #[bC.v s,.map (some gs)]/\qF h' h.size h'.size h.size h'.size s pw/\pw.map (·.1)=C3 (IU us P) us.length/\jA FZ Zt h' gs (IG (IU us P) us.length) nf :=
 Fs pw a (by have:=p.many; omega) p.un p.its (λn hn=>by have:=p.len n hn; omega) p.sz.1 p.ok
def N5.Vy (p:N5 h us P B) (pw:eU h) (b:zY h):HC Xaz 8 #[ptr (B+3)] h λv h'=>Ext h h'/\∃ s pw,v=bC.v s/\MG h' h.size h'.size s pw/\pw.map (·.1)=C3 (IU us P) us.length :=
 MO p.sz.1 (HC.mono (p.all pw b) λv h' c=>by
  obtain ⟨e,s,pw,gs,nf,hv,ps,a,_⟩:=c;exact ⟨e,s,pw,_,hv,ps,a⟩)
end
def N5.same {us:List cm} {P:LP} (i:∀ q,q∈C3 (IU us P) us.length->q.l.length<=8192) (k:(C3 (IU us P) us.length).length<=2^30) {h1 h2 a:Hp} {s t:bC} {c d:Nat} {pw j:List (Pl × bC)} {b bl m e:Nat} (v:MG h1 b bl s pw) (hv:pw.map (·.1)=C3 (IU us P) us.length) (n:Ext h1 a)
  (w:nX H h2 m e t j) (f:j.map (·.1)=C3 (IU us P) us.length) (e0:Ext H h2) (o:Ext h2 a):HC Xaz 13 #[.slice s.p s.l s.c,.slice t.p t.l t.c] a λz h'=>z=.bool true/\Ext a h':=by
 have l1:=as9 List.length hv;have l2:=as9 List.length f;rw [ab9] at l1 l2;have v1:=(v.vw ad (λq g=>by have:=i q (by rw [<- hv]; exact g); omega)).aj n;have w1:=(w.vw e0 ad (λq g=>by have:=i q (by rw [<- f]; exact g); omega)).aj o;rw [hv] at v1;rw [f] at w1;exact No v1 w1
def Gz.aj {h h':Hp} {st:bC} {N:Nat} {I:Nat->List cB} (b:Gz h st N I) (e:Ext h h'):Gz h' st N I:=⟨b.1,λn hn=>by
  obtain ⟨a,t,c,hc,hv⟩:=b.2 n hn;exact ⟨a,t,c,aP e ai _ _ hc,hv.aj e⟩⟩
end Go.Sx.Po
/- The book of memory over terms (Keep): as BookA,BookB over tokens. Condition: as each statement says. -/
namespace Go.Sx.TB
open Go.Proofs Go.Sx.Ob Go.Sx.Lk
variable {H:Hp} {U:Xac} {O V Y:Nat}
def Rv {p0:Xac} {l0 c0:Nat} {ts:dr} (g:ts.length<=2^48) (s0:iA H p0 l0 ts) (i:iA H U O ts) :
  ug Xaz 27 [.slice p0 l0 c0,.slice U O V] H (.bool true):=by
 refine eW mixed Tryz.func27 av (jz p0 l0 c0 U O V) ?_;unfold fL aR aY bz aK ja aE cC fR aS cH;have e0:=s0.len;have e1:=i.len;refine bX (by rw [e0,e1]; simp) ?_;refine aM (cs:=iv) (λx n h'=>h'=H/\∃ k:Nat,x.2.1=(k:Int)/\k<=ts.length/\n=ts.length-k) (false,(0:Int),()) ts.length rfl ⟨rfl,0,rfl,ad,ad⟩ ?_;rintro ⟨j,p,⟨⟩⟩ m h' ⟨rfl,k,hk,l,rfl⟩;simp only at hk;subst hk;refine ak ?_;refine ao (λe=>?_) (λe=>⟨rfl,rfl⟩);have e:(k:Int)<(l0:Int):=ai9 e;have c:k<ts.length:=ad
 obtain ⟨a,rfl,hc⟩:=s0.cells k c;obtain ⟨a',rfl,d⟩:=i.cells k c;generalize ts[k]=t at hc d;have f:Int.toNat (k:Int)=k:=ad
 rw [f];refine eS (aF rfl (ar (t.1,(t.2:Int),()) hc ?_));refine eS (aF rfl (ar (t.1,(t.2:Int),()) d ?_));refine pL (b:=false) (λq hk=>FM _ _ _ _ _ _ _ _ (by rw [bytes_beq]; simpa using hk)) ?_;refine bX rfl ?_;have o:IntKind.wrap .i64 ((k:Int)+1)=(k:Int)+1:=wrap_i64 ad ad;exact aC (cs:=iv) (j,(k:Int)+1,()) (ts.length-(k+1)) rfl ad (as9 (λz=>[Value.bool j,vI z]) o) ⟨rfl,k+1,(show ((k:Int)+1)=((k+1:Nat):Int) from ad),ad,rfl⟩
def Dl {b':Nat} {e c:TypeId} {p0:Xac} {l0 c0:Nat} {ts:dr} (a:ts.length<=2^48) (s0:SL H O e 2 p0 l0 c0 (ts.map cT)) (d:SL H b' c 2 U V Y (ts.map cT)) :
  ug Xaz 27 [.slice p0 l0 c0,.slice U V Y] H (.bool true):=Rv a s0.Mp d.Mp
structure oX where
 p:Xac
 l:Nat
 c:Nat
 q:Xac
 d:Nat
 ts:dr
def oX.one (e:oX):List Xab:=[.slice e.p e.l e.c]
def oX.two (e:oX):List Xab:=[.slice e.q e.l e.d]
def oX.uJ (e:oX):List Nat:=ax e.p++ax e.q
structure o7 (h:Hp) (gb b:Nat) (pl:Xac) (cl:Nat) (pw:Xac) (cw:Nat) (es:List oX):Prop where
 box:∃ held:Int,br h gb 61 [.slice pl es.length cl,.slice pw es.length cw,vI held,.bool false]
 ge:b<=gb
 one:SL h b 50 1 pl es.length cl (es.map oX.one)
 two:SL h b 50 1 pw es.length cw (es.map oX.two)
 FH:∀ e,e∈es->SL h b 64 2 e.p e.l e.c (e.ts.map cT)/\SL h b 64 2 e.q e.l e.d (e.ts.map cT)/\e.ts.length<=2^40
 Pa:gb∉ax pl
 T1:gb∉ax pw
 Ys:∀ i,i∈ax pl->i∉ax pw
 eg:∀ e,e∈es->∀ i,i∈e.uJ->i≠gb/\i∉ax pl/\i∉ax pw
 pq:∀ e,e∈es->∀ i,i∈ax e.p->i∉ax e.q
 ee:es.Pairwise λe f=>∀ i,i∈e.uJ->i∉f.uJ
def o7.lt {h:Hp} {gb b:Nat} {pl:Xac} {cl:Nat} {pw:Xac} {cw:Nat} {es:List oX} (B:o7 h gb b pl cl pw cw es):gb<h.size/\(∀ i,i∈ax pl->i<h.size)/\(∀ i,i∈ax pw->i<h.size)/\∀ e,e∈es->∀ i,i∈e.uJ->i<h.size:=by
 obtain ⟨held,c⟩:=B.box;refine ⟨c.lt,λi hi=>(B.one.cj hi).2,λi hi=>(B.two.cj hi).2,λe a i hi=>?_⟩;rcases ar9.1 hi with hi | hi
 ·exact ((B.FH e a).1.cj hi).2
 ·exact ((B.FH e a).2.1.cj hi).2
def o7.aj {ws:List Nat} {h h':Hp} {gb b:Nat} {pl:Xac} {cl:Nat} {pw:Xac} {cw:Nat} {es:List oX} (B:o7 h gb b pl cl pw cw es) (k:Ch ws h h')
  (h1:gb∉ws) (h2:∀ i,i∈ax pl->i∉ws) (d:∀ i,i∈ax pw->i∉ws) (c:∀ e,e∈es->∀ i,i∈e.uJ->i∉ws):o7 h' gb b pl cl pw cw es:=by
 obtain ⟨held,f⟩:=B.box;exact ⟨⟨held,f.aj k h1⟩,B.ge,B.one.bf k h2,B.two.bf k d,λe a=>⟨(B.FH e a).1.bf k λi hi=>c e a i (be9 _ hi),(B.FH e a).2.1.bf k λi hi=>c e a i (bi9 _ hi),(B.FH e a).2.2⟩,
  B.Pa,B.T1,B.Ys,B.eg,B.pq,B.ee⟩
def o7.KR {h':Hp} {gb:Nat} {pl : Xac} {cl : Nat} {pw : Xac} {cw : Nat} {es : List oX} (B : o7 H gb O pl cl pw cw es) (k : Ch [gb] H h') {held : Int}
    (c : br h' gb 61 [.slice pl es.length cl, .slice pw es.length cw, vI held, .bool false]) : o7 h' gb O pl cl pw cw es :=
  ⟨⟨held, c⟩, B.ge, B.one.bf k λi hi => by simp; exact λe => B.Pa (e ▸ hi), B.two.bf k λi hi => by simp; exact λe => B.T1 (e ▸ hi),
    λe a => ⟨(B.FH e a).1.bf k λi hi => by simp; exact (B.eg e a i (be9 _ hi)).1, (B.FH e a).2.1.bf k λi hi => by simp; exact (B.eg e a i (bi9 _ hi)).1, (B.FH e a).2.2⟩,
    B.Pa, B.T1, B.Ys, B.eg, B.pq, B.ee⟩
def eX (p:Xac) (k:Nat):ax (p.map λa=>a.add k)=ax p:=by
 cases p with
 | none=>rfl
 | some a=>simp [ax,fw]
def o7.tail {h':Hp} {gb:Nat} {pl:Xac} {cl:Nat} {pw:Xac} {cw:Nat} {es:List oX} (B:o7 H gb O pl cl pw cw es) (k:Ch [gb] H h') (h1:1<=es.length) {held:Int}
  (f:br h' gb 61 [.slice (pl.map λa=>a.add 1) (es.length-1) (cl-1),.slice (pw.map λa=>a.add 1) (es.length-1) (cw-1),vI held,.bool false]) :
  o7 h' gb O (pl.map λa=>a.add 1) (cl-1) (pw.map λa=>a.add 1) (cw-1) (es.drop 1):=by
 have hl:(es.drop 1).length=es.length-1:=by rw [bs9]
 have d:∀ e,e∈es.drop 1->e∈es:=λe c=>fp9 c
 have o1:=(B.one.drop (k:=1) h1).bf k (λi hi=>by rw [eX] at hi; simp; exact λe=>B.Pa (e▸hi));have o2:=(B.two.drop (k:=1) h1).bf k (λi hi=>by rw [eX] at hi; simp; exact λe=>B.T1 (e▸hi));rw [<- List.map_drop] at o1 o2;refine ⟨⟨held,by rw [hl]; exact f⟩,B.ge,by rw [hl]; exact o1,by rw [hl]; exact o2,
  λe c=>⟨(B.FH e (d e c)).1.bf k λi hi=>by simp; exact (B.eg e (d e c) i (be9 _ hi)).1,(B.FH e (d e c)).2.1.bf k λi hi=>by simp; exact (B.eg e (d e c) i (bi9 _ hi)).1,(B.FH e (d e c)).2.2⟩,
  by rw [eX]; exact B.Pa,by rw [eX]; exact B.T1,by rw [eX,eX]; exact B.Ys,?_,λe c=>B.pq e (d e c),B.ee.sublist (List.drop_sublist 1 es)⟩
 intro e c i hi;rw [eX,eX];exact B.eg e (d e c) i hi
def vG (h:Hp) (gb b:Nat) (pl pw:Xac) (es:List oX) (p:Xac) (h':Hp) (a:List oX):Prop :=
 ∃ pl' d c g,o7 h' gb b pl' d c g a/\Ch (gb::(ax pl++ax pw)) h h'/\(∀ i,i∈ax pl'->i∈ax pl\/h.size<=i)/\(∀ i,i∈ax c->i∈ax pw\/h.size<=i) /\
  ∀ e,e∈a->∀ i,i∈e.uJ->i∈ax p\/h.size<=i\/∃ f,f∈es/\i∈f.uJ
def MJ {h1 h2:Hp} {gb:Nat} {l:List Nat} (a:Ch (gb::l) H h1) (c:Ch [gb] h1 h2):Ch (gb::l) H h2:=a.trans c (λi hi _=>by simp at hi; simp [hi])
def U0 {gb:Nat} {pl:Xac} {cl:Nat} {pw:Xac} {cw:Nat} {es:List oX} (B:o7 H gb O pl cl pw cw es) (hlen:es.length<=4000) {ts:dr}
  (s:SL H O 64 2 U V Y (ts.map cT)) (hts:ts.length<=2^40) (k:∀ i,i∈ax U->i≠gb/\i∉ax pl/\i∉ax pw/\∀ e,e∈es->i∉e.uJ) (hbs:O<=H.size) :
  HC Xaz 17 #[.pointer (some ⟨gb,0,none⟩),.slice U V Y] H λv h'=>v=.tuple #[]/\∃ es',es'.length<=4000/\vG H gb O pl pw es U h' es':=by
 refine aX (args:=[.pointer (some ⟨gb,0,none⟩),.slice U V Y]) mixed Tryz.func17 av (gS (some ⟨gb,0,none⟩) U V Y) ?_;unfold eH bj bg bY jc bR bm;have hll:V=ts.length:=by rw [s.1,ab9]
 have hsz:=B.lt;obtain ⟨G,A⟩:=B.box;refine fO (cs:=[]) (λ_ h2=>∃ N F h1,SL h1 O 50 1 N (es.length+1) F (es.map oX.one++[[.slice U V Y]])/\Ch (ax pl) H h1/\(N=pl\/∃ a,N=some a/\H.size<=a.block)/\Ch [gb] h1 h2 /\
  br h2 gb 61 [.slice N (es.length+1) F,.slice pw es.length cw,vI G,.bool false]) ?_ ?_
 ·refine aF rfl (aZ A ((pl,es.length,cl),()) rfl (ak ?_));refine eZ (e:=50) (z:=.slice none 0 0) (sz:=1) (by':=24) (vs:=[.slice U V Y]) av av rfl ad ad av rfl rfl B.one hbs ad ad ?_;intro N F h1 o1 k1 R;have hb1:=A.aj k1 B.Pa;refine aF rfl (cG hb1 rfl ai ?_);intro h2 I P z2;exact dE (cs:=[]) () rfl rfl ⟨N,F,h1,o1,k1,R,P,I⟩
 rintro ⟨⟩ h2 ⟨N,F,h1,o1,k1,R,P,I⟩;refine fO (cs:=[]) (λ_ h'=>∃ es',es'.length<=4001/\vG H gb O pl pw es U h' es') ?_ ?_
 ·refine aF rfl ?_;rw [aw];refine ay I ((pw,es.length,cw),()) (ak ?_);have s2:SL h2 O 64 2 U V Y (ts.map cT):=(s.bf k1 λi hi=>(k i hi).2.1).bf P λi hi=>by simp; exact (k i hi).1
  have hpl:(ts.map cT).flatten.all df=true:=by
   rw [bn9];intro v hv;obtain ⟨x,hx,hv⟩:=fx9.1 hv;obtain ⟨t,_,rfl⟩:=ap9.1 hx;simp only [cT,List.mem_cons,List.not_mem_nil,or_false] at hv;rcases hv with rfl | rfl <;> rfl
  have g1:=k1.size;have g2:=P.size;refine Vm (e:=64) (z:=.agg #[.string ⟨#[]⟩,.int .u32 0]) (sz:=2) (by':=24) (b':=O) av av rfl s2 hpl ad ad ad ?_;intro q d h3 sq k3 hq;have hb3:=I.aj k3 ai;refine ⟨⟨hb3.cells _ rfl,trivial⟩,?_⟩;have g3:=k3.size;have w3:SL h3 O 50 1 pw es.length cw (es.map oX.two):=((B.two.bf k1 λi hi g=>B.Ys i g hi).bf P λi hi=>by simp; exact λe=>B.T1 (e▸hi)).bf k3 ai;refine gz (e:=50) (z:=.slice none 0 0) (sz:=1) (by':=24) (vs:=[.slice q V d]) av av rfl ad ad av rfl rfl w3 ad ad ad (λh' e=>⟨(hb3.aj e ai).cells _ rfl,trivial⟩) ?_;intro p2 Z h4 o2 k4 hp2;have hb4:=hb3.aj k4 B.T1;refine aF rfl ?_;rw [aw];refine bJ hb4 ?_;intro h5 C W z5;have C:br h5 gb 61 [.slice N (es.length+1) F,.slice p2 (es.length+1) Z,vI G,.bool false]:=C;refine dE (cs:=[]) () rfl rfl ⟨es++[⟨U,V,Y,q,d,ts⟩],by simp; omega,N,F,p2,Z,?_,?_,?_,?_,?_⟩
  ·
   have J:∀ i,i∈ax N->i∈ax pl\/H.size<=i:=by
    intro i hi;rcases R with rfl | ⟨a,rfl,ha⟩
    ·exact .inl hi
    ·simp [ax] at hi; right; omega
   have M:∀ i,i∈ax p2->i∈ax pw\/h3.size<=i:=by
    intro i hi;rcases hp2 with rfl | ⟨a,rfl,ha⟩
    ·exact .inl hi
    ·simp [ax] at hi; right; omega
   have bq:∀ i,i∈ax q->h2.size<=i/\i<h3.size:=by
    intro i hi;refine ⟨?_,(sq.cj hi).2⟩;rcases hq with rfl | ⟨a,rfl,ha⟩
    ·simp [ax] at hi
    ·simp [ax] at hi; omega
   have lp1:∀ i,i∈ax N->i<h1.size:=λi hi=>(o1.cj hi).2
   have lp:∀ i,i∈ax U->i<H.size:=λi hi=>(s.cj hi).2
   have o1':SL h5 O 50 1 N (es.length+1) F (es.map oX.one++[[.slice U V Y]]):=by
    refine (((o1.bf P λi hi=>?_).bf k3 ai).bf k4 λi hi g=>?_).bf W λi hi=>?_
    ·simp; intro e; subst e
     rcases J i hi with g | g
     ·exact B.Pa g
     ·have:=hsz.1; omega
    ·rcases J i hi with h' | h'
     ·exact B.Ys i h' g
     ·have:=hsz.2.2.1 i g; omega
    ·simp; intro e; subst e
     rcases J i hi with g | g
     ·exact B.Pa g
     ·have:=hsz.1; omega
   have o2':SL h5 O 50 1 p2 (es.length+1) Z (es.map oX.two++[[.slice q V d]]):=o2.bf W λi hi=>by
    simp; intro e; subst e
    rcases M i hi with g | g
    ·exact B.T1 g
    ·have:=hsz.1; omega
   have Q:∀ {e':TypeId} {sz:Nat} {p':Xac} {l' c':Nat} {xs:List (List Xab)},SL H O e' sz p' l' c' xs->(∀ i,i∈ax p'->i≠gb/\i∉ax pl/\i∉ax pw)->SL h5 O e' sz p' l' c' xs:=by
    intro e' sz p' l' c' xs s' hd;exact ((((s'.bf k1 λi hi=>(hd i hi).2.1).bf P λi hi=>by simp; exact (hd i hi).1).bf k3 ai).bf k4 λi hi=>(hd i hi).2.2).bf W λi hi=>by simp; exact (hd i hi).1
   have hsq:SL h5 O 64 2 q V d (ts.map cT):=(sq.bf k4 λi hi g=>by have:=(bq i hi).1; have:=hsz.2.2.1 i g; omega).bf W λi hi=>by
    simp; intro e; subst e; have:=(bq i hi).1; have:=hsz.1; omega
   have K:(es++[(⟨U,V,Y,q,d,ts⟩:oX)]).length=es.length+1:=ai
   refine ⟨⟨G,by rw [K]; exact C⟩,B.ge,by rw [K,ao9]; exact o1',by rw [K,ao9]; exact o2',?_,?_,?_,?_,?_,?_,?_⟩
   ·intro e j;rcases ar9.1 j with j | j
    ·have hd:=B.eg e j;exact ⟨Q (B.FH e j).1 λi hi=>hd i (be9 _ hi),Q (B.FH e j).2.1 λi hi=>hd i (bi9 _ hi),(B.FH e j).2.2⟩
    ·have j:e=⟨U,V,Y,q,d,ts⟩:=by simpa using j
     subst j;exact ⟨Q s λi hi=>⟨(k i hi).1,(k i hi).2.1,(k i hi).2.2.1⟩,hsq,hts⟩
   ·intro hi;rcases J gb hi with g | g
    ·exact B.Pa g
    ·have:=hsz.1; omega
   ·intro hi;rcases M gb hi with g | g
    ·exact B.T1 g
    ·have:=hsz.1; omega
   ·intro i hi hi2;rcases J i hi with g | g <;> rcases M i hi2 with h' | h'
    ·exact B.Ys i g h'
    ·have:=hsz.2.1 i g; omega
    ·have:=hsz.2.2.1 i h'; omega
    ·have:=lp1 i hi; omega
   ·intro e j i hi;rcases ar9.1 j with j | j
    ·have hd:=B.eg e j i hi;have hlt:=hsz.2.2.2 e j i hi;exact ⟨hd.1,λg=>(J i g).elim hd.2.1 ad,λg=>(M i g).elim hd.2.2 ad⟩
    ·have j:e=⟨U,V,Y,q,d,ts⟩:=by simpa using j
     subst j;rcases ar9.1 hi with hi | hi
     ·have hd:=k i hi;have hlt:=lp i hi;exact ⟨hd.1,λg=>(J i g).elim hd.2.1 ad,λg=>(M i g).elim hd.2.2.1 ad⟩
     ·have:=bq i hi
      refine ⟨by have:=hsz.1; omega,λg=>?_,λg=>?_⟩
      ·have:=lp1 i g; omega
      ·rcases M i g with g | g
       ·have:=hsz.2.2.1 i g; omega
       ·omega
   ·intro e j i hi;rcases ar9.1 j with j | j
    ·exact B.pq e j i hi
    ·have j:e=⟨U,V,Y,q,d,ts⟩:=by simpa using j
     subst j;intro g
     have:=(bq i g).1
     have:=lp i hi
     omega
   ·refine fu9.2 ⟨B.ee,ai,?_⟩;intro e j f hf i hi g;have hf:f=⟨U,V,Y,q,d,ts⟩:=by simpa using hf
    subst hf;rcases ar9.1 g with g | g
    ·exact (k i g).2.2.2 e j hi
    ·have:=(bq i g).1
     have:=hsz.2.2.2 e j i hi
     omega
  ·refine Ch.trans (Ch.trans (Ch.trans (Ch.trans (k1.mono λi hi _=>by simp [hi]) P λi hi _=>by simp at hi; simp [hi]) k3 ai) k4 λi hi _=>by simp [hi]) W λi hi _=>by simp at hi; simp [hi]
  ·intro i hi;rcases R with rfl | ⟨a,rfl,ha⟩
   ·exact .inl hi
   ·simp [ax] at hi; right; omega
  ·intro i hi;rcases hp2 with rfl | ⟨a,rfl,ha⟩
   ·exact .inl hi
   ·simp [ax] at hi; right; omega
  ·intro e j i hi;rcases ar9.1 j with j | j
   ·exact .inr (.inr ⟨e,j,hi⟩)
   ·have j:e=⟨U,V,Y,q,d,ts⟩:=by simpa using j
    subst j;rcases ar9.1 hi with hi | hi
    ·exact .inl hi
    ·right; left
     rcases hq with rfl | ⟨a,rfl,ha⟩
     ·simp [ax] at hi
     ·simp [ax] at hi; omega
 ·rintro ⟨⟩ h1 ⟨r,hl1,u,w,D,E,B1,k1,a1,a2,a3⟩;obtain ⟨held,A⟩:=B1.box;refine aF rfl ?_;rw [aw];refine ay A (held,()) (ak ?_);refine aF rfl ?_;rw [aw];refine bJ A ?_;intro h2 I P z2;refine aM (cs:=[]) (λ_ n h'=>∃ es',es'.length<=4001/\n=es'.length/\vG H gb O pl pw es U h' es') () r.length rfl ⟨r,hl1,rfl,u,w,D,E,B1.KR P I,MJ k1 P,a1,a2,a3⟩ ?_;clear A P I z2 B1 k1 a1 a2 a3 hl1 r;rintro ⟨⟩ m h3 ⟨r,hl1,rfl,hB⟩;refine fO (cs:=[]) (λ_ h'=>∃ es',es'.length=r.length/\1<es'.length/\vG H gb O pl pw es U h' es') ?_ ?_
  ·have hB0:=hB;obtain ⟨u,w,D,E,B1,k1,a1,a2,a3⟩:=hB;obtain ⟨held,A⟩:=B1.box;refine aF rfl (aZ A ((u,r.length,w),()) rfl (ak ?_));refine aI ?_ ?_<;>intro g1
   ·refine aF rfl ?_;rw [aw];refine ay A (held,()) (ak ?_);have mt:∀ L,(T.again 1 []) [L,λvs h'=>∃ y:qu (flat []),vs=parts [] (et _ y)/\∃ es',es'.length=r.length/\1<es'.length/\vG H gb O pl pw es U h' es'] (λv h'=>v=.tuple #[]/\∃ es',es'.length<=4000/\vG H gb O pl pw es U h' es') h3 :=
     λL=>dE (cs:=[]) () rfl rfl ⟨r,rfl,ad,hB0⟩
    refine ao (λg2=>mt _) (λg2=>?_);refine aF rfl (aZ A ((u,r.length,w),()) rfl (ak ?_));refine ao (λg3=>mt _) (λg3=>?_);have g3:=aw9 g3;exact ⟨rfl,r,ad,hB0⟩
   ·exact ⟨rfl,r,ad,hB0⟩
  ·rintro ⟨⟩ h4 ⟨o,hl2,hg2,hB⟩;refine fO (cs:=[]) (λ_ h'=>∃ es',es'.length=r.length/\1<es'.length/\vG H gb O pl pw es U h' es') ?_ ?_
   ·obtain ⟨u,w,D,E,B1,k1,a1,a2,a3⟩:=hB;obtain ⟨held,A⟩:=B1.box;refine aF rfl ?_;rw [aw];refine ay A (false,()) (ak ?_);refine bX rfl (aF rfl (aZ A ((u,o.length,w),()) rfl (ak ?_)));obtain ⟨q1,hq1,F⟩:=B1.one.cells (i:=0) (by rw [ab9]; omega);obtain ⟨q2,hq2,Z⟩:=B1.two.cells (i:=0) (by rw [ab9]; omega);rw [aj9] at F Z;have hent:=B1.FH o[0] (ah9 ad);generalize o[0]=e at F Z hent;refine eS (aF hq1 (ar ((e.p,e.l,e.c),()) F (ak ?_)));refine aF rfl ?_;rw [aw];refine ay A ((D,o.length,E),()) (ak ?_);refine eS (aF hq2 (ar ((e.q,e.l,e.d),()) Z (ak ?_)));refine aJ (Dl (by have:=hent.2.2; omega) hent.1 hent.2.1) ?_;refine ⟨⟨A.cells _ rfl,A.cells _ rfl,?_,trivial⟩,?_⟩
    ·exact A.cells _ rfl
    refine aF rfl ?_;rw [aw];refine bJ A ?_;intro h5 C W z5;exact dE (cs:=[]) () rfl rfl ⟨o,hl2,hg2,u,w,D,E,B1.KR W C,MJ k1 W,a1,a2,a3⟩
   ·clear hB hl2 hg2 o;rintro ⟨⟩ h5 ⟨o,hl2,hg2,u,w,D,E,B0,k0,a1,a2,a3⟩;obtain ⟨held5,C⟩:=B0.box;refine aF rfl ?_;rw [aw];refine ay C (held5,()) (ak ?_);refine aF rfl (aZ C ((u,o.length,w),()) rfl (ak ?_));obtain ⟨q1,hq1,F⟩:=B0.one.cells (i:=0) (by rw [ab9]; omega);rw [aj9] at F;generalize o[0]=e at F;refine eS (aF hq1 (ar ((e.p,e.l,e.c),()) F (ak ?_)));refine aF rfl ?_;rw [aw];refine bJ C ?_;intro h6 hb6 k6 z6;have B1:=B0.KR k6 hb6;have k1:=MJ k0 k6;obtain ⟨held,A⟩:=B1.box;have X:∀ {p':Xac} {c':Nat} {xs:List (List Xab)},SL h6 O 50 1 p' o.length c' xs->o.length<=c':=by
     intro p' c' xs s';cases p' with
     | none =>
      have h1:=s'.2.2.2;have h2:=s'.1;rw [h1,List.length_nil] at h2; omega
     | some a=>obtain ⟨_,_,_,_,_,g,_⟩:=s'.2.2; exact g.1
    have hc1:=X B1.one;have hc2:=X B1.two;refine aF rfl (aZ A ((u,o.length,w),()) rfl (ak ?_));refine cX ⟨ad,ad,ad⟩ (aF rfl ?_);rw [ac9 ad];refine bJ A ?_;intro h7 S k7 z7;have S:br h7 gb 61 [.slice (u.map λa=>a.add 1) (o.length-1) (w-1),.slice D o.length E,vI held,.bool false]:=S;refine aF rfl ?_;rw [aw];refine ay S ((D,o.length,E),()) (ak ?_);refine cX ⟨ad,ad,ad⟩ (aF rfl ?_);rw [ac9 ad,aw];refine bJ S ?_;intro h8 hb8 k8 z8;have hb8:br h8 gb 61 [.slice (u.map λa=>a.add 1) (o.length-1) (w-1),.slice (D.map λa=>a.add 1) (o.length-1) (E-1),vI held,.bool false]:=hb8;have k78:Ch [gb] h6 h8:=k7.trans k8 (λi hi _=>hi);refine aC (cs:=[]) () (o.length-1) rfl ad rfl ⟨o.drop 1,by simp; omega,ai,_,_,_,_,B1.tail k78 ad hb8,MJ k1 k78,?_,?_,λe j=>a3 e (fp9 j)⟩
    ·rw [eX]; exact a1
    ·rw [eX]; exact a2
end Go.Sx.TB
/- The book of memory over terms (Stays,Apart): as BookA,BookB over tokens. Condition: as each statement says. -/
namespace Go.Sx.TB
open Go.Proofs Go.Sx.Ob Go.Sx.Lk
def du (b:Nat) (h h':Hp):Prop:=h.size<=h'.size/\∀ i,i<b->i<h.size->h'[i]?=h[i]?
variable {H U:Nat} {O:Hp}
def du.of {ws:List Nat} {h':Hp} (k:Ch ws O h') (a:∀ i,i∈ws->i<O.size->H<=i):du H O h' :=
 ⟨k.size,λi hi hl=>k.same i hl λc=>by have:=a i c hl; omega⟩
def du.trans {b:Nat} {h h1 h2:Hp} (a:du b h h1) (c:du b h1 h2):du b h h2 :=
 ⟨cd9 a.1 c.1,λi hi hl=>(c.2 i hi (ea9 hl a.1)).trans (a.2 i hi hl)⟩
def du.ext {h1 h2:Hp} (a:Ext O h1) (c:du O.size h1 h2):Ext O h2 :=
 ⟨cd9 a.size c.1,λi hi _=>(c.2 i hi (ea9 hi a.size)).trans (a.same i hi ai)⟩
def Qo {gb:Nat} {pl:Xac} {cl:Nat} {pw:Xac} {cw:Nat} {es:List oX} (B:o7 O gb H pl cl pw cw es) (t:es.length<=4000) :
  HC Xaz 28 #[.pointer (some ⟨gb,0,none⟩)] O λv h'=>v=.bool true/\o7 h' gb H pl cl pw cw es/\Ch [gb] O h':=by
 refine aX (args:=[.pointer (some ⟨gb,0,none⟩)]) mixed Tryz.func28 av (gJ (some ⟨gb,0,none⟩)) ?_;unfold ey aR aY bz aK bj aS;refine aM (cs:=cz) (λx n h'=>∃ i:Nat,x.1=(i:Int)/\i<=es.length/\n=es.length-i/\o7 h' gb H pl cl pw cw es/\Ch [gb] O h') ((0:Int),()) es.length rfl ⟨0,rfl,ad,ad,B,Ch.refl _ _⟩ ?_;clear B;rintro ⟨D,⟨⟩⟩ m h1 ⟨i,hi,u,rfl,B,w⟩;simp only at hi;subst hi;refine ak ?_;obtain ⟨held,a⟩:=B.box;refine aF rfl (aZ a ((pl,es.length,cl),()) rfl (ak ?_));refine aI ?_ ?_<;>intro A
 ·have f:i<es.length:=ad
  refine aF rfl ?_;rw [aw];refine ay a (false,()) (ak ?_);refine bX rfl (aF rfl (aZ a ((pl,es.length,cl),()) rfl (ak ?_)));obtain ⟨E,g,k⟩:=B.one.cells (i:=i) (by rw [ab9]; omega);obtain ⟨F,o,r⟩:=B.two.cells (i:=i) (by rw [ab9]; omega);rw [aj9] at k r;have hent:=B.FH es[i] (ah9 f);generalize es[i]=e at k r hent;rw [cg i];refine eS (aF g (ar ((e.p,e.l,e.c),()) k (ak ?_)));refine aF rfl ?_;rw [aw];refine ay a ((pw,es.length,cw),()) (ak ?_);refine eS (aF o (ar ((e.q,e.l,e.d),()) r ?_));refine aJ (Dl (by have:=hent.2.2; omega) hent.1 hent.2.1) ?_;refine ⟨⟨a.cells _ rfl,a.cells _ rfl,a.cells _ rfl,trivial⟩,?_⟩;refine aF rfl ?_;rw [aw];refine bJ a ?_;intro G s y I;have hw:=gK i;exact aC (cs:=cz) (((i+1:Nat):Int),()) (es.length-(i+1)) rfl ad (as9 (λz=>[Value.int .i64 z]) hw) ⟨i+1,rfl,ad,rfl,B.KR y s,w.trans y (λj C _=>C)⟩
 ·refine aF rfl ?_;rw [aw];refine ay a (false,()) ?_;exact ⟨rfl,B,w⟩
def AL:Xaa:=⟨#[109,97,114,107]⟩
def TC (i j:Int):Int:=IntKind.wrap .u32 ((IntKind.wrap .u32 ((IntKind.wrap .u32 i)*(65536:Int)))+(IntKind.wrap .u32 j))
def Yu (k j:Nat):List Xab:=[.string AL,.int .u32 (TC k j)]
def Room (h:Hp) (b:Nat) (p:Xac) (c k m:Nat):Prop :=
 match p with
 | none=>c=0
 | some a=>∃ g o cells,a=⟨g,o,none⟩/\b<=g/\c<9223372036854775808/\br h g 64 cells/\o+c*2<=cells.length/\∀ j,j<m->(cells.drop (o+j*2)).take 2=Yu k j
def Room.We {p:Xac} {c:Nat} {xs:List (List Xab)} (s:SL O H 64 2 p U c xs) (k:Nat):Room O H p c k 0:=by
 cases p with
 | none=>exact s.2.2.1
 | some a =>
  obtain ⟨g,e,rest,rfl,f,i,d,m⟩:=s.2.2;have hx:=dy xs s.2.1
  have:=s.1
  refine ⟨g,e.length,_,rfl,f,i.2,d,?_,λj n=>ad⟩;rw [ae9,ae9,hx,m,<- this];omega
def Room.aj {ws:List Nat} {h h':Hp} {b:Nat} {p:Xac} {c k m:Nat} (r:Room h b p c k m) (f:Ch ws h h') (j:∀ i,i∈ax p->i∉ws):Room h' b p c k m:=by
 cases p with
 | none=>exact r
 | some a =>
  obtain ⟨g,o,cells,rfl,e,hc,d,l,n⟩:=r;exact ⟨g,o,cells,rfl,e,hc,d.aj f (j g (by simp [ax])),l,n⟩
def yG {cells vs:List Xab} (hv:vs.length=U) (h:H+U<=cells.length):((iw cells H vs).drop H).take U=vs:=by
 rw [ig _ _ _ ad,az9];rw [dc9 (by rw [au9]; omega),dl9 (by rw [au9]; omega),cw9,ci9 ad,bo9 ad]
def sG {cells vs:List Xab} {o' n:Nat} (h:H+vs.length<=cells.length) (h':o'+n<=H):((iw cells H vs).drop o').take n=(cells.drop o').take n:=by
 rw [ig _ _ _ ad,az9];rw [dc9 (by rw [au9]; omega),ci9 (by rw [bs9,au9]; omega)];rw [List.drop_take,fr9,cp9 ad]
def Mh (i j:Int) (h:Hp):HC Xaz 19 #[vI i,vI j] h λv h'=>v=.agg #[.string AL,.int .u32 (TC i j)]/\Ext h h':=by
 refine aX (args:=[vI i,vI j]) mixed Tryz.func19 av (pj i j) ?_;unfold kT aE bZ;refine bn ?_;intro h1 b c z1;refine cX bH ?_;refine bJ b ?_;intro h2 a d z2;have a:br h2 h.size 64 [.string AL,.int .u32 (TC i j)]:=a;refine ay a (AL,TC i j,()) ?_;exact ⟨rfl,bS c d⟩
structure oo (h:Hp) (gb b:Nat) (pl:Xac) (cl:Nat) (es:List oX) (i m:Nat):Prop where
 box:∃ (v w:Xab),br h gb 61 [.slice pl es.length cl,v,w,.bool false]
 one:SL h b 50 1 pl es.length cl (es.map oX.one)
 room:∀ k,(hk:k<es.length)->Room h b es[k].p es[k].c k (if k<i then es[k].c else if k=i then m else 0)
def oo.aj {ws:List Nat} {h h':Hp} {gb b:Nat} {pl:Xac} {cl:Nat} {es:List oX} {i m:Nat} (M:oo h gb b pl cl es i m) (k:Ch ws h h') (h1:gb∉ws) (h2:∀ i,i∈ax pl->i∉ws) (c:∀ e,e∈es->∀ i,i∈e.uJ->i∉ws) :
  oo h' gb b pl cl es i m:=by
 obtain ⟨v,w,d⟩:=M.box;exact ⟨⟨v,w,d.aj k h1⟩,M.one.bf k h2,λj a=>(M.room j a).aj k λx f=>c es[j] (ah9 a) x (be9 _ f)⟩
def R5 {gb:Nat} {pl:Xac} {cl:Nat} {pw:Xac} {cw:Nat} {es:List oX} (B:o7 O gb H pl cl pw cw es) (J:es.length<=4000) (hbs:H<=O.size) :
  HC Xaz 18 #[.pointer (some ⟨gb,0,none⟩),.func (Fn.func 19) #[] #[]] O λv h'=>v=.bool true/\du H O h':=by
 refine aX (args:=[.pointer (some ⟨gb,0,none⟩),.func (Fn.func 19) #[] #[]]) mixed Tryz.func18 av (fJ (some ⟨gb,0,none⟩)) ?_;unfold dN aR aY bz aK bj ja aE cC bm aS cH;refine aG (Qo B J) ?_;rintro _ h0 ⟨rfl,S,W⟩;refine ⟨(true,()),rfl,ak ?_⟩;refine bX rfl ?_;have s0:du H O h0:=du.of W λi hi _=>by simp at hi; subst hi; exact B.ge
 have M0:oo h0 gb H pl cl es 0 0:=by
  obtain ⟨held,f⟩:=S.box;refine ⟨⟨_,_,f⟩,S.one,λk hk=>?_⟩
  have:=Room.We (S.FH es[k] (ah9 hk)).1 k
  rw [ac9 ad]
  by_cases O:k=0
  ·rw [ag9 O]; exact this
  ·rw [ac9 O]; exact this
 have K:O.size<=h0.size:=W.size;have Pa:=B.Pa;have eg:=B.eg;have hge:=B.ge;have X:∀ i j (hi:i<es.length) (t:j<es.length),i≠j->∀ x,x∈es[i].uJ->x∉es[j].uJ:=by
  intro i j hi t hij x s;rcases cj9 i j with h1 | h1
  ·exact (dv9.1 B.ee) i j hi t h1 x s
  ·intro Y;exact (dv9.1 B.ee) j i t hi ad x Y s
 have hlt:=B.lt;clear B S;refine aM (cs:=cz) (λx n h'=>∃ i:Nat,x.1=(i:Int)/\i<=es.length/\n=es.length-i/\oo h' gb H pl cl es i 0/\du H O h'/\O.size<=h'.size) ((0:Int),()) es.length rfl ⟨0,rfl,ad,ad,M0,s0,K⟩ ?_;clear M0 s0 K W h0;rintro ⟨n1,⟨⟩⟩ m0 h1 ⟨i,hi,hile,rfl,M,C,z1⟩;simp only at hi;subst hi;refine ak ?_;obtain ⟨v,w,f⟩:=M.box;refine aF rfl (aZ f ((pl,es.length,cl),()) rfl (ak ?_));refine aI ?_ ?_<;>intro g1
 ·have d:i<es.length:=ad
  obtain ⟨Z,m,y⟩:=M.one.cells (i:=i) (by rw [ab9]; omega);rw [aj9] at y;rw [cg i];refine aF rfl (aZ f ((pl,es.length,cl),()) rfl (ak ?_));refine eS (aF m (ar ((es[i].p,es[i].l,es[i].c),()) y (ak ?_)));refine aF rfl (aZ f ((pl,es.length,cl),()) rfl (ak ?_));refine eS (aF m (ar ((es[i].p,es[i].l,es[i].c),()) y (ak ?_)));refine cX ⟨ad,ad,ad⟩ ?_;clear f y m Z;refine aM (cs:=cz) (λx n h'=>∃ j:Nat,x.1=(j:Int)/\j<=es[i].c/\n=es[i].c-j/\oo h' gb H pl cl es i j/\du H O h'/\O.size<=h'.size) ((0:Int),()) es[i].c rfl ⟨0,rfl,ad,ad,M,C,z1⟩ ?_;clear M C z1 v w;rintro ⟨n2,⟨⟩⟩ m1 h2 ⟨j,t,L,rfl,M,N,z2⟩;simp only at t;subst t;refine ak ?_;refine aI ?_ ?_<;>intro g2
  ·have u:j<es[i].c:=ad
   refine pO (cap:=[]) av rfl (Mh i j h2) ?_;rintro _ h3 ⟨rfl,e3⟩;refine ⟨(AL,TC i j,()),rfl,ak ?_⟩;have M3:=M.aj e3 ai ai ai;refine eS ?_;have hroom:=M3.room i d;rw [ac9 ad,ag9 rfl] at hroom;cases D:es[i].p with
   | none =>
    rw [D] at hroom
    have:es[i].c=0:=hroom
    omega
   | some a =>
    rw [D] at hroom;obtain ⟨g,o,cells,rfl,E,P,q,hr,U⟩:=hroom;have F:g∈es[i].uJ:=by unfold oX.uJ; rw [D]; simp [ax]
    rw [ac9 ad];refine aF (a:=⟨g,o,none⟩) (by rw [ez9,aw,eh9]) ?_;rw [aw,cg j];refine cG q rfl (by simp; omega) ?_;intro h4 G I z4;have hw:=gK j;have hcl:(iw cells (o+j*2) (Yu i j)).length=cells.length:=jg _ _ _;refine aC (cs:=cz) (((j+1:Nat):Int),()) (es[i].c-(j+1)) rfl ad (as9 (λz=>[Value.int .i64 z]) hw) ⟨j+1,rfl,ad,rfl,?_,?_,?_⟩
    ·obtain ⟨v,w,f⟩:=M3.box;refine ⟨⟨v,w,f.aj I ?_⟩,M3.one.bf I λx s=>?_,λk hk=>?_⟩
     ·simp; exact λe=>(eg es[i] (ah9 d) g F).1 e.symm
     ·simp; intro e; subst e; exact (eg es[i] (ah9 d) x F).2.1 s
     ·by_cases r:k=i
      ·subst r;rw [ac9 ad,ag9 rfl,D];refine ⟨g,o,_,rfl,E,P,G,by rw [jg]; exact hr,λj' hj'=>?_⟩
       by_cases hjj:j'=j
       ·subst hjj;exact yG rfl ad
       ·rw [<- U j' ad];exact sG (vs:=Yu k j) (by show _+2<=_; omega) ad
      ·have:=M3.room k hk
       rw [ac9 r] at this ⊢;refine this.aj I λx s=>?_
       simp; intro e; subst e
       exact X k i hk d r x (be9 _ s) F
    ·exact (N.trans (du.of e3 ai)).trans (du.of I λx s _=>by simp at s; subst s; exact E)
    ·have:=e3.size; have:=I.size; omega
  ·have t:j=es[i].c:=ad
   subst t;have hw:=gK i;refine aC (cs:=cz) (((i+1:Nat):Int),()) (es.length-(i+1)) rfl ad (as9 (λz=>[Value.int .i64 z]) hw) ⟨i+1,rfl,ad,rfl,⟨M.box,M.one,λk hk=>?_⟩,N,z2⟩
   have:=M.room k hk
   by_cases r:k<i
   ·rw [ag9 r] at this;rw [ag9 ad]; exact this
   ·rw [ac9 r] at this
    by_cases Q:k=i
    ·subst Q;rw [ag9 rfl] at this;rw [ag9 ad]; exact this
    ·rw [ac9 Q] at this;rw [ac9 ad]
     by_cases R:k=i+1
     ·rw [ag9 R]; exact this
     ·rw [ac9 R]; exact this
 ·have hi:i=es.length:=ad
  subst hi;clear f;refine aM (cs:=iv) (λx n h'=>∃ i:Nat,x.2.1=(i:Int)/\i<=es.length/\n=es.length-i/\oo h' gb H pl cl es es.length 0/\du H O h'/\O.size<=h'.size) (false,(0:Int),()) es.length rfl ⟨0,rfl,ad,ad,M,C,z1⟩ ?_;clear M C z1 v w;rintro ⟨b7,n8,⟨⟩⟩ m0 h2 ⟨i,hi,hile',rfl,M,C,z1⟩;simp only at hi;subst hi;refine ak ?_;obtain ⟨v,w,f⟩:=M.box;refine aF rfl (aZ f ((pl,es.length,cl),()) rfl (ak ?_));refine aI ?_ ?_<;>intro g2
  ·have d:i<es.length:=ad
   obtain ⟨Z,m,y⟩:=M.one.cells (i:=i) (by rw [ab9]; omega);rw [aj9] at y;rw [cg i];refine aF rfl (aZ f ((pl,es.length,cl),()) rfl (ak ?_));refine eS (aF m (ar ((es[i].p,es[i].l,es[i].c),()) y (ak ?_)));refine aF rfl (aZ f ((pl,es.length,cl),()) rfl (ak ?_));refine eS (aF m (ar ((es[i].p,es[i].l,es[i].c),()) y (ak ?_)));refine cX ⟨ad,ad,ad⟩ ?_;clear f y m Z;refine aM (cs:=iv) (λx n h'=>∃ j:Nat,x.2.1=(j:Int)/\j<=es[i].c/\n=es[i].c-j/\oo h' gb H pl cl es es.length 0/\du H O h'/\O.size<=h'.size) (b7,(0:Int),()) es[i].c rfl ⟨0,rfl,ad,ad,M,C,z1⟩ ?_;clear M C z1 v w;rintro ⟨A,n30,⟨⟩⟩ m1 h3 ⟨j,t,L,rfl,M,N,z2⟩;simp only at t;subst t;refine ak ?_;refine aI ?_ ?_<;>intro g3
   ·have u:j<es[i].c:=ad
    refine eS ?_;have hroom:=M.room i d;rw [ag9 d] at hroom;cases D:es[i].p with
    | none =>
     rw [D] at hroom
     have:es[i].c=0:=hroom
     omega
    | some a =>
     rw [D] at hroom;obtain ⟨g,o,cells,rfl,E,P,q,hr,U⟩:=hroom;rw [ac9 ad];refine aF (a:=⟨g,o,none⟩) (by rw [ez9,aw,eh9]) ?_;rw [aw,cg j];refine aZ q (AL,TC i j,()) (U j u) (ak ?_);refine pO (cap:=[]) av rfl (Mh i j h3) ?_;rintro _ h4 ⟨rfl,V⟩;refine ⟨(AL,TC i j,()),rfl,ak ?_⟩;refine ⟨⟨(q.aj V ai).cells _ (U j u),trivial⟩,?_⟩;refine pL (b:=false) (λK' hk=>FM _ _ _ _ _ _ _ _ (by rw [bytes_beq]; simpa using hk)) ?_;refine bX rfl ?_;have hw:=gK j;exact aC (cs:=iv) (A,((j+1:Nat):Int),()) (es[i].c-(j+1)) rfl ad (as9 (λz=>[Value.bool A,vI z]) hw)
      ⟨j+1,rfl,ad,rfl,M.aj V ai ai ai,N.trans (du.of V ai),by have:=V.size; omega⟩
   ·have hw:=gK i;exact aC (cs:=iv) (A,((i+1:Nat):Int),()) (es.length-(i+1)) rfl ad (as9 (λz=>[Value.bool A,vI z]) hw) ⟨i+1,rfl,ad,rfl,M,N,z2⟩
  ·refine aF rfl (cG f rfl ai ?_);intro h3 hb3 k3 z3;refine aF rfl ?_;rw [aw];refine cG hb3 rfl (by simp [iw]) ?_;intro h4 G I z4;refine aF rfl ?_;rw [aw];refine cG G rfl (by simp [iw]) ?_;intro h5 hb5 k5 z5;have hs:∀ {a c:Hp},Ch [gb] a c->du H a c:=λk=>du.of k λx s _=>by simp at s; subst s; exact hge
   exact ⟨rfl,((C.trans (hs k3)).trans (hs I)).trans (hs k5)⟩
end Go.Sx.TB
namespace Go.Sx.Po
open Go.Proofs Go.Sx.Ob Go.Sx.Lk Go.Sx.TB
variable {H:Hp} {O V:Nat} {U:TypeId}
def Zr {b' sz:Nat} {p:Xac} {c:Nat} {xs:List (List Xab)} (s:SL H O U sz p V c xs) (f:∀ i,i∈ax p->b'<=i):SL H b' U sz p V c xs:=by
 cases p with
 | none=>exact s
 | some a =>
  obtain ⟨h1,h2,g,d,rest,rfl,j,r⟩:=s;exact ⟨h1,h2,g,d,rest,rfl,f g (by simp [ax]),r⟩
def Jn {gb:Nat} (b:br H gb 61 [.slice none 0 0,.slice none 0 0,vI (0:Int),.bool false]):TB.o7 H gb gb none 0 none 0 [] :=
 ⟨⟨0,b⟩,am9 _,SL.nil _ _ _ _,SL.nil _ _ _ _,ai,by simp [ax],by simp [ax],by simp [ax],ai,ai,List.Pairwise.nil⟩
def AD {gb:Nat} {pl:Xac} {cl:Nat} {pw:Xac} {cw:Nat} {es:List TB.oX} (B:TB.o7 H gb O pl cl pw cw es) (hi:V∈gb::(ax pl++ax pw)) {ys:List Xab} (a:br H V U ys):U=61\/U=50:=by
 rcases bd9.1 hi with rfl | hi
 ·obtain ⟨held,d⟩:=B.box;exact .inl (iU a d)
 ·rcases ar9.1 hi with hi | hi
  ·obtain ⟨zs,c⟩:=eP B.one V hi;exact .inr (iU a c)
  ·obtain ⟨zs,c⟩:=eP B.two V hi;exact .inr (iU a c)
def SV (h:Hp) (gb lo hi:Nat):Prop:=∃ pl cl a b es,TB.o7 h gb gb pl cl a b es/\es.length<=4000/\∀ e,e∈es->∀ i,i∈e.uJ->i<lo\/hi<=i
def SV.wk {gb lo hi:Nat} (b:SV H gb lo hi) (h1:lo<=O):SV H gb O hi:=by
 obtain ⟨pl,cl,a,c,es,B,d,hl⟩:=b;exact ⟨pl,cl,a,c,es,B,d,λe f i hi=>by have:=hl e f i hi; omega⟩
structure Kp (h h':Hp) (gb b0 n:Nat) (β:Nat->Nat) (s:bC) (pw:List (Pl × bC)):Prop where
 si:du gb h h'
 sl:SL h' b0 30 3 s.p s.l s.c (pw.map T6)
 rest:∀ k,(hk:k<pw.length)->n<=k->jM h' 0 (β k) (β (k+1)) pw[k].2 pw[k].1.l
def Av (h:Hp) (j:Nat) (w:bC) (ts:List bC) (xs:List bK):Prop:=∃ cs,SL h 0 53 2 w.p w.l w.c cs/\cs.length=xs.length/\∀ i,(hi:i<xs.length)->(hc:i<cs.length)->(ht:i<ts.length)->j<=i->cs[i]=[ts[i].v,.int .u32 (xs[i].num:Int)]/\SL h 0 64 2 ts[i].p ts[i].l ts[i].c (xs[i].af.map cT)/\Tg xs[i]
variable {Y:bC}
def Av.aj {h':Hp} {ts:List bC} {xs:List bK} (v:Av H O Y ts xs) {W:List Nat} {bl:Nat} (k:Ch W H h') (o:rK H W bl) (c:∀ i,i∈ax Y.p->i∉W):Av h' O Y ts xs:=by
 obtain ⟨cs,sl,hl,a⟩:=v;exact ⟨cs,sl.bf k c,hl,λi hi hc ht b=>⟨(a i hi hc ht b).1,rc (a i hi hc ht b).2.1 k o,(a i hi hc ht b).2.2⟩⟩
def Kp.aj {h h2 h':Hp} {gb b0 n m:Nat} {β:Nat->Nat} {s:bC} {pw:List (Pl × bC)} (v:Kp h h2 gb b0 n β s pw) (f:n<=m) {W:List Nat} {bl:Nat} (k:Ch W h2 h') (o:rK h2 W bl) (c:∀ i,i∈W->gb<=i) (d:∀ i,i∈ax s.p->i∉W) (e:∀ k,(hk:k<pw.length)->m<=k->∀ i,i∈ax pw[k].2.p->i∉W):Kp h h' gb b0 m β s pw :=
 ⟨v.si.trans (du.of k λi hi _=>c i hi),v.sl.bf k d,λj b a=>(v.rest j b ad).aj k o (e j b a)⟩
def kh.ne {lo hi:Nat} {ts:List bC} (a:kh lo hi ts) {i j:Nat} (hi:i<ts.length) (c:j<ts.length) (e:i<j) {x:Nat} (h1:x∈ax ts[i].p) (h2:x∈ax ts[j].p):False:=by
 obtain ⟨β,f,b⟩:=a;have mono:∀ d,β (i+1)<=β (i+1+d):=by
  intro d
  induction d with
  | zero=>exact am9 _
  | succ d g=>have:=(f (i+1+d)).2.2; exact cd9 g this
 have h5:=b i hi x h1;have h6:=b j c x h2;have h7:=mono (j-(i+1));rw [show i+1+(j-(i+1))=j from ad] at h7;omega
def Yp {J0:List Xab->Hp->Prop} {K:Xab->Hp->Prop} {h:Hp} {gb b0:Nat} {pw:List (Pl × bC)} (v:MG h b0 h.size Y pw) (hg:gb<b0) (hp:pw.length<=2^30) (h8:∀ x,x∈pw->x.1.l.length<=2^30) (M:SV h gb b0 h.size) {k:T}
  (hk:∀ J h',SV h' gb h.size h.size->du gb h h'->k [J0,J] K h'):kpT Y.p Y.l ⟨gb,0,none⟩ k [J0] K h:=by
 unfold kpT aR aY bz aK cv aE bm aS;have hsl:Y.l=pw.length:=by have:=v.sl.1; rwa [ab9] at this
 obtain ⟨β,W,b2⟩:=v.lits;have Gd:=v.Gd;refine aM (cs:=cz) (λy m h'=>∃ n:Nat,y.1=(n:Int)/\m=Y.l-n/\n<=Y.l/\Kp h h' gb b0 n β Y pw/\SV h' gb (β n) h.size) ((0:Int),()) Y.l rfl
  ⟨0,rfl,rfl,ad,⟨⟨am9 _,λ_ _ _=>rfl⟩,v.sl,λk hk _=>b2 k hk⟩,M.wk (W 0).1⟩ ?_
 rintro ⟨n10,⟨⟩⟩ m h1 ⟨n,hn,rfl,hnl,o,H⟩;simp only at hn;subst hn;refine ak ?_;refine aI ?_ ?_<;>intro q
 ·have r:n<pw.length:=ad
  obtain ⟨cs0,ts,mG,C,htl,N,γ,X,g2⟩:=(o.rest n r (am9 _)).ex;have hxl:=h8 _ (ah9 r);have hbn:=W n;have hbn2:=W (n+1);have hwn:=λ(k:Nat) (hk:k<pw.length) (D:n<k) (x:Nat) (h1:x∈ax pw[n].2.p) (h2:x∈ax pw[k].2.p)=>kh.ne Gd (i:=n) (j:=k) (by rw [ab9]; exact r) (by rw [ab9]; exact hk) D (x:=x) (by rw [aj9]; exact h1) (by rw [aj9]; exact h2)
  have lx:(pw.map T6)[n]'(by rw [ab9]; exact r)=[vI (pw[n].1.u:Int),vI (pw[n].1.i:Int),pw[n].2.v]:=by rw [aj9]; rfl
  have hwb:=λ(x:Nat) (h1:x∈ax pw[n].2.p)=>Gd.bd (t:=pw[n].2) (ay9 (ah9 r)) h1
  generalize pw[n].2=w at *;generalize pw[n].1.l=xs at *;have O:Kp h h1 gb b0 (n+1) β Y pw:=⟨o.si,o.sl,λk hk d=>o.rest k hk ad⟩
  have rd:∀ {h3:Hp} {K:Xab->Hp->Prop} {Lq:Lp} {kk:Xac->Nat->Nat->T},SL h3 b0 30 3 Y.p Y.l Y.c (pw.map T6)->kk w.p w.l w.c Lq K h3->T.need (((0:Int)<=(n:Int))/\((n:Int)<(Y.l:Int))) (T.bh Y.p <| λ(a15:Xax)=>T.ah ((a15.add ((Int.toNat (n:Int))*3)).add 2) [.slice 53] kk) Lq K h3:=by
   intro h3 K Lq kk sl3 hk;obtain ⟨a,ha,hc⟩:=SL.cells sl3 (i:=n) (by rw [ab9]; exact r);rw [lx] at hc;refine bM ha ?_;rw [cg n];exact ar ((w.p,w.l,w.c),()) (fj [w.v] 2 0 ⟨hc.2.2.1,trivial⟩) hk
  refine aM (cs:=cz) (λy m h'=>∃ j:Nat,y.1=(j:Int)/\m=xs.length-j/\j<=xs.length/\Kp h h' gb b0 (n+1) β Y pw/\Av h' j w ts xs/\SV h' gb (γ j) h.size) ((0:Int),()) xs.length rfl
   ⟨0,rfl,rfl,ad,O,⟨cs0,mG,C,λi hi hc ht _=>N i hi hc ht⟩,H.wk (X 0).1⟩ ?_
  clear O H o mG N;rintro ⟨n11,⟨⟩⟩ m h2 ⟨j,hj,rfl,hjl,o,⟨cs,E,C,Z⟩,H⟩;simp only at hj;subst hj;refine ak ?_;have hwl:w.l=xs.length:=by rw [<- C]; exact E.1
  refine rd o.sl ?_;refine aI ?_ ?_<;>intro q1
  ·have hjx:j<xs.length:=ad
   obtain ⟨hcj,Q,tok⟩:=Z j hjx ad ad (am9 _);have gj:=X j;have gj1:=X (j+1);have gb2:=g2 j ad;obtain ⟨a2,G,R⟩:=SL.cells E (i:=j) ad;rw [hcj] at R;have hz:=o.si.1;refine rd o.sl ?_;refine bM G ?_;rw [cg j];refine ar ((ts[j].p,ts[j].l,ts[j].c),()) ⟨R.1,trivial⟩ (ak ?_);obtain ⟨pl,cl,pb,cb,es,B,hes,D⟩:=H;refine aG (U0 B hes (Zr Q (λi hi=>by have:=gb2 i hi; omega)) tok.many (λi hi=>?_) ad) ?_
   ·have h1:=gb2 i hi;obtain ⟨ys,g⟩:=eP Q i hi;have no:i∉gb::(ax pl++ax pb):=λd=>by rcases AD B d g with h | h <;> exact absurd h bH
    refine ⟨ad,λd=>no (aq9 _ (be9 _ d)),λd=>no (aq9 _ (bi9 _ d)),λe I d=>?_⟩
    have:=D e I i d
    omega
   rintro _ h3 ⟨rfl,es',S,pl',cl',pb',cb',L,k3,f1,f2,f3⟩;refine ⟨(),rfl,ak ?_⟩;have z3:=k3.size;have o3:rK h2 (gb::(ax pl++ax pb)) 0:=⟨λi hi ys M=>by rcases AD B hi M with h | h <;> exact absurd h bH,λi hi ys M=>by rcases AD B hi M with h | h <;> exact absurd h bH,λi hi=>.inl (dw9 _)⟩
   have no:∀ {b:Nat} {e:TypeId} {sz:Nat} {p:Xac} {l c:Nat} {zs:List (List Xab)},SL h2 b e sz p l c zs->e≠61->e≠50->∀ i,i∈ax p->i∉gb::(ax pl++ax pb):=λsx n1 n2 i hi d=>by
    obtain ⟨ys,g⟩:=eP sx i hi;rcases AD B d g with h | h
    ·exact n1 h
    ·exact n2 h
   have hge:∀ i,i∈gb::(ax pl++ax pb)->gb<=i:=λi hi=>by
    rcases bd9.1 hi with rfl | hi
    ·exact am9 _
    ·rcases ar9.1 hi with hi | hi
     ·exact (B.one.cj hi).1
     ·exact (B.two.cj hi).1
   have kp3:=o.aj (am9 _) k3 o3 hge (no o.sl bH bH) λk hk d=>by
    obtain ⟨cs,ts,sl,_⟩:=(o.rest k hk d).ex;exact no sl bH bH
   obtain ⟨cs3,F,U,hx3⟩:=Av.aj ⟨cs,E,C,Z⟩ k3 o3 (no E bH bH);refine rd kp3.sl ?_;refine bM G ?_;refine SL.store (P:=Xaz) F (i:=j) ad ai (by simp [df]) G ?_;intro h4 V k4 z4;have hbx:=eP F;have hw:=gK j;have kp4:=kp3.aj (am9 _) k4 (rK.lit (bl:=0) hbx λ_ _=>dw9 _) (λi hi=>by have:=hwb i hi; omega) (λi hi d=>by
    obtain ⟨ys,g⟩:=eP kp3.sl i hi;obtain ⟨zs,hz⟩:=hbx i d;exact absurd (iU g hz) bH) λk hk d i hi hm2=>hwn k hk ad i hm2 hi
   refine aC (cs:=cz) (((j+1:Nat):Int),()) (xs.length-(j+1)) rfl ad (as9 (λz=>[Value.int .i64 z]) hw) ⟨j+1,rfl,rfl,ad,kp4,⟨_,V,by rw [cv9]; exact U,λi hi hc ht hji=>?_⟩,?_⟩
   ·have hc3:i<cs3.length:=ad
    rw [List.getElem_set_ne ad];obtain ⟨r1,r2,r3⟩:=hx3 i hi hc3 ht ad;exact ⟨r1,rc (bl:=0) r2 k4 (rK.lit hbx λ_ _=>dw9 _),r3⟩
   ·have A:∀ i,i∈ax w.p->∀ e ys,br h3 i e ys->e=53:=λi hi e ys g=>by
     obtain ⟨zs,hz⟩:=hbx i hi;exact iU g hz
    refine ⟨pl',cl',pb',cb',es',L.aj k4 (λd=>?_) (λi hi d=>?_) (λi hi d=>?_) (λe I i hi d=>?_),S,λe I i hi=>?_⟩
    ·obtain ⟨held,Z⟩:=L.box;exact absurd (A _ d _ _ Z) bH
    ·obtain ⟨ys,g⟩:=eP L.one i hi;exact absurd (A _ d _ _ g) bH
    ·obtain ⟨ys,g⟩:=eP L.two i hi;exact absurd (A _ d _ _ g) bH
    ·rcases ar9.1 hi with hi | hi
     ·obtain ⟨ys,g⟩:=eP (L.FH e I).1 i hi;exact absurd (A _ d _ _ g) bH
     ·obtain ⟨ys,g⟩:=eP (L.FH e I).2.1 i hi;exact absurd (A _ d _ _ g) bH
    ·rcases f3 e I i hi with h | h | ⟨f,hf,h⟩
     ·have:=gb2 i h; omega
     ·omega
     ·have:=D f hf i h; omega
  ·have hje:j=xs.length:=ad
   have hw:=gK n;exact aC (cs:=cz) (((n+1:Nat):Int),()) (Y.l-(n+1)) rfl ad (as9 (λz=>[Value.int .i64 z]) hw) ⟨n+1,rfl,rfl,ad,o,H.wk (X j).2.1⟩
 ·exact hk _ h1 (H.wk (W n).2.1) o.si
open Go.Proofs Go.Sx.Ob Go.Sx.Lk
def Qh (pw:eU H) (U:zY H) (E:V0 H) {su:bC} {us:List cm} (v:xZ H su.p su.l us) (sm:IJ us) :
  HC Xaz 6 #[.slice su.p su.l su.c] H λw h'=>w=.bool true/\Ext H h':=by
 refine aX (args:=[.slice su.p su.l su.c]) mixed Tryz.func6 av (mC su.p su.l su.c) ?_;unfold iL aY bj cv cC bm aS cH;refine aG (YL (su:=su) pw U v sm) ?_;rintro w1 h1 ⟨m,g⟩
 by_cases o:vu us=true
 ·rw [ag9 o] at g;refine ⟨(none,none,false,true,()),g,ak ?_⟩;exact bU rfl (bU rfl (J5 E m))
 rw [ac9 o] at g;have ag:=BQ (us:=us) sm.num;cases u:nB us with
 | error f =>
  rw [u] at g;refine ⟨(none,none,false,true,()),g,ak ?_⟩;exact bU rfl (bU rfl (J5 E m))
 | ok P =>
 rw [u] at g ag;obtain ⟨B,usl,lb,S,gd,b',lb2,st,sd,tw,dw,rfl,F⟩:=g;refine ⟨(some ⟨B+3,0,none⟩,some ⟨gd,0,none⟩,true,true,()),rfl,ak ?_⟩;refine bX rfl ?_;have p:=F.prg ag sm v;have rt:=F.Y7 v;have hN:=p.many;have hI:=p.len;obtain ⟨A,V⟩:=p.sz;have pw1:=pw.aj m ai;have tb1:=U.aj m ai;refine bn ?_;intro h2 b2 e2 z2;have G:SV h2 h1.size h1.size h1.size:=⟨_,_,_,_,_,Jn b2,ai,ai⟩
 refine aM (cs:=cz) (λy k h'=>∃ r:Nat,y.1=(r:Int)/\k=2-r/\r<=2/\Ext h1 h'/\h1.size<h'.size/\∃ x,SV h' h1.size x x) ((0:Int),()) 2 rfl
  ⟨0,rfl,rfl,ad,e2,ad,_,G⟩ ?_
 rintro ⟨n6,⟨⟩⟩ k h3 ⟨r,W,rfl,hr2,C,z3,x,X⟩;simp only at W;subst W;refine ak ?_;refine aI ?_ ?_<;>intro q
 ·refine aG ((p.aj C).Vy (pw1.aj C ai) (tb1.aj C ai)) ?_;rintro _ h4 ⟨b,s,pv,rfl,ps,a⟩;refine ⟨((s.p,s.l,s.c),()),rfl,ak ?_⟩;have z4:=b.size;have hlen:=as9 List.length a;rw [ab9] at hlen;obtain ⟨pl,cl,Y,Z,es,D,j,K⟩:=X;have lt:=D.lt;have L:SV h4 h1.size h3.size h4.size:=⟨pl,cl,Y,Z,es,D.aj b ai ai ai ai,j,λe he i hi=>.inl (lt.2.2.2 e he i hi)⟩
  refine Yp ps z3 ad (λy hy=>by have:=V y.1 (by rw [<- a]; exact ay9 hy); omega) L ?_;intro J h5 M si;have O:Ext h1 h5:=TB.du.ext (C.trans b) si;have hw:=gK r;have z5:=si.1;exact aC (cs:=cz) (((r+1:Nat):Int),()) (2-(r+1)) rfl ad (as9 (λz=>[Value.int .i64 z]) hw) ⟨r+1,rfl,rfl,ad,O,ad,_,M⟩
 ·obtain ⟨pl,cl,Y,Z,es,D,j,K⟩:=X;refine aG (TB.R5 D j ad) ?_;rintro _ h4 ⟨rfl,si⟩;refine ⟨(true,()),rfl,ak ?_⟩;have b:Ext h1 h4:=TB.du.ext C si;refine bU rfl ?_;refine aG ((p.aj b).Vy (pw1.aj b ai) (tb1.aj b ai)) ?_;rintro _ h5 ⟨e5,s,pv,rfl,ps,a⟩;refine ⟨((s.p,s.l,s.c),()),rfl,ak ?_⟩;have e15:=b.trans e5;refine aG (Nz (F.pr.aj e15) (N:=us.length) (I:=IU us P) ad (rt.aj e15) (λn hn=>by have:=p.len n hn; omega) A) ?_;rintro _ h6 ⟨Q,t,qw,rfl,qs,R⟩;refine ⟨((t.p,t.l,t.c),()),rfl,ak ?_⟩;refine aG (N5.same (c:=s.c) (d:=t.c) V A ps a Q qs R Q (Ch.refl _ _)) ?_;rintro _ h7 ⟨rfl,e7⟩;refine ⟨(true,()),rfl,ak ?_⟩;refine bU rfl ?_;exact J5 E ((m.trans e15).trans (Q.trans e7))
end Go.Sx.Po
namespace Go.Sx.Ob
open Go.Proofs Go.Proofs.YtmdncdaladplkaaGreatDoor
open Go.ChangeShapes Go.WideShapes Go.ChangeAt Go.WideMaps Go.WideElems Go.RowKit
def xz (P:Program) (t:TypeId):Option (List (TypeId × Nat)):=(P.underlying t).bind λd=>match d with | .struct a=>some (a.toList.map λf=>(f.type,f.offset)) | _=>none
section
variable {H:Type} {enc:TypeId × Xab->H} {P:Program} {W:World} {base fuel:Nat} {sp:Nat->Bool} {held:Bool} {t:TypeId} {cs:List Xab} {y:DataW H × List MemPlace}
def gX {l:List (TypeId × Nat)} (a:xz P t=some l) (h:DataW.trod enc P W base sp held fuel t cs=some y) :
  ∃ (xs:List (DataW H × List MemPlace)) (n:Nat),y.1=.agg (xs.map (·.1))/\cs.length=P.cellsOf t/\xs.length=l.length/\∀ (i:Nat) (p:TypeId × Nat),l[i]?=some p->∃ x,xs[i]?=some x/\DataW.trod enc P W base sp held n p.1 ((cs.drop p.2).take (P.cellsOf p.1))=some x:=by
 unfold xz at a;cases e:P.underlying t with
 | none=>rw [e] at a; cases a
 | some d =>
  rw [e] at a;simp only [Option.bind_some] at a;split at a
  ·rename_i j;simp only [Option.some.injEq] at a;obtain ⟨xs,n,_,o,hl,c,q⟩:=DataW.trod_struct e h;refine ⟨xs,n,by rw [o],hl,by rw [<- a,ab9,c,de9],λi p k=>?_⟩;rw [<- a,cl9,ev9] at k;obtain ⟨f,b,rfl⟩:=k;rw [dq9] at b;have h1:=q i f b;cases m:xs[i]? with
   | none =>
    rw [List.getElem?_eq_none_iff] at m
    have:i<j.size:=by
     by_cases g:i<j.size
     ·exact g
     ·rw [cx9 ad] at b;cases b
    omega
   | some x=>rw [m] at h1; exact ⟨x,rfl,h1⟩
  ·cases a
theorem ka {h:Hp} {a:Xax}:∀ (b:List Xab) (i:Nat),(∀ j,(c:j<b.length)->iB h (a.add (i+j))=some b[j])->aH h a i b
 | [],_,_=>trivial
 | v::b,i,d=>⟨by have:=d 0 ai; rw [eh9] at this; exact this,ka b (i+1) λj c=>by
  have:=d (j+1) (by simpa using c)
  rw [show i+1+j=i+(j+1) from ad];simpa using this⟩
def X6 {a:Xax} {n:Nat} (h:W.cells? base a n=some cs):cs.length=n/\aH W.heap a 0 cs:=by
 unfold World.cells? at h;split at h
 ·have hl:cs.length=n:=by simpa using Lib.mapM_length h
  refine ⟨hl,ka cs 0 λj d=>?_⟩;obtain ⟨b,c,e⟩:=Lib.mapM_at h j j (dp9 ad);rw [ad9 d] at c;cases c;rw [by9,<- Ec];exact e
 ·cases h
theorem zE {α:Type} (Q:Nat->α->Prop):∀ n,(∀ i,i<n->∃ x,Q i x)->∃ l:List α,l.length=n/\∀ i (hi:i<l.length),Q i l[i]
 | 0,_=>⟨[],rfl,λi hi=>by simp at hi⟩
 | n+1,h=>by
  obtain ⟨l,hl,c⟩:=zE Q n (λi hi=>h i ad);obtain ⟨x,d⟩:=h n ad;refine ⟨l++[x],by simp [hl],λi hi=>?_⟩
  by_cases a:i<l.length
  ·rw [br9 a];exact c i a
  ·have b:i=n:=by simp at hi; omega
   subst b;rw [ch9 ad];simpa using d
def Sb {ds:List (DataW H)} {ks:List Nat} (hl:ds.length=ks.length) (h:∀ i,(hi:i<ks.length)->(a:i<ds.length)->ks[i]=Rows.uptoBulk ds[i]):Rows.uptoBulkAll ds=ks.sum:=by
 induction ds generalizing ks with
 | nil =>
  cases ks with
  | nil=>rfl
  | cons k ks=>simp at hl
 | cons d ds b =>
  cases ks with
  | nil=>simp at hl
  | cons k ks =>
   have h0:=h 0 ai ai;simp only [List.getElem_cons_zero] at h0
   have:=b (ks:=ks) (by simpa using hl) (λi hi a=>h (i+1) (by simpa using hi) (by simpa using a))
   unfold Rows.uptoBulkAll;rw [this,cu9,h0]
structure FT {α:Type} (Q:α->List Xab->Nat->Prop) (h:Hp) (sz:Nat) (p:Xac) (l c:Nat) (us:List α) (ks:List Nat):Prop where
 len:l=us.length
 CT:ks.length=us.length
 cells:∀ i,(hi:i<us.length)->(hk:i<ks.length)->∃ a cs,p=some a/\aH h (a.add (i*sz)) 0 cs/\Q us[i] cs ks[i]
 cap:l<=c
 YJ:c<=maxLen
 nil:p=none->c=0
def open_slice {α:Type} {e:TypeId} {sz:Nat} (C:P.underlying t=some (.slice e)) (hc:P.cellsOf e=sz) (Q:α->List Xab->Nat->Prop)
  (q:∀ (cs:List Xab) (y:DataW H × List MemPlace) (n:Nat),DataW.trod enc P W base sp held n e cs=some y->∃ x:α,Q x cs (Rows.uptoBulk y.1))
  (h:DataW.trod enc P W base sp held fuel t cs=some y) :
  ∃ (p:Xac) (l c:Nat) (us:List α) (ks:List Nat),cs=[.slice p l c]/\FT Q W.heap sz p l c us ks/\ks.sum+1<=Rows.uptoBulk y.1:=by
 rcases DataW.trod_slice C h with ⟨e0,f⟩ | ⟨a,len,cap,b,rest,n,_,e0,f,r,s,u,g,w,_,_⟩
 ·refine ⟨none,0,0,[],[],e0,⟨rfl,rfl,λi hi=>by simp at hi,am9 _,dw9 _,λ_=>rfl⟩,?_⟩;rw [f];simp only [Rows.uptoBulk];decide
 ·have j:∀ i,i<len->∃ x:α × Nat,∃ d,aH W.heap (a.add (i*sz)) 0 d/\Q x.1 d x.2/\∃ y,b[i]?=some y/\x.2=Rows.uptoBulk y.1:=by
   intro i hi;have he:=w i hi;cases k:b[i]? with
   | none=>rw [List.getElem?_eq_none_iff] at k; omega
   | some y =>
    rw [k,hc] at he;simp only [Option.bind_eq_some_iff] at he;obtain ⟨d,z,A⟩:=he;obtain ⟨hl,iB⟩:=X6 z;obtain ⟨x,D⟩:=q _ _ _ A;exact ⟨(x,Rows.uptoBulk y.1),d,iB,D,y,rfl,rfl⟩
  obtain ⟨xs,m,o⟩:=zE _ len j;refine ⟨some a,len,cap,xs.map (·.1),xs.map (·.2),e0,⟨by rw [ab9,m],by rw [ab9,ab9],λi hi hk=>?_,s,u,λh=>by cases h⟩,?_⟩
  ·rw [ab9] at hi;obtain ⟨d,h1,h2,_⟩:=o i hi;rw [aj9,aj9];exact ⟨a,d,rfl,h1,h2⟩
  ·have:=Sb (ds:=b.map (·.1)) (ks:=xs.map (·.2)) (by rw [ab9,ab9,g,m]) (λi hi B=>by
    rw [ab9] at hi B;obtain ⟨d,_,_,y,k,hk⟩:=o i hi;rw [ad9 B] at k;rw [aj9,aj9,hk,bb9 k])
   rw [f];simp only [Rows.uptoBulk];rw [this];omega
end
variable {O:Program} {H:World}
def RL {f:FuncId} {args:Array Xab} {R:Xab->Hp->Prop} (h:HC O f args H.heap R) (c:∀ v h',R v h'->Ext H.heap h'):Calls O f args H λe w'=>∃ v,e=.returned v/\Below H.heap.size H w'/\R v w'.heap:=by
 refine (h H rfl).mono λe w' ⟨v,hv,a,b⟩=>⟨v,hv,⟨a.os,a.tape,a.output,(c v _ b).size,λk hk=>(c v _ b).same k hk ai⟩,b⟩
def JI {a:World} (c:Below H.heap.size H a) {p:MemPlace} (d:p.block<H.heap.size):H.sameAt a p:=by
 cases p with
 | cell b off =>
  show a.cell? _=H.cell? _;unfold World.cell?;rw [c.block b d]
 | map b=>exact c.block b d
def aaN:ownKnob Tryz.prog.godebug=none:=av
def u9:Tryz.prog.underlying 9=some .string:=av
def u4:Tryz.prog.underlying 4=some .bool:=av
def u3:Tryz.prog.underlying 3=some (.int .i64):=av
def u5:Tryz.prog.underlying 5=some (.int .u8):=av
def aaD:Tryz.prog.underlying 202=some (.array 43 171):=av
def ZN:Tryz.prog.cellsOf 171=3:=av
def aaV:Tryz.prog.cellsOf 202=129:=av
def c9:Tryz.prog.cellsOf 9=1:=av
def c5:Tryz.prog.cellsOf 5=1:=av
def c3:Tryz.prog.cellsOf 3=1:=av
def aa5:xz Xaz 171=some [(9,0),(5,1),(3,2)]:=av
def Ga:List (DataW Unit):=match (Rows.laid_spandrel_isa_table:DataW Unit) with | .agg l=>l | _=>[]
def PQ:DataW Unit->Int
 | .agg [_,_,.lit (.int _ n)]=>n
 | _=>0
def T8:(Rows.laid_spandrel_isa_table:DataW Unit)=.agg Ga:=av
def Qw:Ga.map PQ=(List.range 43).map λk=>((px.getD k 0:Nat):Int):=av
theorem GB {α β:Type} (f:α->List β) (m:Nat) (a:∀ x,(f x).length=m):∀ l:List α,(l.flatMap f).length=l.length*m
 | []=>ai
 | x::l=>by rw [cf9,ae9,a,GB f m a l,cn9,Nat.succ_mul,Nat.add_comm]
def E2 (nm:Nat->Xaa) (by_:Nat->Int):(mJ nm by_).length=129:=by
 unfold mJ;rw [GB _ 3 (λx=>rfl),dx9]
def XY:DataW Unit->List UInt8
 | .agg [.lit (.string s),_,_]=>s
 | _=>[]
def X1:DataW Unit->Int
 | .agg [_,.lit (.int _ n),_]=>n
 | _=>0
def aau (k:Nat):List UInt8:=(wL k).data.toList
def Tf:Ga.map XY=(List.range 43).map λk=>aau k:=av
def Uo:Ga.map X1=(List.range 43).map λk=>xJ k:=av
variable {U:Nat}
def D8 {enc:TypeId × Xab->Unit} {base:Nat} {sp:Nat->Bool} {held:Bool} {cs:List Xab} {p:List MemPlace}
  (h:DataW.trod enc Xaz H base sp held U 202 cs=some (Rows.laid_spandrel_isa_table,p)):cs=mJ wL xJ:=by
 obtain ⟨xs,m,_,E,hl,A,F⟩:=DataW.trod_array aaD h;rw [aaV] at hl;have q:xs.map (·.1)=Ga:=by
  have:=as9 Prod.fst E
  rw [show (Rows.laid_spandrel_isa_table,p).1=DataW.agg Ga from T8] at this;simpa using this.symm
 have g:∀ i,i<43->(cs.drop (i*3)).take 3=[.string (wL i),.int .u8 (xJ i),vI ((px.getD i 0:Nat):Int)]:=by
  intro i hi;have h1:=F i hi;rw [ZN] at h1;rw [ad9 ad] at h1;obtain ⟨ys,n,r,l,t,f⟩:=gX aa5 h1;obtain ⟨G,I,B⟩:=f 0 _ rfl;obtain ⟨J,K,C⟩:=f 1 _ rfl;obtain ⟨L,M,D⟩:=f 2 _ rfl;rw [ZN] at l;generalize hc:(cs.drop (i*3)).take 3=c at *
  match c,l with
  | [Q,R,S],_ =>
   rw [show Tryz.prog.cellsOf (9,0).1=1 from c9] at B;rw [show Tryz.prog.cellsOf (5,1).1=1 from c5] at C;rw [show Tryz.prog.cellsOf (3,2).1=1 from c3] at D;obtain ⟨s,e0,u,_⟩:=DataW.trod_string u9 B;obtain ⟨b,N,w,_⟩:=DataW.trod_int u5 C;obtain ⟨k,O,y,_⟩:=DataW.trod_int u3 D;cases e0; cases N; cases O;have d:ys=[G,J,L]:=by
    apply dh9;intro j
    match j with
    | 0=>exact I
    | 1=>exact K
    | 2=>exact M
    | j+3=>rw [bv9 (by rw [t]; simp),bv9 ai]
   have h2:(xs.map (·.1))[i]?=some (xs[i]'ad).1:=by rw [cl9,ad9 ad]; rfl
   rw [q] at h2;have hk:k=((px.getD i 0:Nat):Int):=by
    have e:(Ga.map PQ)[i]?=some (PQ (xs[i]'ad).1):=by rw [cl9,h2]; rfl
    rw [Qw,cl9,dp9 hi] at e;rw [r,d,u,w,y] at e;exact (bb9 e).symm
   have o:b=xJ i:=by
    have e:(Ga.map X1)[i]?=some (X1 (xs[i]'ad).1):=by rw [cl9,h2]; rfl
    rw [Uo,cl9,dp9 hi] at e;rw [r,d,u,w,y] at e;exact (bb9 e).symm
   have P:s=wL i:=by
    have e:(Ga.map XY)[i]?=some (XY (xs[i]'ad).1):=by rw [cl9,h2]; rfl
    rw [Tf,cl9,dp9 hi] at e;rw [r,d,u,w,y] at e;exact AX (bb9 e).symm
   rw [hk,o,P]
 apply dh9;intro j
 by_cases V:j<129
 ·obtain ⟨a,b,z,o⟩:∃ a b,j=a*3+b/\b<3:=⟨j / 3,j % 3,ad,ad⟩
  subst z;unfold mJ;rw [xG (λk=>[Value.string (wL k),.int .u8 (xJ k),vI (px.getD k 0:Nat)]) 3 (λx=>rfl) _ a b o,dp9 ad];show cs[a*3+b]?=[Value.string (wL a),.int .u8 (xJ a),vI ((px.getD a 0:Nat):Int)][b]?
  have:=g a ad
  rw [<- this,eo9,ag9 o,ep9]
 ·have X:(mJ wL xJ).length=129:=E2 _ _;rw [bv9 ad,bv9 ad]
def EW {name:String} {cs:Array Xab} (a:O.globalNamed name=some U) (hv:H.var? O name=some cs):∃ e f,H.heap[U]?=some (.cells cs e f):=by
 unfold World.var? at hv;rw [a] at hv;have hv:(match (H.heap[U]?:Option Obj) with | some (.cells cs _ _)=>some cs | _=>none)=some cs:=hv;split at hv
 ·rename_i b e f c;cases hv;exact ⟨e,f,c⟩
 ·cases hv
def KI (h:laidMetH Xaz Rows.poolNumbersRow.laid H):zY H.heap/\eU H.heap:=by
 rw [MakeChecks.laidMetH_plain _ _ _ av] at h;obtain ⟨ps,⟨G,I,q,J,p0,K,r,s,t,u,⟨L,M,w,N,O,P,x,y,z,A,⟨Q,R,B,S,U,V,a,c,d,f,⟨X,Y,C,Z,p3,q3,b,g,i,j,_,_⟩,_⟩,_⟩,_⟩,_,_⟩:=h;obtain rfl:=bb9 ((show Tryz.prog.globalNamed _=some 1 from av).symm.trans a);obtain rfl:=bb9 ((show Tryz.prog.globalNamed _=some 0 from av).symm.trans b);have h2:(Tryz.prog.globals[1]?).map (·.type)=some 258:=av
 obtain rfl:=bb9 (h2.symm.trans c);have D:(Tryz.prog.globals[0]?).map (·.type)=some 202:=av
 obtain rfl:=bb9 (D.symm.trans g);have hc:=Lib.cells_of_tab (n:=20) (e:=175) (k:=.u64) (zs:=Lib.pow10Tab) av av av av f;have hr:=D8 j;obtain ⟨E,l,m⟩:=EW a d;obtain ⟨F,o,p⟩:=EW b i;refine ⟨⟨wL,xJ,F,o,?_⟩,⟨E,l,?_⟩⟩
 ·rw [p,<- hr]
 ·rw [m,<- hc]
def R0 (os:Os) (args:Array Xab):laidMetH Xaz Rows.poolNumbersRow.laid ((World.doorLaid Xaz 400 os).forCall (λ_ _=>0) ⟨#[],args,[]⟩).memory :=
 laidMetH_of_parts3 (fuel:=8) (laidMet_of_run' 8 av av) av av
end Go.Sx.Ob
