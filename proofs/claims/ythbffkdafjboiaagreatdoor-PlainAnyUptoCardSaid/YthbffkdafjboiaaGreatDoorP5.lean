/- Contracts over heaps, part 5. Condition: as each statement says. -/
import Derived.Test.YthbffkdafjboiaaGreatDoorP4
import Derived.Test.YthbffkdafjboiaaGreatDoorBtH
set_option linter.all false
set_option maxRecDepth 100000
set_option maxHeartbeats 4000000
namespace Go.Sx.Lk
open Go.Proofs Go.Sx.Ob
def JU {us:List cd} {w:LW} (A:rp us w) {n:Nat} (hn:n<us.length) (x:cn):w.bad n x=mh us n x:=by
 unfold LW.bad mh
 have:(fun t:Xaa × Nat=>(w.own n t.1).isNone)=fun t=>(jx us n t.1).isNone:=by
  funext t
  rw [A.own hn]
  all_goals (cases jx us n t.1 <;> rfl)
 rw [this]
def xm (w:LW) (n:Nat) (u:cd):ry w n u=(cK u).findSome? (w.bad n):=by
 unfold ry LW.yP cK;rw [bg9,bg9,List.findSome?_map,List.findSome?_map,List.findSome?_map,Option.or_assoc] <;> rfl
theorem Ee {us:List cd} {n:Nat}:∀ (l:List cn),(∀ x,x∈l->∀ t,t∈x.ai->¬ t.1.data.toList=[])->((qG us n l).data.toList=[]↔l.findSome? (mh us n)=none)/\∀ s,l.findSome? (mh us n)=some s->qG us n l=s
 | [],_=>by
  refine ⟨⟨fun _=>rfl,fun _=>rfl⟩,fun s hs=>by cases hs⟩
 | x::l,h=>by
  obtain ⟨j,i2⟩:=Ee l fun y u=>h y (YM _ u)
  have hx:=h x aj;have hu:qG us n (x::l)=if (dO us n x).data.toList=[] then qG us n l else dO us n x:=by
   unfold qG;rw [Zb,az9]
   by_cases e:(dO us n x).data.toList=[]
   ·rw [YC e];simp [e]
   ·rw [Yx e];simp [e]
  rw [List.findSome?_cons];cases d:mh us n x with
  | none =>
   have:dO us n x=⟨#[]⟩:=by unfold dO; rw [d]; rfl
   rw [hu,YC (by rw [this])];exact ⟨j,i2⟩
  | some s =>
   have h1:dO us n x=s:=by unfold dO; rw [d]; rfl
   have h2:¬ s.data.toList=[]:=by
    unfold mh at d;obtain ⟨t,F,rfl⟩:=ac9.1 d;exact hx t (List.mem_of_find?_eq_some F)
   rw [hu,Yx (by rw [h1]; exact h2),h1];refine ⟨⟨fun k=>absurd k h2,fun k=>by cases k⟩,fun r G=>by cases G; rfl⟩
def UA {us:List cd} {w:LW} (A:rp us w) (d:∀ u,u∈us->∀ x,x∈cK u->∀ t,t∈x.ai->¬ t.1.data.toList=[]) {n:Nat} (hn:n<us.length):A8 us n=(ry w n us[n]).map fun s=>(n,s):=by
 have j:w.bad n=mh us n:=funext fun x=>JU A hn x
 obtain ⟨h1,h2⟩:=Ee (us:=us) (n:=n) (cK us[n]) (d _ (YD hn));unfold A8;rw [Yv hn,ZM,xm,j];cases hs:(cK us[n]).findSome? (mh us n) with
 | none=>rw [YC (h1.2 hs)]; rfl
 | some s =>
  rw [hs] at h1;have h2:=h2 s hs;rw [Yx (fun k=>by cases h1.1 k),h2] <;> rfl
theorem Io {us:List cd} {w:LW} (A:rp us w) (F:∀ u,u∈us->∀ x,x∈cK u->∀ t,t∈x.ai->¬ t.1.data.toList=[]):∀ (k n:Nat),us.length-n=k->n<=us.length->(∀ j,j<n->A8 us j=none)->NC us=fN w n (us.drop n)
 | 0,n,hk,hn,G=>by
  have:n=us.length:=ad
  subst this;rw [ZJ];exact jR _ _ G
 | k+1,n,hk,hn,G=>by
  have d:n<us.length:=ad
  rw [Az w us n d];have hu:=UA A F d;cases J:ry w n us[n] with
  | some s =>
   rw [J] at hu;exact jZ _ _ _ n d G hu
  | none =>
   rw [J] at hu;refine Io A F k (n+1) ad d fun j O=>?_
   by_cases e:j=n
   ·subst e; exact hu
   ·exact G j ad
def P' {x:cn} (g:Good x):∀ t,t∈x.ai->¬ t.1.data.toList=[]:=by
 intro t d e;have h:=g.MX t d;rw [e] at h;cases h
def QF {x:cn} (g:Good x):∀ t,t∈x.ai->t.1.size<=32:=by
 intro t d;have h:=g.MX t d;unfold cX at h;simp only [Bool.and_eq_true] at h
 have:=Yz h.1.1.1.2
 simpa using this
def Pb (us:List cd):Except Fl LP->Prop
 | .error f=>f.qF≠0/\(fz us=f\/((fz us).qF=0/\(us.length<=64/\∃ w,rp us w/\fN w 0 us=none)/\∃ i q,dG (fe (dR us (bZ 0 us) us))=some i/\(et 0 us)[i]?=some q/\f=⟨24,q.1,q.2.1⟩))
 | .ok P=>(fz us).qF=0/\us.length<=64/\P.us=us/\P.D=vY P.w us/\rp us P.w/\fN P.w 0 us=none/\nv (vY P.w us)=none/\dG (fe (dR us (bZ 0 us) us))=none
def Sd {D:List (Xaa × cn)} {i:Nat} (h:nv D=some i):i<D.length:=by
 unfold nv at h;rw [YX] at h;exact h.1
def Ap {us:List cd} (sm:∀ u,u∈us->∀ x,x∈cK u->x.num<4294967296/\∀ t,t∈x.ai->t.2<4294967296):Pb us (me us):=by
 unfold me
 by_cases h0:us.length=0
 ·rw [YC h0];refine ⟨aj,.inl ?_⟩;unfold fz;rw [YC h0]
 rw [Yx h0]
 by_cases F:64<us.length
 ·rw [YC F];refine ⟨aj,.inl ?_⟩;unfold fz;rw [Yx h0,YC F]
 rw [Yx F];have d:fz us=match us.findIdx? fun u=>decide (eO u≠0) with
  | some n=>⟨31,n,dJ⟩
  | none=>match Ea us with
   | some q=>⟨22,q.1,q.2⟩
   | none=>match NC us with
    | some q=>⟨23,q.1,q.2⟩
    | none=>⟨0,0,dJ⟩:=by
  unfold fz;rw [Yx h0,Yx F] <;> rfl
 cases U:us.findIdx? fun u=>decide (eO u≠0) with
 | some n =>
  rw [U] at d;exact ⟨aj,.inl d⟩
 | none =>
  rw [U] at d;have V:∀ u,u∈us->eO u=0:=by
   intro u hu;rw [Ze] at U
   have:=YG (U u hu)
   omega
  have i0:=SE V;have X:∀ s,(nC 0 us Sz).gl s=none:=by
   have e1:∀ (n sec:Nat) (l:List cB) (i:Nat) (w:LW),(iJ n sec i l w).gl=w.gl:=by
    intro n sec l
    induction l with
    | nil=>intro i w; rfl
    | cons x l J =>
     intro i w;rw [iJ,J];unfold jB;split <;> rfl
   have e2:∀ (n:Nat) (l:List rO) (w:LW),(l.foldl (uO n) w).gl=w.gl:=by
    intro n l
    induction l with
    | nil=>intro w; rfl
    | cons x l J=>intro w; rw [Y6,J]; rfl
   have e3:∀ (l:List cd) (n:Nat) (w:LW),(nC n l w).gl=w.gl:=by
    intro l
    induction l with
    | nil=>intro n w; rfl
    | cons u l J =>
     intro n w;rw [nC,J];unfold FO;rw [e2,e1,e1]
   intro s;rw [e3] <;> rfl
  have hm:=EG us us.length 0 (nC 0 us Sz) ad (bj9 _) (fun s=>by rw [X]; rfl) (fun j Y=>absurd Y ad);rw [List.drop_zero] at hm;simp only;cases hw:kQ 0 us (nC 0 us Sz) with
  | error q =>
   rw [hw] at hm;have hm:Ea us=some q:=hm;rw [hm] at d;exact ⟨aj,.inl d⟩
  | ok w =>
   rw [hw] at hm;obtain ⟨hd,hg⟩:Ea us=none/\∀ s,w.gl s=P5 us s:=hm
   rw [hd] at d;have A:rp us w:=⟨V,i0.meet hw,hg⟩
   have Z:∀ u,u∈us->∀ x,x∈cK u->∀ t,t∈x.ai->¬ t.1.data.toList=[]:=fun u hu x hx=>P' (AP (V u hu) (sm u hu) x hx)
   have hu:=Io A Z us.length 0 ad (bj9 _) (fun j Y=>absurd Y ad);rw [List.drop_zero] at hu;rw [hu] at d;cases G:fN w 0 us with
   | some q =>
    rw [G] at d;simp only [G];exact ⟨aj,.inl d⟩
   | none =>
    rw [G] at d;have hz:(fz us).qF=0:=by rw [d]
    have O:=A.VD G;cases hc:nv (vY w us) with
    | some i =>
     have hi:=Sd hc;have hi:i<(et 0 us).length:=by unfold vY at hi; rwa [Yu] at hi
     simp only [G,hc];refine ⟨aj,.inr ⟨hz,⟨ad,w,A,G⟩,i,(et 0 us)[i],by rw [<- O,hc],Yv hi,?_⟩⟩;have hgd:((et 0 us).map fun q=>(q.1,q.2.1)).getD i (0,dJ)=((et 0 us)[i].1,(et 0 us)[i].2.1):=by
      rw [Zh,Zj,Yv hi] <;> rfl
     rw [hgd]
    | none =>
     simp only [G,hc];exact ⟨hz,ad,rfl,rfl,A,G,hc,by rw [<- O,hc]⟩
def Rn (us:List cd):List Xaa:=((bZ 0 us).map AF++(et 0 us).map jS).map (PJ (bZ 0 us))
def FI {us:List cd} {w:LW} (sm:Jk us) (G:us.length<=64) (A:rp us w) (Z:fN w 0 us=none):No us (Rn us):=by
 have r:Gb us:=⟨A.right,G⟩
 have hg:∀ u,u∈us->∀ x,x∈cK u->Good x:=fun u hu=>AP (A.right u hu) (sm.num u hu)
 have J:∀ n u,us[n]?=some u->∀ x,x∈cK u->w.bad n x=none:=by
  intro n u hu x hx;have hn:=(YO.1 hu).1;have h1:=mD us 0 Z n hn;have j:us[n]=u:=(YO.1 hu).2;rw [Y7,j,xm,Zx] at h1;exact h1 x hx
 have hown:∀ n u,us[n]?=some u->∀ x,x∈cK u->∀ t,t∈x.ai->∃ o,jx us n t.1=some o:=by
  intro n u hu x hx t F;obtain ⟨k,hk⟩:=An (J n u hu x hx) t F;rw [A.own (YO.1 hu).1] at hk;obtain ⟨o,X,_⟩:=ac9.1 hk;exact ⟨o,X⟩
 have d:∀ n u,us[n]?=some u->∀ x,x∈cK u->OU us n x:=by
  intro n u hu x hx;have hm:=Zp hu;have g:=hg u hm x hx;refine ⟨g.nf,g.num,?_,hown n u hu x hx,fun t F=>?_⟩
  ·have:=sm.len hm hx
   omega
  ·have:=QF g t F
   omega
 have Y:∀ n u,us[n]?=some u->∀ x,x∈cK u->∀ t,t∈x.ai->dC us (bZ 0 us) n t.1∈Rn us:=by
  intro n u hu x hx t F;obtain ⟨o,X⟩:=hown n u hu x hx t F;unfold dC;rw [X,Option.getD_some];exact YT (f:=PJ (bZ 0 us)) (a:=(o,t.1)) (YN.2 (Jr A.right X))
 have O:∀ u:cd,∀ x,x∈u.text->x.e∈cK u:=fun u x hx=>Y3 _ (Y3 _ (YT hx))
 have U:∀ u:cd,∀ x,x∈u.data->x.e∈cK u:=fun u x hx=>Y3 _ (Y8 _ (YT hx))
 have V:∀ u:cd,∀ e,e∈u.bh->e.2∈cK u:=fun u e j=>Y8 _ (YT j)
 refine ⟨K9.of G A.right,?_,fun n u hu e j=>⟨d n u hu _ (V u e j),?_,?_⟩,fun n u hu=>⟨fun x hx=>⟨d n u hu _ (O u x hx),Y n u hu _ (O u x hx)⟩,fun x hx=>⟨d n u hu _ (U u x hx),Y n u hu _ (U u x hx)⟩⟩,?_,?_,?_,?_⟩
 ·have:=r.ef; omega
 ·exact ⟨n,CR hu (Y8 _ (YT j))⟩
 ·have h1:=(wZ (A.right u (Zp hu))).2;unfold tN at h1;simp only [Bool.and_eq_true] at h1;have h2:=(tY h1.1.2 e j).1;unfold cX at h2;simp only [Bool.and_eq_true] at h2;have h3:=Yz h2.1.1.1.2;have h4:e.1.size<=32:=by simpa using h3
  omega
 ·rw [Lx];exact (A.two Z).symm.Vh
 ·have:=r.eqs; omega
 ·unfold Rn;rw [Yu,Yy,Yu,Yu];have h1:=r.ef;have h2:=r.eqs;omega
 ·intro y hy t F;unfold dR at hy;obtain ⟨q,hq,rfl⟩:=YF.1 hy;obtain ⟨u,hu,j⟩:=Dz hq;obtain ⟨p,hp,e⟩:=Fw F;rw [e];exact Y q.1 u hu _ (V u q.2 j) p hp
theorem gP {h:Hp} {a:Xax}:∀ (n:Nat) (vs:List Xab) (i:Nat),aJ h a i vs->aJ h a (i+n) (vs.drop n)
 | 0,vs,i,hc=>hc
 | n+1,[],i,hc=>trivial
 | n+1,v::vs,i,hc=>by
  have:=gP n vs (i+1) hc.2
  rw [show i+1+n=i+(n+1) from ad] at this;exact this
theorem iY {h:Hp} {a:Xax}:∀ (vs:List Xab) (o i:Nat),aJ h a (o+i) vs->aJ h (a.add o) i vs
 | [],_,_,_=>trivial
 | v::vs,o,i,h1=>⟨by have:=h1.1; rw [add_add]; exact this,iY vs o (i+1) h1.2⟩
theorem eJ {h:Hp} {a:Xax}:∀ (n:Nat) (vs:List Xab) (i:Nat),aJ h a i vs->aJ h a i (vs.take n)
 | 0,vs,i,hc=>trivial
 | n+1,[],i,hc=>trivial
 | n+1,v::vs,i,hc=>⟨hc.1,eJ n vs (i+1) hc.2⟩
def _root_.Go.Sx.q8.rM {h h':Hp} {b u:Nat} {p q:Xac} {l c m d sz:Nat} {e:TypeId} {ms:List cL} {xs:List (List Xab)} (o:q8 h b p l c ms) (t:SL h u e sz q m d xs) (k:Ch (aR q) h h') (h1:e≠100) (h2:e≠117):q8 h' b p l c ms :=
 ⟨o.out.bP k (fun i hi hm=>vp t o.out h1 i hm hi),fun m hm=>(o.fq m hm).bP k (fun i hi j=>vp t (o.fq m hm) h2 i j hi),o.ap,o.dj⟩
def qX (of:Xaa->Option cn) (x:cB):cB:={ x with e:=de of x.e }
def Tw (u:Xac) (j:Nat) (F:Xac) (G J lv:Nat) (k:T):T :=
 T.loop [aP] [.int .i64 (0:Int)] <| fun (d:Int) =>
     bz d j
     (T.need (dU d j) <|
     T.bi u <| fun (O:Xax) =>
     T.ah ((O.add (aK d 10)).add 7) [.slice 117,.int .u32] <| fun (U:Xac) (V:Nat) (X:Nat) (Y:Int) =>
     bJ 38 [.agg #[.slice U V X,aH Y],.slice F G J] false [(true,[.slice 117,.int .u32])] <| fun (Z:Xac) (l65:Nat) (l66:Nat) (n67:Int) =>
     T.need (dU d j) <|
     T.bi u <| fun (a68:Xax) =>
     T.aC ((a68.add (aK d 10)).add 7) [.slice Z l65 l66,aH n67] <|
     T.again lv [.int .i64 (bm (d+(1:Int)))])
     k
structure Lj (h:Hp) (b:Nat) (p:Xac) (l c:Nat) (ms:List cL):Prop where
 own:q8 h b p l c ms
 ok:EqsOk ms
 het:∀ e,e∈ms->e.x.ai.length<=2^20
 Vm:(ms.flatMap (·.x.ai)).length<=2^39
 len:ms.length<=2^20
def Lj.ext {h h':Hp} {b:Nat} {p:Xac} {l c:Nat} {ms:List cL} (s:Lj h b p l c ms) (k:Ext h h'):Lj h' b p l c ms:=⟨s.own.an k aj,s.ok,s.het,s.Vm,s.len⟩
def Lj.rM {h h':Hp} {b j:Nat} {p q:Xac} {l c m d sz:Nat} {e:TypeId} {ms:List cL} {xs:List (List Xab)} (o:Lj h b p l c ms) (t:SL h j e sz q m d xs) (k:Ch (aR q) h h') (h1:e≠100) (h2:e≠117):Lj h' b p l c ms :=
 ⟨o.own.rM t k h1 h2,o.ok,o.het,o.Vm,o.len⟩
def Ip (ws:List (cr × cB)):Prop:=∀ u,u∈ws->u.2.e.ai.length<=2^20/\u.2.e.num<4294967296/\∀ t,t∈u.2.e.ai->t.1.size<=maxLen
def Se {L:Lp} {K:Xab->Hp->Prop} {h:Hp} {b N b2:Nat} {S:Nat->kx} {V:Xac} {X G lv:Nat} {k:T} {ms:List cL} (hlv:lv=L.length) (s:lE h b N S) {j:Nat} (hj:j<N) (U:Lj h b2 V X G ms) (ok:Ip (S j).ws) (hbig:(S j).ws.length<=2^20)
  (hk:∀ h' S' J,lE h' b N S'->(∀ i,i≠j->S' i=S i)->(S' j).s=(S j).s->(S' j).ws.map (·.2)=(S j).ws.map (fun u=>qX (cy ms) u.2)->Ch (aR (S j).s.p) h h'->Lj h' b2 V X G ms->k (L++[J]) K h') :
  Tw (S j).s.p (S j).s.l V X G lv k L K h:=by
 subst hlv;unfold Tw bz aK bJ bm dU aH aP;have hl0:(S j).s.l=(S j).ws.length:=by have:=(s.sec j hj).out.1; rwa [Yu] at this
 generalize hws:(S j).ws=ws at *;generalize hl:(S j).s.l=l at *;subst hl0;refine aS (cs:=[(false,[.int .i64])]) (fun y m' h'=>∃ (i:Nat) (S':Nat->kx),y.1=(i:Int)/\i<=ws.length/\m'=ws.length-i/\lE h' b N S'/\(∀ i,i≠j->S' i=S i)/\(S' j).s=(S j).s/\(S' j).ws.length=ws.length/\(∀ m,(hm:m<ws.length)->(hm':m<(S' j).ws.length)->if m<i then (S' j).ws[m].2=qX (cy ms) ws[m].2 else (S' j).ws[m]=ws[m])/\Ch (aR (S j).s.p) h h'/\Lj h' b2 V X G ms) ((0:Int),()) ws.length rfl
  ⟨0,S,rfl,ad,ad,s,fun _ _=>rfl,rfl,by rw [hws],fun m hm hm'=>by rw [Yx ad]; simp only [hws],Ch.refl _ _,U⟩ ?_
 clear s U;rintro ⟨n58,⟨⟩⟩ m' h1 ⟨i,S',hi,hil,rfl,s,so,ss,sl,sw,k1,U⟩;simp only at hi;subst hi;refine ak ?_;refine aM (fun q=>?_) (fun q=>?_)
 ·have hlt:i<ws.length:=ad
  have F:i<(S' j).ws.length:=ad
  have sj:=s.sec j hj;have Y:=sw i hlt F;rw [Yx ad] at Y;have Z:=ok ws[i] (YD hlt);have hin:=sj.fq _ (YD F);obtain ⟨a,ha,hc⟩:=sj.out.cells (i:=i) (by simpa using F);rw [YE,Y] at hc;rw [Y] at hin;rw [ss] at ha;generalize hu:ws[i]=u at Z hin hc;refine ax ⟨ad,ad⟩ (av ha ?_);rw [show Int.toNat (i:Int)=i from ad];refine ay ((u.1.p,u.1.l,u.1.c),(u.2.e.num:Int),()) (eJ 2 [_,_,_] 0 (iY _ 7 0 (gP 7 _ 0 hc))) (ak ?_);refine aI (MM (c:=u.1.c) (d:=G) (wN hin) (CY U.own) U.ok U.het U.Vm U.len Z.1 Z.2.2) ?_;rintro _ h2 ⟨⟨p',l',c',rfl,s2⟩,e2⟩;rw [yd (eR _ _) (lZ Z.2.1)] at s2 ⊢;refine ⟨((p',l',c'),((de (cy ms) u.2.e).num:Int),()),rfl,ak ?_⟩;refine ax ⟨ad,ad⟩ (av ha ?_);have s':=s.ext e2;have sj':=s'.sec j hj;have so2:=sj'.out;refine SL.part (P:=Tryz.prog) so2 (i:=i) (by rw [Yu]; exact F) (o:=7) aj (by simp [cU]) (by rw [ss]; exact ha) ?_;intro h3 s3 k3 z3;have hnew:((S' j).ws.map tJ).set i (lh (((S' j).ws.map tJ)[i]'(by rw [Yu]; exact F)) 7 [.slice p' l' c',.int .u32 ((de (cy ms) u.2.e).num:Int)])=((S' j).ws.set i (⟨p',l',c'⟩,qX (cy ms) u.2)).map tJ:=by
   rw [ax9,YE,Y,hu] <;> rfl
  rw [hnew] at s3;have sp:=s'.put hj F (q:=(⟨p',l',c'⟩,qX (cy ms) u.2)) (s2.mono (by have:=s.sec j hj; exact show b<=h1.size from (by have:=(sj.out.cv (i:=a.block) (by rw [ss,ha]; simp [aR])); omega))) s3 k3;have hw:=gu i;rw [hw];rw [ss] at k3;refine aG (cs:=[(false,[.int .i64])]) (((i+1:Nat):Int),()) (ws.length-(i+1)) (by rw [Y5 (YI _),ao9]; rfl) ad rfl ?_;refine ⟨i+1,_,rfl,ad,rfl,sp,fun m hm=>?_,?_,?_,fun m hm hm'=>?_,(k1.trans (e2.mono aj) (fun i hi _=>hi)).trans k3 (fun i hi _=>hi),(U.ext e2).rM so2 (by rw [ss]; exact k3) cm cm⟩
  ·unfold ln;rw [Yx hm];exact so m hm
  ·unfold ln;rw [YC rfl];exact ss
  ·unfold ln;rw [YC rfl,Zy];exact sl
  ·have e1:(ln S' j ⟨(S' j).s,(S' j).ws.set i (⟨p',l',c'⟩,qX (cy ms) u.2)⟩ j).ws=(S' j).ws.set i (⟨p',l',c'⟩,qX (cy ms) u.2):=by
    unfold ln;rw [YC rfl]
   simp only [e1]
   by_cases hmi:m=i
   ·subst hmi;rw [YC ad,List.getElem_set_self,hu]
   ·have O:m<(S' j).ws.length:=ad
    have:=sw m hm O
    rw [List.getElem_set_ne (Ne.symm hmi)]
    by_cases hlt2:m<i
    ·rw [YC hlt2] at this;rw [YC ad];exact this
    ·rw [Yx hlt2] at this;rw [Yx ad];exact this
 ·have hi:i=ws.length:=ad
  subst hi;refine hk h1 S' _ s so ss ?_ k1 U;refine bq9 (by rw [Yu,Yu]; exact sl) fun m hm1 O=>?_
  rw [Yu] at hm1 O
  have:=sw m O hm1
  rw [YC O] at this;rw [YE,YE];exact this
structure pa (h:Hp) (B:Nat) (w:LW) (usl lb:cr) (sp:Int) (N M:Nat) (S:Nat->kx):Prop where
 box:PA h (B+3) usl lb B (B+1) (B+2) sp
 maps:LM h B (B+1) (B+2) w
 oc:SL h (B+4) 112 4 lb.p lb.l lb.c (w.lb.map AT)
 un:SL h (B+4) 47 4 usl.p usl.l usl.c (mY S N)
 xp:lE h (B+4) M S
section
variable {h h':Hp} {B N M:Nat} {w:LW} {usl lb:cr} {sp:Int} {S:Nat->kx}
def pa.nh {ws:List Nat} (s:pa h B w usl lb sp N M S) (k:Ch ws h h') (hw:∀ i,i∈ws->i<B):pa h' B w usl lb sp N M S :=
 ⟨s.box.an k (fun hm=>by have:=hw _ hm; omega),s.maps.an k (fun hm=>by have:=hw _ hm; omega) (fun hm=>by have:=hw _ hm; omega) (fun hm=>by have:=hw _ hm; omega),
  s.oc.bP k (fun i hi hm=>by have:=(s.oc.cv hi).1; have:=hw _ hm; omega),s.un.bP k (fun i hi hm=>by have:=(s.un.cv hi).1; have:=hw _ hm; omega),s.xp.nh k (fun i hi=>by have:=hw _ hi; omega)⟩
def pa.ext (s:pa h B w usl lb sp N M S) (k:Ext h h'):pa h' B w usl lb sp N M S:=s.nh k aj
def pa.lt (s:pa h B w usl lb sp N M S):B+4<=h.size:=by have:=s.box.lt; omega
def pa.rM {j sz:Nat} {e:TypeId} {q:Xac} {m d:Nat} {xs:List (List Xab)} (s:pa h B w usl lb sp N M S) (t:SL h j e sz q m d xs) (k:Ch (aR q) h h') (u:B+4<=j) (h1:e≠112) (h2:e≠47) (h3:e≠71) (h4:e≠117):pa h' B w usl lb sp N M S:=by
 have hw:∀ i,i∈aR q->B+4<=i:=fun i hi=>by have:=(t.cv hi).1; omega
 exact ⟨s.box.an k (fun hm=>by have:=hw _ hm; omega),s.maps.an k (fun hm=>by have:=hw _ hm; omega) (fun hm=>by have:=hw _ hm; omega) (fun hm=>by have:=hw _ hm; omega),
  s.oc.bP k (fun i hi hm=>vp t s.oc h1 i hm hi),s.un.bP k (fun i hi hm=>vp t s.un h2 i hm hi),s.xp.rM t k h3 h4⟩
def pa.Xq {S':Nat->kx} {j:Nat} (s:pa h B w usl lb sp N M S) (d:j<M) (s':lE h' (B+4) M S') (hs:∀ i,(S' i).s=(S i).s) (k:Ch (aR (S j).s.p) h h'):pa h' B w usl lb sp N M S':=by
 have t:=(s.xp.sec j d).out;have hw:∀ i,i∈aR (S j).s.p->B+4<=i:=fun i hi=>(t.cv hi).1
 have u:mY S' N=mY S N:=by
  unfold mY;apply Zm;intro i _;unfold xV;rw [hs,hs]
 exact ⟨s.box.an k (fun hm=>by have:=hw _ hm; omega),s.maps.an k (fun hm=>by have:=hw _ hm; omega) (fun hm=>by have:=hw _ hm; omega) (fun hm=>by have:=hw _ hm; omega),
  s.oc.bP k (fun i hi hm=>vp t s.oc cm i hm hi),by rw [u]; exact s.un.bP k (fun i hi hm=>vp t s.un cm i hm hi),s'⟩
end
def CT (of:Xaa->Option cn) (S S':Nat->kx) (m:Nat):Prop:=∀ k,(S' k).s=(S k).s/\if k<m then (S' k).ws.map (·.2)=(S k).ws.map (fun u=>qX of u.2) else S' k=S k
def CT.step {of:Xaa->Option cn} {S S' F:Nat->kx} {m:Nat} (d:CT of S S' m) (h1:∀ i,i≠m->F i=S' i) (h2:(F m).s=(S' m).s) (h3:(F m).ws.map (·.2)=(S' m).ws.map (fun u=>qX of u.2)):CT of S F (m+1):=by
 intro k;obtain ⟨e1,e2⟩:=d k
 by_cases hk:k=m
 ·subst hk;rw [Yx ad] at e2;rw [YC ad];exact ⟨h2.trans e1,by rw [h3,e2]⟩
 ·rw [h1 k hk];refine ⟨e1,?_⟩
  by_cases j:k<m
  ·rw [YC j] at e2;rw [YC ad];exact e2
  ·rw [Yx j] at e2;rw [Yx ad];exact e2
def Ua (a1 a7:Xax) (J:Xac) (O U:Nat):T :=
    (T.ah a7 [.slice 47] <| fun (V:Xac) (F:Nat) (l28:Nat) =>
    T.loop [aP] [.int .i64 (0:Int)] <| fun (d:Int) =>
    bz d F
    (T.need (dU d F) <|
    T.bi V <| fun (X:Xax) =>
    T.ah (X.add (aK d 4)) [.slice 71,.slice 71,.slice 100,.slice 9] <| fun (Y:Xac) (Z:Nat) (l33:Nat) (p34:Xac) (l35:Nat) (l36:Nat) (p37:Xac) (l38:Nat) (l39:Nat) (p40:Xac) (l41:Nat) (l42:Nat) =>
    T.new [bq,bq,bq,bq] 47 <| fun (u:Xax) =>
    T.aC u [.slice Y Z l33,.slice p34 l35 l36,.slice p37 l38 l39,.slice p40 l41 l42] <|
    T.ah u [.slice 71] <| fun (p44:Xac) (l45:Nat) (l46:Nat) =>
    T.ah (u.add 1) [.slice 71] <| fun (p47:Xac) (l48:Nat) (l49:Nat) =>
    bU (Instr.buildSlice 79 2 #[(0,.slice p44 l45 l46),(1,.slice p47 l48 l49)]) false [dl] <| fun (p50:Xac) (G:Nat) (l52:Nat) =>
    T.loop [aP] [.int .i64 (0:Int)] <| fun (j:Int) =>
    bz j G
     (T.need (dU j G) <|
     T.bi p50 <| fun (a54:Xax) =>
     T.ah (a54.add (aK j 1)) [.slice 71] <| fun (p55:Xac) (l56:Nat) (l57:Nat) =>
     Tw p55 l56 J O U 4 (T.again 3 [.int .i64 (bm (j+(1:Int)))]))
     (T.again 2 [.int .i64 (bm (d+(1:Int)))]))
    (T.aC a1 [.int .i64 (0:Int),.int .i64 (0:Int),bX] <|
    T.ah a1 [.int .i64,.int .i64,.string] <| fun (n30:Int) (n31:Int) (Ti:Xaa) =>
    bn #[.pointer (some a7),.agg #[.int .i64 n30,.int .i64 n31,.string Ti]]))
def Q6 {J0 J1:List Xab->Hp->Prop} {K:Xab->Hp->Prop} {h0 h:Hp} {A B N b2:Nat} {w:LW} {usl lb:cr} {sp:Int} {S:Nat->kx} {G:Xac} {O U:Nat} {ms:List cL}
  (hA:h0.size<=A) (hAB:A<B) (e0:Ext h0 h) (Y:bI h A 54 [.int .i64 0,.int .i64 0,.string ⟨#[]⟩]) (s:pa h B w usl lb sp N (2*N) S) (sv:Lj h b2 G O U ms) (hN:N<=2^20)
  (ok:∀ j,j<2*N->Ip (S j).ws/\(S j).ws.length<=2^20)
  (hk:∀ h' S',Ext h0 h'->pa h' B w usl lb sp N (2*N) S'->CT (cy ms) S S' (2*N)->K (.tuple #[ptr (B+3),.agg #[.int .i64 0,.int .i64 0,.string ⟨#[]⟩]]) h') :
  Ua ⟨A,0,none⟩ ⟨B+3,0,none⟩ G O U [J0,J1] K h:=by
 unfold Ua bz aK bU bm dU bn bq bX aP dl;refine af s.box ((usl.p,usl.l,usl.c),()) rfl (ak ?_);have hul:usl.l=N:=by have:=s.un.1; rwa [jG] at this
 rw [hul];refine aS (cs:=[(false,[.int .i64])]) (fun y m' h'=>∃ (n:Nat) (S':Nat->kx),y.1=(n:Int)/\n<=N/\m'=N-n/\Ext h0 h'/\bI h' A 54 [.int .i64 0,.int .i64 0,.string ⟨#[]⟩]/\pa h' B w usl lb sp N (2*N) S'/\CT (cy ms) S S' (2*n)/\Lj h' b2 G O U ms) ((0:Int),()) N rfl
  ⟨0,S,rfl,ad,ad,e0,Y,s,fun k=>⟨rfl,by rw [Yx ad]⟩,sv⟩ ?_
 clear s sv Y e0;rintro ⟨n29,⟨⟩⟩ m' h1 ⟨n,S1,hn,hnN,rfl,e1,Y,s,d,sv⟩;simp only at hn;subst hn;refine ak ?_;refine aM (fun q=>?_) (fun q=>?_)
 ·have hlt:n<N:=ad
  obtain ⟨a,ha,hc⟩:=s.un.cells (i:=n) (by rw [jG]; exact hlt);rw [CI] at hc;refine ax ⟨ad,ad⟩ (av ha ?_);rw [show Int.toNat (n:Int)=n from ad];generalize hta:(S1 (2*n)).s=F;generalize htb:(S1 (2*n+1)).s=u;have hc:aJ h1 (a.add (n*4)) 0 [F.v,u.v,mM.v,mM.v]:=by rw [<- hta,<- htb]; exact hc
  refine ay ((F.p,F.l,F.c),(u.p,u.l,u.c),(none,0,0),(none,0,0),()) hc (ak ?_);refine br ?_;intro h2 V e2 z2;refine aw V rfl aj ?_;intro h3 b3 k3 z3;have b3:bI h3 h1.size 47 [F.v,u.v,mM.v,mM.v]:=b3;have e13:Ext h1 h3:=bQ e2 k3;refine af b3 ((F.p,F.l,F.c),()) rfl (ak ?_);rw [aE];refine af b3 ((u.p,u.l,u.c),()) rfl (ak ?_);refine jC Px Xa ad ad (OQ F.p F.l F.c u.p u.l u.c) ?_;intro h4 b4 e4 z4;have b4:bI h4 h3.size 43 [F.v,u.v]:=b4;have Z:=e13.trans e4;have hsec:∀ k,k<2->([F.v,u.v]:List Xab).drop k=(S (2*n+k)).s.v::([F.v,u.v]:List Xab).drop (k+1):=by
   intro k hk;have h0:∀ k,(S1 k).s=(S k).s:=fun k=>(d k).1
   have:k=0\/k=1:=ad
   rcases this with rfl | rfl
   ·rw [<- h0]; show [F.v,u.v]=(S1 (2*n)).s.v::[u.v]; rw [hta]
   ·rw [<- h0]; show [u.v]=(S1 (2*n+1)).s.v::[]; rw [htb]
  have hb3:∀ j,j<2*N->h3.size∉aR (S j).s.p:=by
   intro j hj hm;rw [<- (d j).1] at hm
   have:=((s.xp.sec j hj).out.cv hm).2
   have:=e13.size
   omega
  refine aS (cs:=[(false,[.int .i64])]) (fun y m' h'=>∃ (j:Nat) (S':Nat->kx),y.1=(j:Int)/\j<=2/\m'=2-j/\Ext h0 h'/\bI h' A 54 [.int .i64 0,.int .i64 0,.string ⟨#[]⟩]/\pa h' B w usl lb sp N (2*N) S'/\CT (cy ms) S S' (2*n+j)/\Lj h' b2 G O U ms/\bI h' h3.size 43 [F.v,u.v]) ((0:Int),()) 2 rfl
   ⟨0,S1,rfl,ad,ad,e1.trans Z,Y.an Z aj,s.ext Z,d,sv.ext Z,b4⟩ ?_
  clear s sv Y d hta htb hc ha b3;rintro ⟨n53,⟨⟩⟩ m' h5 ⟨j,S2,hj,hj2,rfl,e5,Y,s,d,sv,b5⟩;simp only at hj;subst hj;refine ak ?_;refine aM (fun q=>?_) (fun q=>?_)
  ·have hj2:j<2:=ad
   refine ax ⟨ad,ad⟩ (av rfl ?_);rw [show Int.toNat (j:Int)=j from ad,aE];have hsj:=(d (2*n+j)).1;have hSe:S2 (2*n+j)=S (2*n+j):=by
    have:=(d (2*n+j)).2
    rwa [Yx ad] at this
   refine af b5 (((S (2*n+j)).s.p,(S (2*n+j)).s.l,(S (2*n+j)).s.c),()) (by
    have:=hsec j hj2
    rw [show 0+j*1=j from ad,this];rfl) ?_
   refine ak ?_;rw [<- hSe];have X:2*n+j<2*N:=ad
   have okj:=ok _ X;rw [<- hSe] at okj;have key:=fun (L:Lp) (hL:4=L.length)=>@Se L K h5 (B+4) (2*N) b2 S2 G O U 4 (T.again 3 [.int .i64 (IntKind.wrap .i64 ((j:Int)+(1:Int)))]) ms hL s.xp (2*n+j) X sv okj.1 okj.2
   refine key _ ?_ ?_
   ·rfl
   clear key;intro h6 S3 J s6 so ss sw k6 sv6;have hw:=gu j;rw [hw];have hss:∀ i,(S3 i).s=(S2 i).s:=by
    intro i
    by_cases hi:i=2*n+j
    ·rw [hi]; exact ss
    ·rw [so i hi]
   have hblk:∀ i,i∈aR (S2 (2*n+j)).s.p->B+4<=i:=fun i hi=>((s.xp.sec _ X).out.cv hi).1
   have z0:=e1.size;refine aG (cs:=[(false,[.int .i64])]) (((j+1:Nat):Int),()) (2-(j+1)) rfl ad rfl ?_;refine ⟨j+1,S3,rfl,ad,rfl,Ch.trans e5 k6 (fun i hi hl=>by have:=hblk i hi; omega),Y.an k6 (fun hm=>by have:=hblk _ hm; omega),s.Xq X s6 hss k6,d.step so ss sw,sv6,b5.an k6 (by rw [hSe]; exact hb3 _ X)⟩
  ·have hj:j=2:=ad
   subst hj;have hw:=gu n;rw [hw];refine aG (cs:=[(false,[.int .i64])]) (((n+1:Nat):Int),()) (N-(n+1)) rfl ad rfl ?_;exact ⟨n+1,S2,rfl,ad,rfl,e5,Y,s,d,sv⟩
 ·have hn:n=N:=ad
  subst hn;refine aw Y rfl aj ?_;intro h2 V k2 z2;have V:bI h2 A 54 [.int .i64 0,.int .i64 0,.string ⟨#[]⟩]:=V;refine af V ((0:Int),(0:Int),(⟨#[]⟩:Xaa),()) rfl ?_;exact hk h2 S1 (bQ e1 k2) (s.nh k2 (by simp; omega)) d
def EM (k:Ky):List Xab:=[.int .i64 (k.1:Int),.string k.2]
def UM:Tryz.prog.underlying 96=some (.slice 105):=az
def Ym:(Tryz.prog.info? 105).map (fun i=>(i.zero,i.size,i.bytes))=some (some (.agg #[.int .i64 0,.string ⟨#[]⟩]),2,24):=az
def TL (n:Int) (s:Xaa):Instr.fill (fun j=>some (j*2,2)) ((Array.range (1*2)).map ((Value.agg #[.int .i64 0,.string ⟨#[]⟩]).cells[· % (Value.agg #[.int .i64 0,.string ⟨#[]⟩]).cells.size]!)) [(0,.agg #[.int .i64 n,.string s])]=some ([.int .i64 n,.string s]:List Xab).toArray:=az
def BP {h:Hp} {b x:Nat} {e e':TypeId} {sz:Nat} {p:Xac} {l c:Nat} {xs:List (List Xab)} {ys:List Xab} (s:SL h b e sz p l c xs) (t:bI h x e' ys) (j:e≠e'):x∉aR p:=fun hm=>by
 obtain ⟨zs,d⟩:=SL.Bk s x hm;unfold bI at d t;rw [d] at t;simp only [Option.some.injEq,Obj.cells.injEq] at t;exact j t.2.1
def Ir (qF unit:Nat) (s:Xaa):Xab:=.tuple #[.pointer none,.agg #[.int .i64 (qF:Int),.int .i64 (unit:Int),.string s]]
def AK (h h':Hp):Prop:=∀ x e xs,e≠100->e≠105->bI h x e xs->bI h' x e xs
def AK.ext {h h' h2:Hp} (k:AK h h') (e:Ext h' h2):AK h h2:=fun x t xs h1 h2 b=>(k x t xs h1 h2 b).an e aj
abbrev OT:List fI:=[(false,[.pointer 0]),(false,[.slice 0]),(false,[.slice 0]),(false,[.int .i64])]
def UD (a1 a7:Xax) (u:Int) (p52:Xac) (X:Nat) (p13 p14:Xac) (l15 l16:Nat) (p17:Xac) (l18 l19:Nat) (k:Xac->Xac->Nat->Nat->Xac->Nat->Nat->T):T :=
    T.loop [(false,[.pointer 0]),dl,dl,aP] [.pointer p13,.slice p14 l15 l16,.slice p17 l18 l19,.int .i64 (0:Int)] <| fun (Y:Xac) (Z:Xac) (l57:Nat) (l58:Nat) (p59:Xac) (l60:Nat) (l61:Nat) (F:Int) =>
    bz F X
     (T.need (dU F X) <|
     T.bi p52 <| fun (a63:Xax) =>
     T.ah (a63.add (aK F 3)) [.string,.slice 117,.int .u32] <| fun (s64:Xaa) (p65:Xac) (l66:Nat) (l67:Nat) (n68:Int) =>
     T.new [bX,bq,aH (0:Int)] 100 <| fun (d:Xax) =>
     T.aC d [.string s64,.slice p65 l66 l67,aH n68] <|
     T.ah (d.add 1) [.slice 117,.int .u32] <| fun (p70:Xac) (l71:Nat) (l72:Nat) (n73:Int) =>
     bJ 34 [.pointer (some a7),.int .i64 u,.agg #[.slice p70 l71 l72,aH n73]] true [(true,[.slice 117,.int .u32]),(false,[.string]),bR] <| fun (p74:Xac) (l75:Nat) (l76:Nat) (n77:Int) (s78:Xaa) (b79:Bool) =>
     T.new [bq,aH (0:Int)] 69 <| fun (j:Xax) =>
     T.aC j [.slice p74 l75 l76,aH n77] <|
     cond (!b79)
     (T.aC a1 [.int .i64 (23:Int),.int .i64 u,.string s78] <|
     T.ah a1 [.int .i64,.int .i64,.string] <| fun (n81:Int) (n82:Int) (s83:Xaa) =>
     bn #[.pointer none,.agg #[.int .i64 n81,.int .i64 n82,.string s83]])
     (T.ah d [.string] <| fun (G:Xaa) =>
     T.ah j [.slice 117,.int .u32] <| fun (J:Xac) (O:Nat) (U:Nat) (V:Int) =>
     bJ 35 [.pointer (some a7),.agg #[.int .i64 u,.string G]] false [(false,[.string])] <| fun (Xd:Xaa) =>
     T.bj [(j,[.slice J O U,aH V]),(d,[.string G])] <|
     bU (Instr.buildSlice 44 1 #[(0,.agg #[.string Xd,.slice J O U,aH V])]) false [dl] <| fun (p87:Xac) (l88:Nat) (l89:Nat) =>
     T.bj [(j,[.slice J O U,aH V]),(d,[.string G])] <|
     bU (Builtin.append_ #[44,44] 44 #[.slice Z l57 l58,.slice p87 l88 l89]) false [dl] <| fun (p90:Xac) (l91:Nat) (l92:Nat) =>
     T.bj [(j,[.slice J O U,aH V]),(d,[.string G])] <|
     T.ah d [.string] <| fun (s93:Xaa) =>
     bU (Instr.buildSlice 96 1 #[(0,.agg #[.int .i64 u,.string s93])]) false [dl] <| fun (p94:Xac) (l95:Nat) (l96:Nat) =>
     bU (Builtin.append_ #[96,96] 96 #[.slice p59 l60 l61,.slice p94 l95 l96]) false [dl] <| fun (p97:Xac) (l98:Nat) (l99:Nat) =>
     T.again 2 [.pointer Y,.slice p90 l91 l92,.slice p97 l98 l99,.int .i64 (bm (F+(1:Int)))]))
     (k Y Z l57 l58 p59 l60 l61)
structure CN (h:Hp) (b:Nat) (e k:cr) (D:List (Xaa × cn)) (ks:List Ky):Prop where
 eq:∃ ms,q8 h b e.p e.l e.c ms/\ms.map fk=D
 ky:SL h b 105 2 k.p k.l k.c (ks.map EM)
def CN.ext {h h':Hp} {b:Nat} {e k:cr} {D:List (Xaa × cn)} {ks:List Ky} (s:CN h b e k D ks) (x:Ext h h'):CN h' b e k D ks:=by
 obtain ⟨⟨ms,o,hm⟩,y⟩:=s;exact ⟨⟨ms,o.an x aj,hm⟩,y.an x aj⟩
def Rk {L:Lp} {K:Xab->Hp->Prop} {h0 h:Hp} {A B N M n:Nat} {w:LW} {usl lb:cr} {sp:Int} {S:Nat->kx} {p52:Xac} {l53:Nat} {es:List rO} {el kl:cr} {D:List (Xaa × cn)} {ks:List Ky}
  {k:Xac->Xac->Nat->Nat->Xac->Nat->Nat->T} {p13:Xac}
  (hL:2=L.length) (pw:fS h0) (hA:h0.size<=A) (hAB:A<B) (e0:Ext h0 h) (ba:bI h A 54 [.int .i64 0,.int .i64 0,.string ⟨#[]⟩]) (s:pa h B w usl lb sp N M S) (Kl:PH w) (es0:CN h (B+4) el kl D ks)
  (v:Ob.uf h0 p52 l53 es) (ge:∀ e,e∈es->EN e.2) (hl:es.length<=2^20) (hD:D.length<=2^20) (hks:ks.length<=2^20)
  (hbad:∀ h' q,Ext h0 h'->(es.findSome? fun e=>w.bad n e.2)=some q->K (Ir 23 n q) h')
  (hk:∀ h' u F J,Ext h0 h'->bI h' A 54 [.int .i64 0,.int .i64 0,.string ⟨#[]⟩]->pa h' B w usl lb sp N M S->CN h' (B+4) u F (D++es.map fun e=>(w.word (n,e.1),w.lin n e.2)) (ks++es.map fun e=>(n,e.1)) ->
   AK h h'->(es.findSome? fun e=>w.bad n e.2)=none->k p13 u.p u.l u.c F.p F.l F.c (L++[J]) K h') :
  UD ⟨A,0,none⟩ ⟨B+3,0,none⟩ (n:Int) p52 l53 p13 el.p el.l el.c kl.p kl.l kl.c k L K h:=by
 unfold UD bz aK bJ bU bm dU aH bn bq bX aP bR dl;have hl53:=v.len
 refine aS (cs:=OT) (fun y m' h'=>∃ (i:Nat) (u F:cr),y.1=p13/\y.2.1=(u.p,u.l,u.c)/\y.2.2.1=(F.p,F.l,F.c)/\y.2.2.2.1=(i:Int)/\i<=es.length/\m'=es.length-i/\Ext h0 h'/\bI h' A 54 [.int .i64 0,.int .i64 0,.string ⟨#[]⟩]/\pa h' B w usl lb sp N M S /\
   CN h' (B+4) u F (D++(es.take i).map fun e=>(w.word (n,e.1),w.lin n e.2)) (ks++(es.take i).map fun e=>(n,e.1))/\AK h h'/\∀ j,(d:j<i)->(hx:j<es.length)->w.bad n es[j].2=none)
  (p13,(el.p,el.l,el.c),(kl.p,kl.l,kl.c),(0:Int),()) es.length rfl ⟨0,el,kl,rfl,rfl,rfl,rfl,ad,ad,e0,ba,s,by simpa using es0,fun x e xs _ _ b=>b,by intro j d; omega⟩ ?_
 clear e0 ba s es0;rintro ⟨p55,⟨p56,l57,l58⟩,⟨p59,l60,l61⟩,n62,⟨⟩⟩ m' h1 ⟨i,O,kl1,hy1,hy2,hy3,hy4,hil,rfl,e1,ba,s,es1,ke,hok⟩;simp only [Prod.mk.injEq] at hy1 hy2 hy3 hy4;obtain ⟨rfl,rfl,rfl⟩:=hy2;obtain ⟨rfl,rfl,rfl⟩:=hy3;subst hy1 hy4;refine ak ?_;refine aM (fun q=>?_) (fun q=>?_)
 ·have hlt:i<es.length:=ad
  obtain ⟨aa,pp,ll,cc,haa,hc0,va0,hsz⟩:=v.cells i hlt;have gxi:=ge es[i] (YD hlt);have htk:es.take (i+1)=es.take i++[es[i]]:=Yw hlt;have hfs:∀ q,w.bad n es[i].2=some q->(es.findSome? fun e=>w.bad n e.2)=some q:=by
   intro q hq;have hsp:es=es.take i++es[i]::es.drop (i+1):=by rw [<- YK hlt,Zc]
   have hnone:((es.take i).findSome? fun e=>w.bad n e.2)=none:=by
    rw [Zx];intro x hx;obtain ⟨j,d,rfl⟩:=Y0 hx;rw [YQ] at d;rw [List.getElem_take];exact hok j ad ad
   generalize hz:es[i]=z at hsp hq;rw [hsp,bg9,hnone,List.findSome?_cons,hq] <;> rfl
  have hnx:w.bad n es[i].2=none->∀ j,(d:j<i+1)->(hx:j<es.length)->w.bad n es[j].2=none:=by
   intro hn j d hx
   by_cases hji:j=i
   ·subst hji; exact hn
   ·exact hok j ad hx
  generalize es[i]=x at hc0 va0 hsz gxi htk hfs hnx;refine ax ⟨ad,ad⟩ (av haa ?_);rw [show Int.toNat (i:Int)=i from ad];refine ay (x.1,(pp,ll,cc),(x.2.num:Int),()) (aT e1 aj _ _ hc0) (ak ?_);refine br ?_;intro h2 b2' e2 z2;refine aw b2' rfl aj ?_;intro h3 b3 k3 z3;have b3:bI h3 h1.size 100 [.string x.1,.slice pp ll cc,.int .u32 (x.2.num:Int)]:=b3;have X:Ext h1 h3:=bQ e2 k3;have e03:=e1.trans X;have s3:=s.ext X;rw [aE];refine af b3 ((pp,ll,cc),(x.2.num:Int),()) rfl (ak ?_);refine aI (xT (c:=cc) (pw.an e03 aj) s3.box s3.maps Kl n (va0.an e03).vw gxi) ?_;rintro _ h4 ⟨e4,hq⟩;have z1:=e1.size;have l1:=s.lt;have q3:=b3.lt;cases hb:w.bad n x.2 with
  | some t =>
   rw [hb] at hq;subst hq;refine ⟨((none,0,0),(0:Int),t,false,()),rfl,ak ?_⟩;refine br ?_;intro h5 b5' e5 z5;refine aw b5' rfl aj ?_;intro h6 b6 k6 z6;refine bk rfl ?_;have U:Ext h4 h6:=bQ e5 k6;have V:=(X.trans e4).trans U;refine aw (ba.an V aj) rfl aj ?_;intro h7 b7 k7 z7;have b7:bI h7 A 54 [.int .i64 23,.int .i64 (n:Int),.string t]:=b7;refine af b7 ((23:Int),(n:Int),t,()) rfl ?_;exact hbad h7 t (bQ (e1.trans V) k7) (hfs t hb)
  | none =>
   rw [hb] at hq;obtain ⟨p7,l7,c7,rfl,s7⟩:=hq;refine ⟨((p7,l7,c7),((w.lin n x.2).num:Int),(⟨#[]⟩:Xaa),true,()),rfl,ak ?_⟩;refine br ?_;intro h5 b5' e5 z5;refine aw b5' rfl aj ?_;intro h6 b6 k6 z6;have b6:bI h6 h4.size 69 [.slice p7 l7 c7,.int .u32 ((w.lin n x.2).num:Int)]:=b6;have U:Ext h4 h6:=bQ e5 k6;have V:=(X.trans e4).trans U;refine bG rfl ?_;have b36:=b3.an (e4.trans U) aj;refine af b36 (x.1,()) rfl (ak ?_);refine af b6 ((p7,l7,c7),((w.lin n x.2).num:Int),()) rfl (ak ?_);have s6:=s.ext V;refine aI (B5 (pw.an (e1.trans V) aj) s6.box s6.maps Kl n x.1) ?_;rintro _ h8 ⟨rfl,e8⟩;refine ⟨(w.word (n,x.1),()),rfl,ak ?_⟩;have G:=V.trans e8;have b68:=b6.an e8 aj;have b38:=b36.an e8 aj;have hst:∀ h',Ext h8 h'->T.BC h' [(⟨h4.size,0,none⟩,[.slice p7 l7 c7,.int .u32 ((w.lin n x.2).num:Int)]),(⟨h1.size,0,none⟩,[.string x.1])]:=fun h' e=>⟨(b68.an e aj).cells _ rfl,(b38.an e aj).cells _ rfl,trivial⟩
   refine ⟨hst h8 (Ch.refl _ _),?_⟩;obtain ⟨⟨ms,o1,hms⟩,y1⟩:=es1;have o8:=o1.an G aj;have y8:=y1.an G aj;have hml:ms.length=D.length+i:=by
    have:=YJ List.length hms
    rw [Yu,Yy,Yu,YQ,Zz hil] at this;exact this
   have hel:O.l=ms.length:=by have:=o1.out.1; rwa [Yu] at this
   have hkl:kl1.l=ks.length+i:=by
    have:=y1.1
    rw [Yu,Yy,Yu,YQ,Zz hil] at this;exact this
   have z18:=G.size;have z4:=e4.size;have z46:=U.size;have z8:=e8.size;have z13:=X.size;refine gU (vs:=zH ⟨w.word (n,x.1),p7,l7,c7,w.lin n x.2⟩) Cg KO rfl ad ad (Ha _ p7 l7 c7 _) rfl rfl o8.out ad ad ad hst ?_;intro p9 c9 h9 s9 k9 hp9;have Y:∀ j,h1.size<=j->j∉aR O.p:=fun j d hm=>by have:=(o1.out.cv hm).2; omega
   have b69:=b68.an k9 (Y _ ad);have b39:=b38.an k9 (Y _ ad);refine ⟨⟨b69.cells _ rfl,b39.cells _ rfl,trivial⟩,?_⟩;have Xr:SL h8 (B+4) 117 2 p7 l7 c7 ((w.lin n x.2).ai.map df):=(s7.an (U.trans e8) aj).mono ad;have o9:q8 h9 (B+4) p9 (O.l+1) c9 (ms++[⟨w.word (n,x.1),p7,l7,c7,w.lin n x.2⟩]):=by
    refine o8.push Xr (fun j d=>?_) (by rw [YH]; exact s9) k9 (fun j d=>?_)
    ·have hj3:=(s7.cv d).1;refine ⟨fun y hy m hm=>?_,Y _ ad⟩
     have:=((o1.fq y hy).cv hm).2
     omega
    ·rcases hp9 with rfl | ⟨a,rfl,ha⟩
     ·exact .inl d
     ·simp [aR] at d;subst d;exact .inr ha
   have y9:=y8.bP k9 (fun j d hm=>vp o8.out y8 cm j hm d);have g9:=(s.ext G).rM o8.out k9 (YI _) cm cm cm cm;have ba8:=ba.an G aj;have ba9:=ba8.an k9 (BP o8.out ba8 cm);have z9:=k9.size;have ke8:AK h h8:=ke.ext G;have ke9:AK h h9:=fun x e xs h1 h2 b=>by
    have b8:=ke8 x e xs h1 h2 b;exact b8.an k9 (BP o8.out b8 (Ne.symm h1))
   have e09:Ext h0 h9:=Ch.trans (e1.trans G) k9 (fun j d hl=>by have:=(o8.out.cv d).1; omega);refine af b39 (x.1,()) rfl (ak ?_);refine mV (vs:=EM (n,x.1)) UM Ym rfl ad ad (TL _ _) rfl rfl y9 ad ad ad ?_;intro p10 c10 h10 s10 Z hp10;have hw:=gu i;rw [hw];refine aG (cs:=OT) (p55,(p9,O.l+1,c9),(p10,kl1.l+1,c10),((i+1:Nat):Int),()) (es.length-(i+1)) (by rw [Y5 ad,<- hL,ao9]; rfl) ad rfl ?_;refine ⟨i+1,⟨p9,O.l+1,c9⟩,⟨p10,kl1.l+1,c10⟩,rfl,rfl,rfl,rfl,ad,rfl,Ch.trans e09 Z (fun j d hl=>by have:=(y9.cv d).1; omega),ba9.an Z (BP y9 ba9 cm),
    g9.rM y9 Z (YI _) cm cm cm cm,⟨⟨_,o9.rM y9 Z cm cm,?_⟩,?_⟩,?_,hnx hb⟩
   ·rw [htk,YH,hms,YH,<- YV] <;> rfl
   ·have he:(ks++(es.take (i+1)).map fun e=>(n,e.1)).map EM=(ks++(es.take i).map fun e=>(n,e.1)).map EM++[EM (n,x.1)]:=by
     rw [htk]
     simp
    rw [he];exact s10
   ·intro x e xs h1 h2 b;have b9:=ke9 x e xs h1 h2 b;exact b9.an Z (BP y9 b9 (Ne.symm h2))
 ·have hi:i=es.length:=ad
  subst hi;rw [YW (YI _)] at es1;refine hk h1 O kl1 _ e1 ba s es1 ke ?_;rw [Zx];intro x hx;obtain ⟨j,d,rfl⟩:=Y0 hx;exact hok j d d
def Uu:Tryz.prog.underlying 30=some (.slice 47):=az
def WV:(Tryz.prog.info? 47).map (fun i=>(i.zero,i.size,i.bytes))=some (some (.agg #[.slice none 0 0,.slice none 0 0,.slice none 0 0,.slice none 0 0]),4,96):=az
def U6 (p1:Xac) (d u:Nat) (F:Xac) (G J:Nat) (p3:Xac) (O c3:Nat) (U:Xac) (V X:Nat):Instr.fill (fun j=>some (j*4,4)) ((Array.range (1*4)).map ((Value.agg #[.slice none 0 0,.slice none 0 0,.slice none 0 0,.slice none 0 0]).cells[· % (Value.agg #[.slice none 0 0,.slice none 0 0,.slice none 0 0,.slice none 0 0]).cells.size]!)) [(0,.agg #[.slice p1 d u,.slice F G J,.slice p3 O c3,.slice U V X])]=some ([.slice p1 d u,.slice F G J,.slice p3 O c3,.slice U V X]:List Xab).toArray:=az
def U5 (O a7:Xax) (U:Xac) (V X:Nat) (j:Xac) (u l19:Nat):T :=
   (bJ 37 [.slice U V X] true [(false,[.slice 100]),aP,aP] <| fun (Y:Xac) (Z:Nat) (l23:Nat) (d:Int) (F:Int) =>
   cond (F != (0:Int))
    (T.need (dU d u) <|
    T.bi j <| fun (a26:Xax) =>
    T.ah (a26.add (aK d 2)) [.int .i64] <| fun (G:Int) =>
    T.need (dU d u) <|
    T.bi j <| fun (a28:Xax) =>
    T.ah ((a28.add (aK d 2)).add 1) [.string] <| fun (J:Xaa) =>
    T.bj [(((a28.add (aK d 2)).add 1),[.string J]),((a26.add (aK d 2)),[.int .i64 G])] <|
    T.aC O [.int .i64 F,.int .i64 G,.string J] <|
    T.ah O [.int .i64,.int .i64,.string] <| fun (n30:Int) (n31:Int) (Ti:Xaa) =>
    bn #[.pointer none,.agg #[.int .i64 n30,.int .i64 n31,.string Ti]])
    (Ua O a7 Y Z l23))
def T0 (F u:Xax) (p13 p14:Xac) (l15 l16:Nat) (p17:Xac) (l18 l19:Nat) (d:Int) (p22:Xac) (l23 l24:Nat) (p25:Xac) (l26 l27:Nat) (p28:Xac) (l29 l30:Nat) (p31:Xac) (l32 l33:Nat):T :=
   T.new [bq,bq,bq,bq] 47 <| fun (j:Xax) =>
   T.aC j [.slice p22 l23 l24,.slice p25 l26 l27,.slice p28 l29 l30,.slice p31 l32 l33] <|
   T.new [bq,bq,bq,bq] 47 <| fun (a35:Xax) =>
   T.ah j [.slice 71] <| fun (p36:Xac) (l37:Nat) (l38:Nat) =>
   bJ 33 [.pointer (some u),.int .i64 d,.slice p36 l37 l38] true [(false,[.slice 71]),(false,[.string]),bR] <| fun (p39:Xac) (l40:Nat) (l41:Nat) (s42:Xaa) (b43:Bool) =>
   T.aC a35 [.slice p39 l40 l41] <|
   cond (!b43)
    (T.aC F [.int .i64 (23:Int),.int .i64 d,.string s42] <|
    T.ah F [.int .i64,.int .i64,.string] <| fun (n44:Int) (n45:Int) (s46:Xaa) =>
    bn #[.pointer none,.agg #[.int .i64 n44,.int .i64 n45,.string s46]])
    (T.ah (j.add 1) [.slice 71] <| fun (p44:Xac) (l45:Nat) (l46:Nat) =>
    bJ 33 [.pointer (some u),.int .i64 d,.slice p44 l45 l46] true [(false,[.slice 71]),(false,[.string]),bR] <| fun (p47:Xac) (l48:Nat) (l49:Nat) (s50:Xaa) (b51:Bool) =>
    T.aC (a35.add 1) [.slice p47 l48 l49] <|
    cond (!b51)
    (T.aC F [.int .i64 (23:Int),.int .i64 d,.string s50] <|
    T.ah F [.int .i64,.int .i64,.string] <| fun (n52:Int) (n53:Int) (s54:Xaa) =>
    bn #[.pointer none,.agg #[.int .i64 n52,.int .i64 n53,.string s54]])
    (T.ah (j.add 2) [.slice 100] <| fun (p52:Xac) (l53:Nat) (l54:Nat) =>
    UD F u d p52 l53 p13 p14 l15 l16 p17 l18 l19 fun p55 p56 l57 l58 p59 l60 l61 =>
     (T.ah u [.slice 47] <| fun (G:Xac) (J:Nat) (O:Nat) =>
     T.ah a35 [.slice 71,.slice 71,.slice 100,.slice 9] <| fun (U:Xac) (V:Nat) (X:Nat) (Y:Xac) (Z:Nat) (l71:Nat) (p72:Xac) (l73:Nat) (l74:Nat) (p75:Xac) (l76:Nat) (l77:Nat) =>
     bU (Instr.buildSlice 30 1 #[(0,.agg #[.slice U V X,.slice Y Z l71,.slice p72 l73 l74,.slice p75 l76 l77])]) false [dl] <| fun (p78:Xac) (l79:Nat) (l80:Nat) =>
     T.bj [(u,[.slice G J O])] <|
     bU (Builtin.append_ #[30,30] 30 #[.slice G J O,.slice p78 l79 l80]) false [dl] <| fun (p81:Xac) (l82:Nat) (l83:Nat) =>
     T.bj [(a35,[.slice U V X,.slice Y Z l71,.slice p72 l73 l74,.slice p75 l76 l77])] <|
     T.aC u [.slice p81 l82 l83] <|
     T.ah (u.add 6) [.int .i64] <| fun (n84:Int) =>
     T.ah j [.slice 71,.slice 71,.slice 100,.slice 9] <| fun (p85:Xac) (l86:Nat) (l87:Nat) (p88:Xac) (l89:Nat) (l90:Nat) (p91:Xac) (l92:Nat) (l93:Nat) (p94:Xac) (l95:Nat) (l96:Nat) =>
     bJ 36 [.agg #[.slice p85 l86 l87,.slice p88 l89 l90,.slice p91 l92 l93,.slice p94 l95 l96]] false [aP] <| fun (n97:Int) =>
     T.bj [((u.add 6),[.int .i64 n84])] <|
     T.aC (u.add 6) [.int .i64 (bm (n84+n97))] <|
     T.again 1 [.pointer p55,.slice p56 l57 l58,.slice p59 l60 l61,.int .i64 (bm (d+(1:Int)))])))
def zz {S:Nat->kx} {k n:Nat} {x:kx} (hk:2*n<=k):mY (ln S k x) n=mY S n:=by
 unfold mY;apply Zm;intro i hi;have hi:i<n:=ag9.1 hi;unfold xV ln;rw [Yx ad,Yx ad]
section
variable {h h':Hp} {B N M:Nat} {w:LW} {usl lb:cr} {sp:Int} {S:Nat->kx}
def pa.add (s:pa h B w usl lb sp N M S) (e:Ext h h') (d:2*N<=M) {x:kx} (hx:mU h' h.size x):pa h' B w usl lb sp N (M+1) (ln S M x):=by
 have s':=s.ext e;exact ⟨s'.box,s'.maps,s'.oc,by rw [zz d]; exact s'.un,s.xp.add e s.lt hx⟩
end
section
variable {h h':Hp} {B N M:Nat} {w:LW} {usl lb:cr} {sp:Int} {S:Nat->kx}
def pa.FW {x:Nat} {xs:List Xab} (s:pa h B w usl lb sp N M S) (b:bI h x 47 xs) (hx:B+4<=x) (hu:x∉aR usl.p) (k:Ch [x] h h'):pa h' B w usl lb sp N M S:=by
 have hs:∀ {F sz:Nat} {e:TypeId} {q:Xac} {m d:Nat} {ys:List (List Xab)},SL h F e sz q m d ys->e≠47->SL h' F e sz q m d ys:=fun t J=>t.bP k (fun i hi hm=>by
  have:i=x:=by simpa using hm
  subst this;exact BP t b J hi)
 exact ⟨s.box.an k (by simp; omega),s.maps.an k (by simp; omega) (by simp; omega) (by simp; omega),hs s.oc cm,s.un.bP k (fun i hi hm=>by
  have:i=x:=by simpa using hm
  subst this;exact hu hi),⟨fun j G=>⟨hs (s.xp.sec j G).out cm,fun u hu=>hs ((s.xp.sec j G).fq u hu) cm⟩,s.xp.ap⟩⟩
def CN.FW {x b:Nat} {xs:List Xab} {e k:cr} {D:List (Xaa × cn)} {ks:List Ky} (s:CN h b e k D ks) (bx:bI h x 47 xs) (c:Ch [x] h h'):CN h' b e k D ks:=by
 have hs:∀ {j sz:Nat} {e:TypeId} {q:Xac} {m d:Nat} {ys:List (List Xab)},SL h j e sz q m d ys->e≠47->SL h' j e sz q m d ys:=fun t u=>t.bP c (fun i hi hm=>by
  have:i=x:=by simpa using hm
  subst this;exact BP t bx u hi)
 obtain ⟨⟨ms,o,hm⟩,y⟩:=s;exact ⟨⟨ms,⟨hs o.out cm,fun m hm=>hs (o.fq m hm) cm,o.ap,o.dj⟩,hm⟩,hs y cm⟩
def CN.rY {b j sz:Nat} {q:Xac} {m d:Nat} {ys:List (List Xab)} {e k:cr} {D:List (Xaa × cn)} {ks:List Ky} (s:CN h b e k D ks) (t:SL h j 47 sz q m d ys) (c:Ch (aR q) h h'):CN h' b e k D ks:=by
 obtain ⟨⟨ms,o,hm⟩,y⟩:=s;exact ⟨⟨ms,o.rM t c cm cm,hm⟩,y.bP c (fun i hi hm=>vp t y cm i hm hi)⟩
def CN.S7 {b x : Nat} {e k : cr} {D : List (Xaa × cn)} {ks : List Ky} (s : CN h b e k D ks) (hx : x < b) (c : Ch [x] h h') : CN h' b e k D ks := by
  obtain ⟨⟨ms, o, hm⟩, y⟩ := s
  exact ⟨⟨ms, o.an c (fun i hi => by have : i = x := by simpa using hi
                                     omega), hm⟩, y.bP c (fun i hi hm => by
    have : i = x := by simpa using hm
    have := (y.cv hi).1;omega)⟩
end
def PQ {L:Lp} {K:Xab->Hp->Prop} {h0 h:Hp} {A B n:Nat} {w:LW} {usl lb:cr} {sp:Nat} {S:Nat->kx} {u:cd} {d F tc td el kl:cr} {D:List (Xaa × cn)} {ks:List Ky} {p13:Xac} {I:qK (flat OT)->Nat->Hp->Prop} {m:Nat}
  (hL:2=L.length) (hJ:L[1]?=some (Jl I m)) (pw:fS h0) (tb0:Bh h0) (hA:h0.size<=A) (hAB:A<B) (e0:Ext h0 h) (ba:bI h A 54 [.int .i64 0,.int .i64 0,.string ⟨#[]⟩]) (s:pa h B w usl lb (sp:Int) n (2*n) S) (Kl:PH w) (es0:CN h (B+4) el kl D ks)
  (v:tO h0 d F tc td u) (ge:∀ x,x∈cK u->EN x) (hr:eO u=0) (hl1:u.text.length<=2^20) (hl2:u.data.length<=2^20) (hl3:u.bh.length<=2^20) (hD:D.length<=2^20) (hks:ks.length<=2^20) (hn:n<=2^20) (hsp:sp<=2^40)
  (hbad:∀ h' q,Ext h0 h'->ry w n u=some q->K (Ir 23 n q) h')
  (hk:∀ h' el' kl' usl' S',Ext h0 h'->bI h' A 54 [.int .i64 0,.int .i64 0,.string ⟨#[]⟩]->pa h' B w usl' lb ((sp+jV u.text:Nat):Int) (n+1) (2*(n+1)) S'->CN h' (B+4) el' kl' (D++u.bh.map fun e=>(w.word (n,e.1),w.lin n e.2)) (ks++u.bh.map fun e=>(n,e.1)) ->
   ry w n u=none->(∀ k,k<2*n->S' k=S k)->(S' (2*n)).ws.map (·.2)=u.text.map (w.ff n)->(S' (2*n+1)).ws.map (·.2)=u.data.map (w.ff n) ->
   ∃ m',m'<m/\I (p13,(el'.p,el'.l,el'.c),(kl'.p,kl'.l,kl'.c),((n+1:Nat):Int),()) m' h') :
  T0 ⟨A,0,none⟩ ⟨B+3,0,none⟩ p13 el.p el.l el.c kl.p kl.l kl.c (n:Int) d.p d.l d.c F.p F.l F.c tc.p tc.l tc.c td.p td.l td.c L K h:=by
 unfold T0 bJ bU bm bn bq aP bR dl;have l0:=s.lt;have zA:=e0.size;refine br ?_;intro h1 b1' e1 z1;refine aw b1' rfl aj ?_;intro h2 b2 k2 z2;have b2:bI h2 h.size 47 [d.v,F.v,tc.v,td.v]:=b2;have e02:Ext h h2:=bQ e1 k2;refine br ?_;intro h3 b3 e3 z3;have b23:=b2.an e3 aj;refine af b23 ((d.p,d.l,d.c),()) rfl (ak ?_);have Z:=e02.trans e3;have s3:=s.ext Z;have E3:=e0.trans Z;refine aI (zh (c:=d.c) (pw.an E3 aj) s3.box s3.maps Kl n (v.an E3).text hl1 (fun x hx=>ge _ (by unfold cK; simp only [List.mem_append]; exact .inl (.inl (YT hx))))) ?_;rintro _ h4 ⟨e4,hq⟩;have z03:=Z.size;have z4:=e4.size;have q3:=b3.lt;cases hb:w.yP n u.text with
 | some t =>
  rw [hb] at hq;subst hq;refine ⟨((none,0,0),t,false,()),rfl,ak ?_⟩;refine aw (b3.an e4 aj) rfl aj ?_;intro h5 b5 k5 z5;refine bk rfl ?_;have e35:Ext h3 h5\/True:=.inr trivial;have ba5:=((ba.an (Z.trans e4) aj).an k5 (by simp; omega))
  refine aw ba5 rfl aj ?_;intro h6 b6 k6 z6;have b6:bI h6 A 54 [.int .i64 23,.int .i64 (n:Int),.string t]:=b6;refine af b6 ((23:Int),(n:Int),t,()) rfl ?_;refine hbad h6 t ?_ (by unfold ry; rw [hb]; rfl);exact Ch.trans (bQ (E3.trans e4) k5) k6 (fun i hi hl=>by simp at hi; omega)
 | none =>
  rw [hb] at hq;obtain ⟨p4,c4,B4,w4,rfl,lc4,hB4,hw4⟩:=hq;refine ⟨((p4,d.l,c4),(⟨#[]⟩:Xaa),true,()),rfl,ak ?_⟩;refine aw (b3.an e4 aj) rfl aj ?_;intro h5 b5 k5 z5;have b5:bI h5 h2.size 47 [.slice p4 d.l c4,.slice none 0 0,.slice none 0 0,.slice none 0 0]:=b5;refine bG rfl ?_;have x4:mU h4 h3.size ⟨⟨p4,d.l,c4⟩,w4⟩:=⟨lc4.out,fun y hy=>(lc4.fq y hy).mono hB4⟩
  have s4:=s3.add e4 (YI _) x4;have hu2:h2.size∉aR usl.p:=fun hm=>by have:=(s.un.cv hm).2; have:=e02.size; omega
  have l2:=e02.size;have s5:=s4.FW (b3.an e4 aj) ad hu2 k5;have ba5:=(ba.an (Z.trans e4) aj).an k5 (by simp; omega);have q2:=b2.lt;have b25:=(b23.an e4 aj).an k5 (by simp; omega);have E5:Ext h0 h5:=bQ (E3.trans e4) k5;have es5:CN h5 (B+4) el kl D ks:=((es0.ext (Z.trans e4))).FW (b3.an e4 aj) k5;rw [aE];refine af b25 ((F.p,F.l,F.c),()) rfl (ak ?_);refine aI (zh (c:=F.c) (pw.an E5 aj) s5.box s5.maps Kl n (v.an E5).data hl2 (fun x hx=>ge _ (by unfold cK; simp only [List.mem_append]; exact .inl (.inr (YT hx))))) ?_;rintro _ h6 ⟨e6,hq⟩;have b56:=b5.an e6 aj;have z6:=e6.size;cases hb2:w.yP n u.data with
  | some t =>
   rw [hb2] at hq;subst hq;refine ⟨((none,0,0),t,false,()),rfl,ak ?_⟩;rw [aE];refine aw b56 rfl aj ?_;intro h7 b7 k7 z7;refine bk rfl ?_;have ba7:=(ba5.an e6 aj).an k7 (by simp; omega);refine aw ba7 rfl aj ?_;intro h8 b8 k8 z8;have b8:bI h8 A 54 [.int .i64 23,.int .i64 (n:Int),.string t]:=b8;refine af b8 ((23:Int),(n:Int),t,()) rfl ?_;refine hbad h8 t ?_ (by unfold ry; rw [hb,hb2]; rfl);exact Ch.trans (bQ (E5.trans e6) k7) k8 (fun i hi hl=>by simp at hi; omega)
  | none =>
   rw [hb2] at hq;obtain ⟨p6,c6,B6,w6,rfl,lc6,hB6,hw6⟩:=hq;refine ⟨((p6,F.l,c6),(⟨#[]⟩:Xaa),true,()),rfl,ak ?_⟩;rw [aE];refine aw b56 rfl aj ?_;intro h7 b7 k7 z7;have b7:bI h7 h2.size 47 [.slice p4 d.l c4,.slice p6 F.l c6,.slice none 0 0,.slice none 0 0]:=b7;refine bG rfl ?_;have x6:mU h6 h5.size ⟨⟨p6,F.l,c6⟩,w6⟩:=⟨lc6.out,fun y hy=>(lc6.fq y hy).mono hB6⟩
   have s6:=s5.add e6 ad x6;have s7:=s6.FW b56 ad hu2 k7;have es7:=(es5.ext e6).FW b56 k7;have ba7:=(ba5.an e6 aj).an k7 (by simp; omega);have b27:=(b25.an e6 aj).an k7 (by simp; omega);have E7:Ext h0 h7:=bQ (E5.trans e6) k7;have TK:=b27;rw [aE];refine af b27 ((tc.p,tc.l,tc.c),()) rfl (ak ?_);refine Rk hL pw hA hAB E7 ba7 s7 Kl es7 v.bh (fun e he=>ge _ (by unfold cK; simp only [List.mem_append]; exact .inr (YT he))) hl3 hD hks (fun h' q e hq=>hbad h' q e (by unfold ry; rw [hb,hb2]; exact hq)) ?_;intro h8 el8 kl8 J E8 ba8 V es8 ke8 hb3;have b78:=ke8 _ _ _ cm cm b7;have b28:=ke8 _ _ _ cm cm b27;generalize hS2:ln (ln S (2*n) ⟨⟨p4,d.l,c4⟩,w4⟩) (2*n+1) ⟨⟨p6,F.l,c6⟩,w6⟩=S2 at V;refine af V.box ((usl.p,usl.l,usl.c),()) rfl (ak ?_);refine af b78 ((p4,d.l,c4),(p6,F.l,c6),(none,0,0),(none,0,0),()) rfl (ak ?_);have hul:usl.l=n:=by have:=s.un.1; rwa [jG] at this
   have z8':=E8.size;have l8:=V.lt;refine gU (vs:=[.slice p4 d.l c4,.slice p6 F.l c6,.slice none 0 0,.slice none 0 0]) Uu WV rfl ad ad (U6 p4 d.l c4 p6 F.l c6 none 0 0 none 0 0) rfl rfl V.un ad ad ad (fun h' e=>⟨(V.box.an e aj).cells _ rfl,trivial⟩) ?_;intro p9 c9 h9 s9 k9 hp9;have b79:=b78.an k9 hu2;have hu1:h.size∉aR usl.p:=fun hm=>by have:=(s.un.cv hm).2; omega
   have b29:=b28.an k9 hu1;refine ⟨⟨b79.cells _ rfl,trivial⟩,?_⟩;have j:∀ i,i∈aR usl.p->B+4<=i:=fun i hi=>(V.un.cv hi).1
   have bx9:=V.box.an k9 (fun hm=>by have:=j _ hm; omega);have ba9:=ba8.an k9 (fun hm=>by have:=j _ hm; omega);have es9:=es8.rY V.un k9;have E9:Ext h0 h9:=Ch.trans E8 k9 (fun i hi hl=>by have:=j _ hi; omega);have m9:=V.maps.an k9 (fun hm=>by have:=j _ hm; omega) (fun hm=>by have:=j _ hm; omega) (fun hm=>by have:=j _ hm; omega);have lb9:=V.oc.bP k9 (fun i hi hm=>vp V.un V.oc cm i hm hi);have se9:=V.xp.rM V.un k9 cm cm;have z9:=k9.size;refine aw bx9 rfl aj ?_;intro h10 X G z10;have X:PA h10 (B+3) ⟨p9,usl.l+1,c9⟩ lb B (B+1) (B+2) (sp:Int):=X;have es10:=es9.S7 ad G;have ba10:=ba9.an G (by simp; omega);have m10:=m9.an G aj aj aj;have lb10:=lb9.bP G (fun i hi=>by have:=(lb9.cv hi).1; simp; omega);have se10:=se9.nh G aj;have un10:=s9.bP G (fun i hi=>by have:=(s9.cv hi).1; simp; omega);have E10:Ext h0 h10:=bQ E9 G;have b210:=b29.an G (by simp; omega);rw [aE];refine af X ((sp:Int),()) rfl (ak ?_);refine af b210 ((d.p,d.l,d.c),(F.p,F.l,F.c),(tc.p,tc.l,tc.c),(td.p,td.l,td.c),()) rfl (ak ?_);refine aI (JV (tb0.an E10 aj) (v.an E10)) ?_;rintro _ h11 ⟨rfl,O⟩;rw [YC hr];refine ⟨(((jV u.text:Nat):Int),()),rfl,ak ?_⟩;have bx11:=X.an O aj;refine ⟨⟨bx11.cells _ rfl,trivial⟩,?_⟩;have hsl:=zu u.text;refine aw bx11 rfl aj ?_;intro h12 Y U z12;have hw1:IntKind.wrap .i64 ((sp:Int)+((jV u.text:Nat):Int))=((sp+jV u.text:Nat):Int):=by rw [wrap_i64 ad ad]; omega
   rw [hw1] at Y;have Y:PA h12 (B+3) ⟨p9,usl.l+1,c9⟩ lb B (B+1) (B+2) ((sp+jV u.text:Nat):Int):=Y;have hw:=gu n;rw [hw];have un11:=un10.an O aj;have lb11:=lb10.an O aj;obtain ⟨m',hm',hI⟩:=hk h12 el8 kl8 ⟨p9,usl.l+1,c9⟩ S2 (bQ (E10.trans O) U) ((ba10.an O aj).an U (by simp; omega))
    ⟨Y,(m10.an O aj aj aj).an U aj aj aj,lb11.bP U (fun i hi=>by have:=(lb11.cv hi).1; simp; omega),by
     have:=un11.bP U (fun i hi=>by have:=(un11.cv hi).1; simp; omega)
     rw [<- hS2,Hz];rw [<- hS2,zz ad,zz ad] at this;exact this,(se10.ext O).nh U aj⟩
    ((es10.ext O).S7 ad U) (by unfold ry; rw [hb,hb2]; exact hb3) (fun k hk=>by rw [<- hS2]; unfold ln; rw [Yx ad,Yx ad]) (by rw [<- hS2]; unfold ln; rw [Yx ad,YC rfl]; exact hw4) (by rw [<- hS2]; unfold ln; rw [YC rfl]; exact hw6)
   exact aG (cs:=OT) (p13,(el8.p,el8.l,el8.c),(kl8.p,kl8.l,kl8.c),((n+1:Nat):Int),()) m' (by rw [Za ad]; exact hJ) hm' rfl hI
def mj (us:List cd):Nat:=(us.map fun u=>jV u.text).sum
structure M7 (x:kx):Prop where
 len:x.ws.length<=2^30
 V7:∀ u,u∈x.ws->u.2.e.ai.length<=2^40
 sz:∀ u,u∈x.ws->∀ t,t∈u.2.e.ai->t.1.size<=maxLen
def MC (h0:Hp) (us:List cd) (v:Xab) (h':Hp):Prop:=Ext h0 h'/\match me us with
 | .error f=>v=Ir f.qF f.unit f.name
 | .ok P=>∃ B usl lb S,h0.size<=B/\v=.tuple #[ptr (B+3),.agg #[.int .i64 0,.int .i64 0,.string ⟨#[]⟩]]/\pa h' B P.w usl lb ((mj us:Nat):Int) us.length (2*us.length) S /\
   (∀ n,(hn:n<us.length)->(S (2*n)).ws.map (·.2)=us[n].text.map (P.ff n)/\(S (2*n+1)).ws.map (·.2)=us[n].data.map (P.ff n))/\∀ k,k<2*us.length->M7 (S k)
def Oh {ms:List cL} (ok:EqsOk ms) (het:∀ e,e∈ms->e.x.ai.length<=2^20) {x:cn} (hl:x.ai.length<=2^20) (hs:∀ t,t∈x.ai->t.1.size<=maxLen):(de (cy ms) x).ai.length<=2^40/\∀ t,t∈(de (cy ms) x).ai->t.1.size<=maxLen:=by
 have F:∀ s y,cy ms s=some y->∃ e,e∈ms/\y=e.x:=by
  intro s y d;unfold cy at d;split at d
  ·next U =>
   obtain ⟨e,j,_,hx⟩:=mf ((eh ms s).1 U);exact ⟨e,j,by cases d; exact hx⟩
  ·cases d
 refine ⟨?_,fun t G=>?_⟩
 ·have J:=eR (cy ms) x;have h1:((de (cy ms) x).ai.map (·.1)).Nodup:=Zw.2 (J.1.imp fun h=>kD h);have h2:=lG _ ((x.ai.flatMap (rF (cy ms))).map (·.1)) h1 (fun s hs=>by
   obtain ⟨t,G,rfl⟩:=YF.1 hs;obtain ⟨p,O,e⟩:=D6 G;exact YF.2 ⟨p,O,e⟩)
  rw [Yu,Yu] at h2;have h3:=qf (of:=cy ms) (B:=2^20) cm (fun s y d=>by
   obtain ⟨e,j,rfl⟩:=F s y d;exact het e j) x.ai
  exact Zq h2 (Zq h3 (Zq (ZC _ hl) cm))
 ·rcases sB G with ⟨p,O,j,_⟩ | ⟨p,y,u,_,d,hu,j⟩
  ·rw [<- j]; exact hs p O
  ·obtain ⟨e,hm,rfl⟩:=F _ _ d;rw [<- j]; exact ok.ts e hm u hu
def WT {x:cn} (g:Good x) (h:x.ai.length<=2^20):EN x :=
 ⟨g.nf,g.num,h,fun t d=>by
  have:=Hv (g.MX t d)
  have j:2000<=maxLen:=cm
  omega⟩
def Jk.C3 {us:List cd} (s:Jk us) (r:Gb us) {u:cd} (hu:u∈us) {x:cn} (hx:x∈cK u):EN x :=
 WT (AP (r.right u hu) (s.num u hu) x hx) (s.len hu hx)
def EU {us:List cd} (s:Jk us) (r:Gb us) {w:LW} (lb:PH w) {u:cd} (hu:u∈us) {n:Nat} (J:ry w n u=none) {l:List cB} (hl:l=u.text\/l=u.data) {ws:List (cr × cB)} (hw:ws.map (·.2)=l.map (w.ff n)):Ip ws/\ws.length<=2^20:=by
 have d:=B0 J;have h2:=(r.bh hu).2;refine ⟨fun y F=>?_,?_⟩
 ·have h1:y.2∈l.map (w.ff n):=by rw [<- hw]; exact YT F
  obtain ⟨x,hx,O⟩:=YF.1 h1;have j:w.bad n x.e=none:=by
   rcases hl with rfl | rfl
   ·exact d.1 x hx
   ·exact d.2.1 x hx
  have G:x.e∈cK u:=by
   unfold cK;simp only [List.mem_append];rcases hl with rfl | rfl
   ·exact .inl (.inl (YT hx))
   ·exact .inl (.inr (YT hx))
  have g:=s.C3 r hu G;have F:y.2.e=w.lin n x.e:=by rw [<- O]; rfl
  rw [F];exact ⟨Zq (zd j) g.len,lZ g.num,N5 lb j⟩
 ·have:=YJ List.length hw
  rw [Yu,Yu] at this;rcases hl with rfl | rfl <;> omega
def LZ {D:List (Xaa × cn)} {es:List cL} (h:es.map fk=D) {i:Nat} (hi:i<es.length) (h1:kB (dp es) es[i].name) (h2:∀ j,(d:j<i)->¬ kB (dp es) es[j].name):nv D=some i:=by
 classical
 have F:dp (fe D)=dp es:=Bb (by rw [pO,h]);have hl:D.length=es.length:=by rw [<- h,Yu]
 have hn:∀ j,(d:j<es.length)->(D[j]'ad).1=es[j].name:=by
  intro j d;subst h;rw [YE] <;> rfl
 unfold nv;rw [YX];refine ⟨ad,?_,fun j d=>?_⟩
 ·refine YA ?_;rw [F,hn i hi];exact h1
 ·intro u;have u:=Yz u;rw [F,hn j ad] at u;exact h2 j d u
def LD {D:List (Xaa × cn)} {es:List cL} (h:es.map fk=D) (h2:∀ v,¬ kB (dp es) v):nv D=none:=by
 have d:dp (fe D)=dp es:=Bb (by rw [pO,h]);unfold nv;rw [Ze];intro x hx;rw [decide_eq_false_iff_not,d];exact h2 _
def NI {D:List (Xaa × cn)} {es ms:List cL} (h:es.map fk=D) (hm:ms.map (fun m=>(m.name,m.x))=es.map (fun e=>(e.name,eU es e.name))):cy ms=cy (fe (mR D)):=by
 refine FT ?_;rw [pO];show ms.map (fun m=>(m.name,m.x))=_;rw [hm];unfold mR;have hs:eU (fe D)=eU es:=I6 (by rw [pO,h]);rw [hs,<- h,YY] <;> rfl
def Qc {J0 J1:List Xab->Hp->Prop} {h0 h:Hp} {A B:Nat} {w:LW} {usl lb:cr} {S:Nat->kx} {us:List cd} {X Y:cr}
  (hA:h0.size<=A) (hAB:A<B) (e0:Ext h0 h) (ba:bI h A 54 [.int .i64 0,.int .i64 0,.string ⟨#[]⟩]) (s:pa h B w usl lb ((mj us:Nat):Int) us.length (2*us.length) S)
  (es0:CN h (B+4) X Y (vY w us) ((et 0 us).map jS)) (r:Gb us) (sm:Jk us) (i0:WI w (bZ 0 us) ((et 0 us).map jS)) (hb:fN w 0 us=none)
  (hS:∀ n,(hn:n<us.length)->(S (2*n)).ws.map (·.2)=us[n].text.map (w.ff n)/\(S (2*n+1)).ws.map (·.2)=us[n].data.map (w.ff n))
  (Z:me us=match nv (vY w us) with
    | some i=>.error ⟨24,((et 0 us).map fun q=>(q.1,q.2.1)).getD i (0,dJ) |>.1,((et 0 us).map fun q=>(q.1,q.2.1)).getD i (0,dJ) |>.2⟩
    | none=>.ok ⟨w,us,vY w us⟩) :
  U5 ⟨A,0,none⟩ ⟨B+3,0,none⟩ X.p X.l X.c Y.p Y.l Y.c [J0,J1] (MC h0 us) h:=by
 unfold U5 aK bJ dU bn aP;obtain ⟨⟨es,o,F⟩,y⟩:=es0;have eo:=TU r sm i0 hb F;have hl:es.length=(et 0 us).length:=by
  have:=YJ List.length F
  unfold vY at this;simpa using this
 have hl2:=r.eqs;refine aI (FF (c:=X.c) (CY o) eo (fun i hi=>(o.out.cv hi).2) ad) ?_;rintro _ h1 ⟨hq,e1⟩;rcases hq with ⟨i,hi,hon,hmin,rfl⟩ | ⟨hno,p',l',c',ms,rfl,oms,hms⟩
 ·refine ⟨((none,0,0),(i:Int),(24:Int),()),rfl,ak ?_⟩;refine bk rfl ?_;have y1:=y.an e1 aj;have hkl:Y.l=(et 0 us).length:=by have:=y.1; rwa [Yu,Yu] at this
  have hik:i<(et 0 us).length:=ad
  obtain ⟨a,ha,hc⟩:=y1.cells (i:=i) (by rw [Yu,Yu]; exact hik);rw [YE,YE] at hc;generalize hq:(et 0 us)[i]=q at hc;have hc:aJ h1 (a.add (i*2)) 0 [.int .i64 (q.1:Int),.string q.2.1]:=hc;refine ax ⟨ad,ad⟩ (av ha ?_);rw [show Int.toNat (i:Int)=i from ad];refine ay ((q.1:Int),()) (eJ 1 _ 0 hc) (ak ?_);refine ax ⟨ad,ad⟩ (av ha ?_);have hc1:aJ h1 ((a.add (i*2)).add 1) 0 [.string q.2.1]:=iY _ 1 0 (gP 1 _ 0 hc);refine ay (q.2.1,()) hc1 (ak ?_);refine ⟨⟨hc1,eJ 1 _ 0 hc,trivial⟩,?_⟩;refine aw (ba.an e1 aj) rfl aj ?_;intro h2 b2 k2 z2;have b2:bI h2 A 54 [.int .i64 24,.int .i64 (q.1:Int),.string q.2.1]:=b2;refine af b2 ((24:Int),(q.1:Int),q.2.1,()) rfl ?_;refine ⟨bQ (e0.trans e1) k2,?_⟩;rw [Z,LZ F hi hon hmin];have hg:((et 0 us).map fun q=>(q.1,q.2.1)).getD i (0,dJ)=(q.1,q.2.1):=by
   rw [Zh,Zj,Yv hik,hq] <;> rfl
  simp only [hg] <;> rfl
 ·refine ⟨((p',l',c'),(0:Int),(0:Int),()),rfl,ak ?_⟩;refine bG rfl ?_;obtain ⟨k1,k2,k3,k4⟩:=K1 eo hno hms ad;have hmany:=r.many;have J:∀ j,j<2*us.length->Ip (S j).ws/\(S j).ws.length<=2^20:=by
   intro j hj;have hn:j / 2<us.length:=ad
   have U:=mD us 0 hb (j / 2) hn;rw [Y7] at U;have G:=hS (j / 2) hn
   by_cases h2:j % 2=0
   ·have:j=2*(j / 2):=ad
    rw [this];exact EU sm r (r.Kl i0) (YD hn) U (.inl rfl) G.1
   ·have:j=2*(j / 2)+1:=ad
    rw [this];exact EU sm r (r.Kl i0) (YD hn) U (.inr rfl) G.2
  refine Q6 hA hAB (e0.trans e1) (ba.an e1 aj) (s.ext e1) ⟨oms,k1,k2,k3,k4⟩ ad J ?_
  ·intro h' S' E' s' d;refine ⟨E',?_⟩;rw [Z,LD F hno];refine ⟨B,usl,lb,S',ad,rfl,s',fun n hn=>?_,fun k hk=>?_⟩
   rotate_left
   ·have V:=(d k).2;rw [YC hk] at V;obtain ⟨q1,q2⟩:=J k hk;have hlen:(S' k).ws.length=(S k).ws.length:=by
     have:=YJ List.length V
     rwa [Yu,Yu] at this
    have O:∀ u,u∈(S' k).ws->∃ v,v∈(S k).ws/\u.2=qX (cy ms) v.2:=by
     intro u hu;have h1:u.2∈(S k).ws.map (fun u=>qX (cy ms) u.2):=by rw [<- V]; exact YT hu
     obtain ⟨v,hv,he⟩:=YF.1 h1;exact ⟨v,hv,he.symm⟩
    refine ⟨ad,fun u hu=>?_,fun u hu=>?_⟩
    ·obtain ⟨v,hv,he⟩:=O u hu;rw [he];exact (Oh k1 k2 (q1 v hv).1 (q1 v hv).2.2).1
    ·obtain ⟨v,hv,he⟩:=O u hu;rw [he];exact (Oh k1 k2 (q1 v hv).1 (q1 v hv).2.2).2
   have G:=hS n hn;have hlo:=NI F hms;have V:∀ (k:Nat) (l:List cB),k<2*us.length->(S k).ws.map (·.2)=l.map (w.ff n)->(S' k).ws.map (·.2)=l.map ((⟨w,us,vY w us⟩:LP).ff n):=by
    intro k l hk hl
    have:=(d k).2
    rw [YC hk] at this;rw [this,show (S k).ws.map (fun u=>qX (cy ms) u.2)=((S k).ws.map (·.2)).map (qX (cy ms)) by rw [YY]; rfl,hl,YY,hlo] <;> rfl
   exact ⟨V _ _ ad G.1,V _ _ ad G.2⟩
def WM (a1 a7:Xax) (p2 u:Xac) (j cc00:Nat):T :=
   (T.loop [(false,[.pointer 0]),dl,dl,aP] [.pointer p2,bq,bq,.int .i64 (0:Int)] <| fun (X:Xac) (F:Xac) (G:Nat) (J:Nat) (O:Xac) (U:Nat) (V:Nat) (d:Int) =>
   bz d j
   (T.need (dU d j) <|
   T.bi u <| fun (Y:Xax) =>
   T.ah (Y.add (aK d 4)) [.slice 71,.slice 71,.slice 100,.slice 9] <| fun (Z:Xac) (l23:Nat) (l24:Nat) (p25:Xac) (l26:Nat) (l27:Nat) (p28:Xac) (l29:Nat) (l30:Nat) (p31:Xac) (l32:Nat) (l33:Nat) =>
   T0 a1 a7 X F G J O U V d Z l23 l24 p25 l26 l27 p28 l29 l30 p31 l32 l33)
   (U5 a1 a7 F G J O U V))
def N2 (w:LW) (us:List cd) (u:cd):vY w (us++[u])=vY w us++u.bh.map fun e=>(w.word (us.length,e.1),w.lin us.length e.2):=by
 unfold vY;rw [ru,YH,YY,Y7] <;> rfl
def KE (us:List cd) (u:cd):(et 0 (us++[u])).map jS=(et 0 us).map jS++u.bh.map fun e=>(us.length,e.1):=by
 rw [ru,YH,YY,Y7] <;> rfl
def Hl (us:List cd) (u:cd):mj (us++[u])=mj us+jV u.text:=by
 unfold mj
 simp
theorem F8:∀ us:List cd,mj us<=uQ us
 | []=>by simp [mj,uQ]
 | u::us=>by
  have h1:=F8 us;have h2:=zu u.text;unfold mj uQ at *;simp only [List.map_cons,List.sum_cons];omega
def Hc (us:List cd) (n:Nat):mj (us.take n)<=mj us:=by
 have h:us=us.take n++us.drop n:=(Zc n us).symm
 conv=>rhs; rw [h]
 unfold mj;rw [YH,List.sum_append];omega
def MV (us:List cd) (n:Nat):(et 0 (us.take n)).length<=(et 0 us).length:=by
 have e:∀ (a b:List cd) (k:Nat),et k (a++b)=et k a++et (k+a.length) b:=by
  intro a
  induction a with
  | nil=>intro b k; simp [et]
  | cons x a d =>
   intro b k;rw [ae9,et,et,d,YV,Zi,show k+1+a.length=k+(a.length+1) from ad]
 have h:=e (us.take n) (us.drop n) 0;rw [Zc] at h;rw [h,Yy];omega
def P9 {J0:List Xab->Hp->Prop} {h0 h:Hp} {A B:Nat} {w:LW} {lb:cr} {us:List cd} {pp:Xac} {ll cc:Nat}
  (pw:fS h0) (tb0:Bh h0) (hA:h0.size<=A) (Y:A<B) (e0:Ext h0 h) (Z:bI h A 54 [.int .i64 0,.int .i64 0,.string ⟨#[]⟩]) (s:Ec h B mM lb 0 w)
  (v:xS h0 pp ll us) (r:Gb us) (sm:Jk us) (i0:WI w (bZ 0 us) ((et 0 us).map jS))
  (U:me us=match fN w 0 us with
   | some q=>.error ⟨23,q.1,q.2⟩
   | none=>match nv (vY w us) with
    | some i=>.error ⟨24,((et 0 us).map fun q=>(q.1,q.2.1)).getD i (0,dJ) |>.1,((et 0 us).map fun q=>(q.1,q.2.1)).getD i (0,dJ) |>.2⟩
    | none=>.ok ⟨w,us,vY w us⟩) :
  WM ⟨A,0,none⟩ ⟨B+3,0,none⟩ none pp ll cc [J0] (MC h0 us) h:=by
 unfold WM bz aK dU bq aP dl;have hll:=v.len;have hmany:=r.many;have hlwb:=r.Kl i0;have s0:pa h B w mM lb ((0:Nat):Int) 0 (2*0) (fun _=>Wo):=⟨s.box,s.maps,s.oc,SL.nil _ _ _ _,lE.nil _ _ _⟩
 refine aS (cs:=OT) (fun y m' h'=>∃ (n:Nat) (usl el kl:cr) (S:Nat->kx),y.1=none/\y.2.1=(el.p,el.l,el.c)/\y.2.2.1=(kl.p,kl.l,kl.c)/\y.2.2.2.1=(n:Int)/\n<=us.length/\m'=us.length-n/\Ext h0 h'/\bI h' A 54 [.int .i64 0,.int .i64 0,.string ⟨#[]⟩]/\pa h' B w usl lb ((mj (us.take n):Nat):Int) n (2*n) S /\
   CN h' (B+4) el kl (vY w (us.take n)) ((et 0 (us.take n)).map jS)/\fN w 0 us=fN w n (us.drop n)/\∀ j,(hj:j<n)->(hx:j<us.length)->(S (2*j)).ws.map (·.2)=us[j].text.map (w.ff j)/\(S (2*j+1)).ws.map (·.2)=us[j].data.map (w.ff j))
  (none,(none,0,0),(none,0,0),(0:Int),()) us.length rfl
  ⟨0,mM,mM,mM,fun _=>Wo,rfl,rfl,rfl,rfl,ad,ad,e0,Z,by simpa [mj] using s0,⟨⟨[],⟨SL.nil _ _ _ _,aj,List.Pairwise.nil,aj⟩,rfl⟩,SL.nil _ _ _ _⟩,rfl,by intro j hj; omega⟩ ?_
 clear e0 Z s s0;rintro ⟨p13,⟨p14,l15,l16⟩,⟨p17,l18,l19⟩,n20,⟨⟩⟩ m' h1 ⟨n,usl,el,kl,S,hy1,hy2,hy3,hy4,hnl,rfl,e1,Z,s,V,d,hS⟩;simp only [Prod.mk.injEq] at hy1 hy2 hy3 hy4;obtain ⟨rfl,rfl,rfl⟩:=hy2;obtain ⟨rfl,rfl,rfl⟩:=hy3;subst hy1 hy4;refine ak ?_;refine aM (fun q=>?_) (fun q=>?_)
 ·have J:n<us.length:=ad
  obtain ⟨a,ta,tb,tc,td,ha,hc,hu⟩:=v.cells n J;have F:=YD J;have X:us.take (n+1)=us.take n++[us[n]]:=Yw J;have htl:(us.take n).length=n:=by rw [YQ]; omega
  rw [Az w us n J] at d;have hre:=r.bh F;have hrr:=r.right _ F;have G:=fun x hx=>sm.C3 r F (x:=x) hx
  have hsu:=Hc us n;have hsu2:=F8 us;have hit:=sm.items;have hek:=MV us n;have hek2:=r.eqs;generalize hux:us[n]=u at hc hu X d hre hrr G;refine ax ⟨ad,ad⟩ (av ha ?_);rw [show Int.toNat (n:Int)=n from ad];refine ay ((ta.p,ta.l,ta.c),(tb.p,tb.l,tb.c),(tc.p,tc.l,tc.c),(td.p,td.l,td.c),()) (aT e1 aj _ _ hc) (ak ?_);refine PQ rfl rfl pw tb0 hA Y e1 Z s hlwb V hu G hrr ad ad ad (by unfold vY; rw [Yu]; omega) (by rw [Yu]; omega) ad ad ?_ ?_
  ·intro h' q E hq;refine ⟨E,?_⟩;rw [hq] at d;rw [U,d]
  ·intro h' el' kl' usl' S' E ba' s' es' hb O h1 h2;rw [hb] at d;refine ⟨us.length-(n+1),ad,n+1,usl',el',kl',S',rfl,rfl,rfl,rfl,ad,rfl,E,ba',?_,?_,d,fun j hj hx=>?_⟩
   ·rw [X,Hl];exact s'
   ·rw [X,N2,KE,htl];exact es'
   ·by_cases hjn:j=n
    ·subst hjn;rw [hux];exact ⟨h1,h2⟩
    ·rw [O _ ad,O _ ad];exact hS j ad hx
 ·have hn:n=us.length:=ad
  subst hn;rw [ZU (YI _)] at d;rw [YW (YI _)] at s V;have d:fN w 0 us=none:=d;rw [d] at U;exact Qc hA Y e1 Z s V r sm i0 d (fun n hn=>hS n hn hn) U
def Rb {h:Hp} (pw:fS h) (tb0:Bh h) {p:Xac} {l c:Nat} {us:List cd} (v:xS h p l us) (sm:Jk us):HC Tryz.prog 18 #[.slice p l c] h (MC h us):=by
 refine aY (args:=[.slice p l c]) mixed Tryz.func18 az (zE p l c) ?_;unfold yu bf bg bz aK ct gS bJ bt bU bm aH bn bq bX aP bR dl;have hll:=v.len;have hmany:=v.many;refine br ?_;intro h1 b1 e1 z1;refine ar (fun q=>?_) (fun q=>?_)
 ·have q:l=0:=by
   have:=Yz q
   omega
  refine aw b1 rfl aj ?_;intro h2 F k2 z2;have F:bI h2 h.size 54 [.int .i64 25,.int .i64 0,.string ⟨#[]⟩]:=F;refine af F ((25:Int),(0:Int),(⟨#[]⟩:Xaa),()) rfl ?_;refine ⟨bQ e1 k2,?_⟩;unfold me;rw [YC ad] <;> rfl
 have O:¬ us.length=0:=by
  have:=YG q
  omega
 refine ar (fun q=>?_) (fun q=>?_)
 ·have q:=Yz q;refine aw b1 rfl aj ?_;intro h2 F k2 z2;have F:bI h2 h.size 54 [.int .i64 4,.int .i64 0,.string ⟨#[]⟩]:=F;refine af F ((4:Int),(0:Int),(⟨#[]⟩:Xaa),()) rfl ?_;refine ⟨bQ e1 k2,?_⟩;unfold me;rw [Yx O,YC ad] <;> rfl
 have G:¬ 64<us.length:=by
  have:=YG q
  omega
 have hlp1:∀ n,us.findIdx? (fun u=>decide (eO u≠0))=some n->me us=.error ⟨31,n,dJ⟩:=by
  intro n hn;unfold me;rw [Yx O,Yx G,hn]
 refine aS (cs:=[(false,[.pointer 0]),(false,[.int .i64])]) (fun y m' h'=>∃ n:Nat,y.1=none/\y.2.1=(n:Int)/\n<=us.length/\m'=us.length-n/\Ext h h'/\bI h' h.size 54 [.int .i64 0,.int .i64 0,.string ⟨#[]⟩]/\∀ j,(U:j<n)->(hx:j<us.length)->eO us[j]=0) (none,(0:Int),()) us.length rfl
  ⟨0,rfl,rfl,ad,ad,e1,b1,by intro j U; omega⟩ ?_
 clear e1 b1;rintro ⟨p2,n3,⟨⟩⟩ m' h2 ⟨n,hy1,hy2,hnl,rfl,e2,F,V⟩;simp only at hy1 hy2;subst hy1 hy2;refine ak ?_;refine aM (fun q=>?_) (fun q=>?_)
 ·have hlt:n<us.length:=ad
  obtain ⟨a,X,Y,Z,td,ha,hc,hu⟩:=v.cells n hlt;refine ax ⟨ad,ad⟩ (av ha ?_);rw [show Int.toNat (n:Int)=n from ad];refine ay ((X.p,X.l,X.c),(Y.p,Y.l,Y.c),(Z.p,Z.l,Z.c),(td.p,td.l,td.c),()) (aT e2 aj _ _ hc) (ak ?_);refine br ?_;intro h3 b3' e3 z3;refine aw b3' rfl aj ?_;intro h4 b4 k4 z4;have b4:bI h4 h2.size 47 [X.v,Y.v,Z.v,td.v]:=b4;have e24:Ext h2 h4:=bQ e3 k4;have e04:=e2.trans e24;refine af b4 ((X.p,X.l,X.c),(Y.p,Y.l,Y.c),(Z.p,Z.l,Z.c),(td.p,td.l,td.c),()) rfl (ak ?_);refine aI (wb (tb0.an e04 aj) (hu.an e04)) ?_;rintro _ h5 ⟨rfl,e5⟩;refine ⟨(((eO us[n]:Nat):Int),()),rfl,ak ?_⟩;have b5:=F.an (e24.trans e5) aj;have e05:=e04.trans e5;refine ar (fun q=>?_) (fun q=>?_)
  ·have hne:eO us[n]≠0:=by
    intro h0;rw [h0] at q;exact absurd q cm
   refine aw b5 rfl aj ?_;intro h6 b6 k6 z6;have b6:bI h6 h.size 54 [.int .i64 31,.int .i64 (n:Int),.string ⟨#[]⟩]:=b6;refine af b6 ((31:Int),(n:Int),(⟨#[]⟩:Xaa),()) rfl ?_;refine ⟨bQ e05 k6,?_⟩;rw [hlp1 n (by
    rw [YX];exact ⟨hlt,YA hne,fun j U=>by rw [V j U ad]; decide⟩)]
   rfl
  ·have hz:eO us[n]=0:=by
    have hb:(((eO us[n]:Nat):Int) != 0)=false:=q
    by_cases h0:eO us[n]=0
    ·exact h0
    ·have:(((eO us[n]:Nat):Int) != 0)=true:=by
      rw [bne_iff_ne];omega
     rw [this] at hb;cases hb
   have hw:=gu n;rw [hw];refine aG (cs:=[(false,[.pointer 0]),(false,[.int .i64])]) (none,((n+1:Nat):Int),()) (us.length-(n+1)) rfl ad rfl ⟨n+1,rfl,rfl,ad,rfl,e05,b5,fun j U hx=>?_⟩
   by_cases hjn:j=n
   ·subst hjn; exact hz
   ·exact V j ad hx
 ·have hn:n=us.length:=ad
  subst hn;have r:Gb us:=⟨fun u hu=>by
   obtain ⟨j,U,rfl⟩:=Y0 hu;exact V j U U,ad⟩
  have hfi:us.findIdx? (fun u=>decide (eO u≠0))=none:=by
   rw [Ze];intro u hu;rw [r.right u hu];decide
  have q2:=F.lt;refine Mq (kv:=PI) (en:=eI) ?_;intro h3 m3 e3 z3;refine Mq (kv:=PI) (en:=eI) ?_;intro h4 m4 e4 z4;refine yy (en:=eI) ?_;intro h5 m5 e5 z5;refine br ?_;intro h6 b6 e6 z6;have e26:=((e3.trans e4).trans e5).trans e6;have z4':h4.size=h2.size+2:=ad
  have z5':h5.size=h2.size+3:=ad
  rw [z3] at m4;rw [z4'] at m5;rw [z5',z3,z4'] at b6;rw [z5'];have p6:Ec h6 h2.size mM mM 0 Sz:=⟨b6,⟨((m3.an e4 aj).an e5 aj).an e6 aj,(m4.an e5 aj).an e6 aj,m5.an e6 aj⟩,SL.nil _ _ _ _⟩
  have v2:=v.an e2;have hit:=sm.items;refine aI (GP (c:=c) rfl e26 p6 v2 (by show 0+uQ us<=_; omega) ad rfl) ?_;rintro _ h7 ⟨rfl,lb7,p7,e7⟩;refine ⟨(),rfl,ak ?_⟩;refine aI (JL (c:=c) rfl e7 p7 v2 ad) ?_;rintro _ h8 ⟨e8,hq⟩;have b28:=F.an e8 aj;have z8:=e8.size;have w0:=SE r.right;cases hM:kQ 0 us (nC 0 us Sz) with
  | error q =>
   rw [hM] at hq;subst hq;refine ⟨((22:Int),(q.1:Int),q.2,true,()),rfl,ak ?_⟩;refine br ?_;intro h9 b9' e9 z9;refine aw b9' rfl aj ?_;intro h10 J k10 z10;have J:bI h10 h8.size 54 [.int .i64 22,.int .i64 (q.1:Int),.string q.2]:=J;have d:Ext h8 h10:=bQ e9 k10;refine bk rfl ?_;refine af J ((22:Int),(q.1:Int),q.2,()) rfl ?_;refine ⟨⟨J.cells _ rfl,trivial⟩,?_⟩;refine aw (b28.an d aj) rfl aj ?_;intro h11 b11 k11 z11;have b11:bI h11 h.size 54 [.int .i64 22,.int .i64 (q.1:Int),.string q.2]:=b11;refine af b11 ((22:Int),(q.1:Int),q.2,()) rfl ?_;refine ⟨bQ ((e2.trans e8).trans d) k11,?_⟩;unfold me;rw [Yx O,Yx G,hfi];simp only [hM] <;> rfl
  | ok w =>
   rw [hM] at hq;obtain ⟨rfl,p8⟩:=hq;refine ⟨((0:Int),(0:Int),(⟨#[]⟩:Xaa),false,()),rfl,ak ?_⟩;refine br ?_;intro h9 b9' e9 z9;refine aw b9' rfl aj ?_;intro h10 J k10 z10;have d:Ext h8 h10:=bQ e9 k10;refine bG rfl ?_;have e010:=(e2.trans e8).trans d;refine P9 (cc:=c) pw tb0 (YI _) q2 e010 (b28.an d aj) (p8.an d) v r sm (w0.meet hM) ?_;unfold me;rw [Yx O,Yx G,hfi];simp only [hM];cases fN w 0 us with
   | some q=>rfl
   | none =>
    cases nv (vY w us) with
    | some i=>rfl
    | none=>rfl
structure Fk (h:Hp) (b:Nat) (s:cr) (ws:List (cr × cB)):Prop where
 out:SL h b 71 10 s.p s.l s.c (ws.map tJ)
 fq:∀ u,u∈ws->SL h b 117 2 u.1.p u.1.l u.1.c (u.2.e.ai.map df)
def Fk.vd {h:Hp} {b:Nat} {s:cr} {ws:List (cr × cB)} (o:Fk h b s ws):U' h s.p s.l ws :=
 ⟨by have:=o.out.1; rwa [Yu] at this,fun i hi=>by
  obtain ⟨a,d,hc⟩:=o.out.cells (i:=i) (by simpa using hi);rw [YE] at hc;exact ⟨a,d,hc⟩⟩
def Xw (u:Xac) (j l17:Nat):T :=
   T.loop [aP] [.int .i64 (0:Int)] <| fun (d:Int) =>
   bz d j
    (T.need (dU d j) <|
    T.bi u <| fun (F:Xax) =>
    T.ah ((F.add (aK d 10)).add 7) [.slice 117] <| fun (G:Xac) (J:Nat) (O:Nat) =>
    bJ 42 [.slice G J O] false [(false,[.slice 117])] <| fun (U:Xac) (V:Nat) (X:Nat) =>
    T.need (dU d j) <|
    T.bi u <| fun (a26:Xax) =>
    T.aC ((a26.add (aK d 10)).add 7) [.slice U V X] <|
    T.again 0 [.int .i64 (bm (d+(1:Int)))])
    (T.ret (.slice u j l17))
def wY (h:Hp) (us:List cB) (v:Xab) (h':Hp):Prop:=Ext h h'/\∃ s ws,v=cr.v s/\Fk h' h.size s ws/\ws.map (·.2)=us
def TC {h0 h:Hp} {b0:Nat} {s:cr} {ws:List (cr × cB)} (e0:Ext h0 h) (o:SL h h0.size 71 10 s.p s.l s.c (ws.map tJ)) (F:∀ u,u∈ws->SL h0 b0 117 2 u.1.p u.1.l u.1.c (u.2.e.ai.map df)) (hl:ws.length<=2^30) (ht:∀ u,u∈ws->u.2.e.ai.length<=2^40) :
  Xw s.p s.l s.c [] (wY h0 (ws.map (·.2))) h:=by
 unfold Xw bz aK bJ bm dU aP;have hsl:s.l=ws.length:=by have:=o.1; rwa [Yu] at this
 have z0:=e0.size
 refine aS (cs:=[(false,[.int .i64])]) (fun y m' h'=>∃ (i:Nat) (vs:List (cr × cB)),y.1=(i:Int)/\i<=ws.length/\m'=ws.length-i/\Ext h0 h'/\SL h' h0.size 71 10 s.p s.l s.c (vs.map tJ)/\vs.length=ws.length /\
   ∀ m,(hm:m<ws.length)->(U:m<vs.length)->vs[m].2=ws[m].2/\if m<i then SL h' h0.size 117 2 vs[m].1.p vs[m].1.l vs[m].1.c (vs[m].2.e.ai.map df) else vs[m]=ws[m]) ((0:Int),()) ws.length rfl
  ⟨0,ws,rfl,ad,ad,e0,o,rfl,fun m hm U=>⟨rfl,by rw [Yx ad]⟩⟩ ?_
 clear e0 o z0;rintro ⟨n18,⟨⟩⟩ m' h1 ⟨i,vs,hi,hil,rfl,e1,o,V,ec⟩;simp only at hi;subst hi;refine ak ?_;have z1:=e1.size;refine aM (fun q=>?_) (fun q=>?_)
 ·have O:i<ws.length:=ad
  have d:i<vs.length:=ad
  have hi:=(ec i O d).2;rw [Yx ad] at hi;obtain ⟨a,ha,hc⟩:=o.cells (i:=i) (by simpa using d);rw [YE,hi] at hc;have F:=F ws[i] (YD O);have ht:=ht ws[i] (YD O);generalize hu:ws[i]=u at F hc ht;refine ax ⟨ad,ad⟩ (av ha ?_);rw [show Int.toNat (i:Int)=i from ad];refine ay ((u.1.p,u.1.l,u.1.c),()) (eJ 1 [_,_,_] 0 (iY _ 7 0 (gP 7 _ 0 hc))) (ak ?_);refine aI (Gq (c:=u.1.c) (wN (F.an e1 aj)) ht) ?_;rintro _ h2 ⟨⟨p',l',c',rfl,s2⟩,e2⟩;refine ⟨((p',l',c'),()),rfl,ak ?_⟩;refine ax ⟨ad,ad⟩ (av ha ?_);have o2:=o.an e2 aj;refine SL.part (P:=Tryz.prog) o2 (i:=i) (by rw [Yu]; exact d) (o:=7) aj (by simp [cU]) ha ?_;intro h3 o3 k3 z3;have X:(vs.map tJ).set i (lh ((vs.map tJ)[i]'(by rw [Yu]; exact d)) 7 [.slice p' l' c'])=(vs.set i (⟨p',l',c'⟩,u.2)).map tJ:=by
   rw [ax9,YE,hi,hu] <;> rfl
  rw [X] at o3;have hw:=gu i;rw [hw];refine aG (cs:=[(false,[.int .i64])]) (((i+1:Nat):Int),()) (ws.length-(i+1)) rfl ad rfl ?_;refine ⟨i+1,_,rfl,ad,rfl,Ch.trans (e1.trans e2) k3 (fun j Y hl=>by have:=(o2.cv Y).1; omega),o3,by rw [Zy]; exact V,fun m hm U=>?_⟩
  by_cases Z:m=i
  ·subst Z;rw [YC ad,List.getElem_set_self,hu];exact ⟨rfl,(s2.bP k3 (fun j Y hm=>vp o2 s2 cm j hm Y)).mono z1⟩
  ·have G:m<vs.length:=ad
   have:=ec m hm G
   rw [List.getElem_set_ne (Ne.symm Z)];refine ⟨this.1,?_⟩;have this:=this.2
   by_cases J:m<i
   ·rw [YC J] at this;rw [YC ad]
    have:=this.an e2 aj
    exact this.bP k3 (fun j Y hm=>vp o2 this cm j hm Y)
   ·rw [Yx J] at this;rw [Yx ad];exact this
 ·have hi:i=ws.length:=ad
  subst hi;refine ⟨e1,s,vs,rfl,⟨o,fun u hu=>?_⟩,?_⟩
  ·obtain ⟨m,hm,rfl⟩:=Y0 hu
   have:=(ec m ad hm).2
   rwa [YC ad] at this
  ·refine bq9 (by rw [Yu,Yu]; exact V) fun m hm1 G=>?_
   rw [Yu] at hm1 G;rw [YE,YE];exact (ec m G hm1).1
section
variable {h:Hp} {B N M:Nat} {w:LW} {usl lb:cr} {sp:Int} {S:Nat->kx}
def Mk (s:pa h B w usl lb sp N M S):wz Tryz.prog 21 [ptr (B+3)] h (.int .i64 (N:Int)):=by
 refine ei mixed Tryz.func21 az (nL (some ⟨B+3,0,none⟩)) ?_;unfold jf;refine av rfl ?_;refine af s.box ((usl.p,usl.l,usl.c),()) rfl ?_;have d:usl.l=N:=by have:=s.un.1; rwa [jG] at this
 exact ⟨by rw [<- d],rfl⟩
def tR (S:Nat->kx) (N:Nat) (n k:Int):List cB:=if 0<=n/\n<N/\(k=0\/k=1) then (S (2*n.toNat+k.toNat)).ws.map (·.2) else []
def pI (h:Hp):wY h [] (.slice none 0 0) h:=⟨Ch.refl _ _,mM,[],rfl,⟨SL.nil _ _ _ _,aj⟩,rfl⟩
def Ml (s:pa h B w usl lb sp N M S) (hM:2*N<=M) (hN:N<=2^30) (hs:∀ k,k<2*N->(S k).ws.length<=2^30/\∀ u,u∈(S k).ws->u.2.e.ai.length<=2^40) (n k:Int) (hn:-9223372036854775808<=n/\n<=9223372036854775807) :
  HC Tryz.prog 22 #[ptr (B+3),.int .i64 n,.int .i64 k] h (wY h (tR S N n k)):=by
 refine aY (args:=[ptr (B+3),.int .i64 n,.int .i64 k]) mixed Tryz.func22 az (nw (some ⟨B+3,0,none⟩) n k) ?_;unfold jh bf bg bz aK bJ bq aP;have hul:usl.l=N:=by have:=s.un.1; rwa [jG] at this
 have d:¬ (0<=n/\n<N/\(k=0\/k=1))->tR S N n k=[]:=fun h=>by unfold tR; rw [Yx h]
 refine ar (fun q=>?_) (fun q=>?_)
 ·have q:=Yz q;rw [d ad];exact pI h
 have q1:=YG q;refine av rfl ?_;refine af s.box ((usl.p,usl.l,usl.c),()) rfl (ak ?_);refine ar (fun q=>?_) (fun q=>?_)
 ·have q:=Yz q;rw [d ad];exact pI h
 have q2:=YG q;refine ar (fun q=>?_) (fun q=>?_)
 ·have q:=Yz q;rw [d ad];exact pI h
 have q3:=YG q;refine ar (fun q=>?_) (fun q=>?_)
 ·have q:=Yz q;rw [d ad];exact pI h
 have q4:=YG q;have O:n.toNat<N:=ad
 obtain ⟨a,ha,hc⟩:=s.un.cells (i:=n.toNat) (by rw [jG]; exact O);rw [CI] at hc;generalize Z:n.toNat=m at hc O;have G:∀ j,j<2->∃ F:cr,F=(S (2*m+j)).s/\U' h F.p F.l (S (2*m+j)).ws:=by
  intro j hj;have hs:=s.xp.sec (2*m+j) ad;exact ⟨_,rfl,Fk.vd (b:=B+4) ⟨hs.out,hs.fq⟩⟩
 have hit:k=0\/k=1->tR S N n k=(S (2*m+k.toNat)).ws.map (·.2):=fun hk=>by
  unfold tR;rw [YC ⟨ad,ad,hk⟩,Z]
 refine av rfl ?_;refine af s.box ((usl.p,usl.l,usl.c),()) rfl (ak ?_);refine ax ⟨ad,ad⟩ (av ha ?_);obtain ⟨F,U,va⟩:=G 0 ad;obtain ⟨V,X,vb⟩:=G 1 ad;have hc:aJ h (a.add (m*4)) 0 [F.v,V.v,mM.v,mM.v]:=by rw [U,X]; exact hc
 refine ay ((F.p,F.l,F.c),()) (eJ 1 _ 0 hc) (ak ?_);have Y:∀ (j:Nat) (t:cr),j<2->t=(S (2*m+j)).s->U' h t.p t.l (S (2*m+j)).ws->(T.call Tryz.prog 41 [.slice t.p t.l t.c] false [(false,[.slice 71])] fun p l c=>Xw p l c) [] (wY h ((S (2*m+j)).ws.map (·.2))) h:=by
  intro j t hj ht vt;have J:=hs (2*m+j) ad;have se:=s.xp.sec (2*m+j) ad;refine aI (CL (c:=t.c) vt J.1) ?_;rintro _ h1 ⟨⟨p',c',rfl,s1⟩,e1⟩;refine ⟨((p',t.l,c'),()),rfl,ak ?_⟩;exact TC (s:=⟨p',t.l,c'⟩) e1 s1 se.fq J.1 J.2
 refine ar (fun q=>?_) (fun q=>?_)
 ·have hk:k=1:=by simpa using q
  rw [hit (.inr hk),hk];refine av rfl ?_;refine af s.box ((usl.p,usl.l,usl.c),()) rfl (ak ?_);refine ax ⟨ad,ad⟩ (av ha ?_);refine ay ((V.p,V.l,V.c),()) (eJ 1 [_,_,_] 0 (iY _ 1 0 (gP 1 _ 0 hc))) (ak ?_);exact Y 1 V ad X vb
 ·have hk:k=0:=by
   have:¬ k=1:=by
    intro h;rw [h] at q;exact absurd q cm
   omega
  rw [hit (.inl hk),hk];exact Y 0 F ad U va
def Uf {h:Hp} {b:Nat} {e:TypeId} {sz:Nat} {p:Xac} {l c:Nat} {xs:List (List Xab)} (s:SL h b e sz p l c xs):(p=none/\xs=[])\/∃ a,p=some a/\aJ h a 0 xs.flatten:=by
 cases p with
 | none=>exact .inl ⟨rfl,s.2.2.2⟩
 | some a =>
  refine .inr ⟨a,rfl,?_⟩
  have:=fP (h:=h) (a:=a) (sz:=sz) xs 0 s.2.1 (fun i hi=>by
   obtain ⟨a',d,hc⟩:=s.cells hi;cases d;rw [Y7];exact hc)
  rwa [ab9] at this
def HI (d:List Lb):(d.map AT).flatten.all cU=true:=by
 rw [Y1];intro v hv;obtain ⟨x,hx,hv⟩:=av9.1 hv;obtain ⟨t,_,rfl⟩:=YF.1 hx;simp only [AT,List.mem_cons,List.not_mem_nil,or_false] at hv;rcases hv with rfl | rfl | rfl | rfl <;> rfl
def JY (d:List Lb):∀ y,y∈d.map AT->y.length=4:=by
 intro y j;obtain ⟨u,_,rfl⟩:=YF.1 j;rfl
def Ks {h:Hp} {b:Nat} {p:Xac} {l c:Nat} {d:List Lb} (s:SL h b 112 4 p l c (d.map AT)) (hl:d.length<=2^30) :
  HC Tryz.prog 68 #[.slice p l c] h fun w h'=>(∃ p' c',w=.slice p' l c'/\SL h' h.size 112 4 p' l c' (d.map AT))/\Ext h h':=by
 refine aY (args:=[.slice p l c]) mixed Tryz.func68 az (ft p l c) ?_;unfold dE bt bq;have j:l=d.length:=by have:=s.1; rwa [Yu] at this
 cases p with
 | none =>
  refine bk rfl ?_;have h2:d=[]:=by simpa using s.2.2.2
  subst h2;subst j;exact ⟨⟨none,0,rfl,SL.nil _ _ _ _⟩,Ch.refl _ _⟩
 | some a =>
  refine bG rfl ?_;refine mv (e:=112) (z:=.agg #[.int .i64 0,.int .i64 0,.int .i64 0,.string ⟨#[]⟩]) (sz:=4) (by':=40) SJ VF rfl (Uf s) (by simpa using j) (JY d) (HI d) ad ad ?_;intro p' c' h' s' e';exact ⟨⟨p',c',rfl,s'⟩,e'⟩
def sO (s:pa h B w usl lb sp N M S) (hl:w.lb.length<=2^30):HC Tryz.prog 39 #[ptr (B+3)] h fun v h'=>Ext h h'/\∃ p l c,v=.slice p l c/\SL h' h.size 112 4 p l c (w.lb.map AT):=by
 refine aY (args:=[ptr (B+3)]) mixed Tryz.func39 az (mK (some ⟨B+3,0,none⟩)) ?_;unfold iE bJ;refine av rfl ?_;rw [aE];refine af s.box ((lb.p,lb.l,lb.c),()) rfl (ak ?_);refine aI (Ks (c:=lb.c) s.oc hl) ?_;rintro _ h1 ⟨⟨p',c',rfl,s1⟩,e1⟩;exact ⟨((p',lb.l,c'),()),rfl,e1,p',lb.l,c',rfl,s1⟩
end
def Tv:Xab:=.tuple #[.pointer none,.pointer none,.bool false,.bool true]
def Jy (us:List cd) (P:LP) (F:cd->List cB) (tw:List (cr × List (cr × cB))):Prop :=
 tw.length=us.length/\∀ n u x,us[n]?=some u->tw[n]?=some x->x.2.map (·.2)=(F u).map (P.ff n)
structure KY (h0 h':Hp) (us:List cd) (su:cr) (P:LP) (B:Nat) (usl lb:cr) (S:Nat->kx) (g b':Nat) (lb2 st sd:cr) (tw dw:List (cr × List (cr × cB))):Prop where
 le:h0.size<=B
 pg:pa h' B P.w usl lb ((mj us:Nat):Int) us.length (2*us.length) S
 PE:∀ n,(hn:n<us.length)->(S (2*n)).ws.map (·.2)=us[n].text.map (P.ff n)/\(S (2*n+1)).ws.map (·.2)=us[n].data.map (P.ff n)
 sz:∀ k,k<2*us.length->M7 (S k)
 pr:Bf h' g su lb2 st sd (bZ 0 us)
 tx:uI h' b' st tw
 dx:uI h' b' sd dw
 ti:Jy us P (·.text) tw
 di:Jy us P (·.data) dw
def XQ (h0:Hp) (us:List cd) (su:cr) (v:Xab) (h':Hp):Prop:=Ext h0 h' /\
 if tQ us=true then v=Tv else match me us with
 | .error _=>v=Tv
 | .ok P=>∃ B usl lb S g b' lb2 st sd tw dw,v=.tuple #[ptr (B+3),ptr g,.bool true,.bool true]/\KY h0 h' us su P B usl lb S g b' lb2 st sd tw dw
def Oi {us:List cd} {P:LP} (G:Pb us (.ok P)) (sm:Jk us) {ms:List cL} (hm:ms.map fk=(dR us (bZ 0 us) us).map fun y=>(y.1,eU (fe (dR us (bZ 0 us) us)) y.1)) {F:cd->List cB} (J:∀ u x,x∈F u->x.e∈cK u)
  {tw:List (cr × List (cr × cB))} (t:yA us (bZ 0 us) ms F us.length tw):Jy us P F tw:=by
 obtain ⟨z1,Y,Z,O,U,b1,V,f1⟩:=G;refine ⟨t.1,fun n u x hu hx=>?_⟩;rw [t.2 n u x hu hx];refine Zm fun y X=>?_
 have hn:=(YO.1 hu).1;have d:=J u y X;have j:P.w.bad n y.e=none:=by
  have h1:=mD us 0 b1 n hn;rw [Y7,(YO.1 hu).2,xm,Zx] at h1;exact h1 _ d
 have e1:=U.put b1 V hn j (sm.num u (Zp hu) _ d).1 hm;unfold LP.ff wR;rw [O,e1]
def Vr {h:Hp} (pw:fS h) (tb0:Bh h) {su:cr} {us:List cd} (v:xS h su.p su.l us) (sm:Jk us):HC Tryz.prog 12 #[.slice su.p su.l su.c] h (XQ h us su):=by
 refine aY (args:=[.slice su.p su.l su.c]) mixed Tryz.func12 az (rU su.p su.l su.c) ?_;unfold mW aX bJ bn bX;refine aQ (LO (c:=su.c) v) ?_;refine ar (fun q=>?_) (fun q=>?_)
 ·refine ⟨Ch.refl _ _,?_⟩;rw [YC q] <;> rfl
 ·have hq:∀ (w:Xab) (h':Hp),(Ext h h'/\match me us with
    | .error _=>w=Tv
    | .ok P=>∃ B usl lb S g b' lb2 st sd tw dw,w=.tuple #[ptr (B+3),ptr g,.bool true,.bool true]/\KY h h' us su P B usl lb S g b' lb2 st sd tw dw)->XQ h us su w h':=by
   intro w h' hh;refine ⟨hh.1,?_⟩;rw [Yx (by rw [q]; simp)];exact hh.2
  have Z:=Ap sm.num;refine aI (Rb (c:=su.c) pw tb0 v sm) ?_;rintro _ h1 ⟨e1,hl⟩;have v1:=v.an e1;cases hlp:me us with
  | error f =>
   rw [hlp] at hl Z hq;have hl:_=Ir f.qF f.unit f.name:=hl;subst hl;obtain ⟨hne,U⟩:=Z;refine ⟨(none,(f.qF:Int),(f.unit:Int),f.name,()),rfl,ak ?_⟩;refine br ?_;intro h2 b2 e2 z2;refine aw b2 rfl aj ?_;intro h3 V k3 z3;have V:bI h3 h1.size 54 [.int .i64 (f.qF:Int),.int .i64 (f.unit:Int),.string f.name]:=V;have J:Ext h1 h3:=bQ e2 k3;have hC:(fz us).qF=0->No us (Rn us):=by
    intro X;rcases U with U | ⟨_,⟨Y,w,A,hb⟩,_⟩
    ·rw [U] at X;exact absurd X hne
    ·exact FI sm Y A hb
   refine aI (BM (v1.an J) hC) ?_;rintro w4 h4 ⟨e4,O⟩;have hw:w4=Value.tuple #[.pointer none,PC f]:=by
    unfold CJ at O;rcases U with U | ⟨X,_,i,x,hx,hi,rfl⟩
    ·rw [YC (by rw [U]; exact hne),U] at O;exact O
    ·rw [Yx ad] at O;rcases O with ⟨i',x',d,hi',hw⟩ | ⟨_,_,_,_,_,_,_,_,d,_⟩
     ·rw [hx] at d;cases d;rw [hi] at hi';cases hi';exact hw
     ·rw [hx] at d;cases d
   subst hw;refine ⟨(none,(f.qF:Int),(f.unit:Int),f.name,()),rfl,ak ?_⟩;refine br ?_;intro h5 b5 e5 z5;refine aw b5 rfl aj ?_;intro h6 G k6 z6;have G:bI h6 h4.size 75 [.int .i64 (f.qF:Int),.int .i64 (f.unit:Int),.string f.name]:=G;have j:Ext h4 h6:=bQ e5 k6;have F:=V.an (e4.trans j) aj;have e06:=((e1.trans J).trans e4).trans j;refine af F ((f.qF:Int),()) rfl (ak ?_);refine af G ((f.qF:Int),()) rfl (ak ?_);refine bk aj ?_;rw [aE,aE];refine af F ((f.unit:Int),()) rfl (ak ?_);refine af G ((f.unit:Int),()) rfl (ak ?_);refine bk aj ?_;rw [aE,aE];refine af F (f.name,()) rfl (ak ?_);refine af G (f.name,()) rfl (ak ?_);refine bk aj ?_;refine af G ((f.qF:Int),()) rfl (ak ?_);have X:((f.qF:Int)==(0:Int))=false:=by
    have:¬ (f.qF:Int)=0:=ad
    simpa using this
   rw [X];refine bk rfl ?_;exact hq _ _ ⟨e06,rfl⟩
  | ok P =>
   rw [hlp] at hl Z hq;obtain ⟨B,usl,lb,S,hB,hv,pg,PE,X⟩:=hl;subst hv;have ag':=Z;obtain ⟨z1,Y,u1,d1,A1,b1,c1,f1⟩:=Z;refine ⟨(some ⟨B+3,0,none⟩,(0:Int),(0:Int),(⟨#[]⟩:Xaa),()),rfl,ak ?_⟩;refine br ?_;intro h2 b2 e2 z2;refine aw b2 rfl aj ?_;intro h3 V k3 z3;have V:bI h3 h1.size 54 [.int .i64 0,.int .i64 0,.string ⟨#[]⟩]:=V;have J:Ext h1 h3:=bQ e2 k3;refine aI (BM (v1.an J) (fun _=>FI sm Y A1 b1)) ?_;rintro _ h4 ⟨e4,O⟩;unfold CJ at O;rw [Yx ad] at O;rcases O with ⟨i',x',d,_⟩ | ⟨g,b',lb2,st,sd,tw,dw,ms,_,hw,hms,pr,tx,dx,ti,di⟩
   ·rw [f1] at d;cases d
   subst hw;refine ⟨(some ⟨g,0,none⟩,(0:Int),(0:Int),(⟨#[]⟩:Xaa),()),rfl,ak ?_⟩;refine br ?_;intro h5 b5 e5 z5;refine aw b5 rfl aj ?_;intro h6 G k6 z6;have G:bI h6 h4.size 75 [.int .i64 0,.int .i64 0,.string ⟨#[]⟩]:=G;have j:Ext h4 h6:=bQ e5 k6;have F:=V.an (e4.trans j) aj;have e16:=(J.trans e4).trans j;refine af F ((0:Int),()) rfl (ak ?_);refine af G ((0:Int),()) rfl (ak ?_);refine bk rfl ?_;rw [aE,aE];refine af F ((0:Int),()) rfl (ak ?_);refine af G ((0:Int),()) rfl (ak ?_);refine bk rfl ?_;rw [aE,aE];refine af F ((⟨#[]⟩:Xaa),()) rfl (ak ?_);refine af G ((⟨#[]⟩:Xaa),()) rfl (ak ?_);refine bk aj ?_;refine af G ((0:Int),()) rfl (ak ?_);refine bk rfl ?_;refine hq _ _ ⟨e1.trans e16,B,usl,lb,S,g,b',lb2,st,sd,tw,dw,rfl,hB,pg.ext e16,PE,X,pr.an j,tx.ext j,dx.ext j,?_,?_⟩
   ·exact Oi ag' sm hms (fun u x hx=>Y3 _ (Y3 _ (YT hx))) ti
   ·exact Oi ag' sm hms (fun u x hx=>Y3 _ (Y8 _ (YT hx))) di
end Go.Sx.Lk
namespace Go.Sx.Pn
open Go.Proofs Go.Sx.Ob Go.Sx.Lk
variable {ga:Nat} {pv:Xab}
structure wA (h:Hp) (p:Xac) (l:Nat) (rs:List Int):Prop where
 len:l=rs.length
 many:rs.length<=2^60
 cells:∀ i,(hi:i<rs.length)->∃ a,p=some a/\aJ h (a.add (i*1)) 0 [.int .i64 rs[i]]
def wA.an {h h':Hp} {p:Xac} {l:Nat} {rs:List Int} (v:wA h p l rs) (e:Ext h h'):wA h' p l rs :=
 ⟨v.len,v.many,fun i hi=>by
  obtain ⟨a,d,hc⟩:=v.cells i hi;exact ⟨a,d,aT e aj _ _ hc⟩⟩
def zt {h:Hp} {p:Xac} {l c:Nat} {rs:List Int} (v:wA h p l rs) (n:Int):HC Tryz.prog 43 #[.slice p l c,.int .i64 n] h fun w h'=>h'=h/\∃ m:Int,w=.int .i64 m/\(0<=m↔n∈rs):=by
 refine aY (args:=[.slice p l c,.int .i64 n]) mixed Tryz.func43 az (kG p l c n) ?_;unfold gk bf bg bz aK aP;have hl:=v.len;have hm:=v.many;refine aS (cs:=[(false,[.int .i64]),(false,[.int .i64])]) (fun y k h'=>∃ i:Nat,y.2.1=(i:Int)/\k=rs.length-i/\i<=rs.length/\h'=h/\n∉rs.take i) ((0:Int),(0:Int),()) rs.length rfl ⟨0,rfl,rfl,ad,rfl,aj⟩ ?_;rintro ⟨j,G,⟨⟩⟩ k h1 ⟨i,hi,rfl,u,rfl,hn⟩;simp only at hi;subst hi;refine ak ?_;refine aM (fun q=>?_) (fun q=>?_)
 ·have d:i<rs.length:=ad
  obtain ⟨a,F,hc⟩:=v.cells i d;refine ax ⟨ad,ad⟩ (av F ?_);rw [show Int.toNat (i:Int)=i from ad];refine ay (rs[i],()) hc (ak ?_);refine ar (fun r=>?_) (fun r=>?_)
  ·refine ⟨rfl,(i:Int),rfl,fun _=>?_,fun _=>ad⟩;rw [eq_of_beq r];exact YD d
  ·have hw:=gu i;refine aG (cs:=[(false,[.int .i64]),(false,[.int .i64])]) (j,((i+1:Nat):Int),()) (rs.length-(i+1)) rfl ad (YJ (fun z=>[Value.int .i64 j,Value.int .i64 z]) hw) ⟨i+1,rfl,rfl,ad,rfl,fun hm=>?_⟩;rw [Yw d] at hm;rcases YN.1 hm with hm | hm
   ·exact hn hm
   ·rw [YP.1 hm] at r;simp at r
 ·refine ⟨rfl,(-1:Int),rfl,fun h=>ad,fun hm=>absurd hm ?_⟩
  rwa [YW ad] at hn
def Ey {h:Hp} {p:Xac} {l c:Nat} {rs:List Int} (v:wA h p l rs) (n:Int):wz Tryz.prog 23 [.slice p l c,.int .i64 n] h (.bool (decide (n∈rs))):=by
 refine ei mixed Tryz.func23 az (jb p l c n) ?_;unfold fC ct;refine aI (zt v n) ?_;rintro _ h1 ⟨rfl,m,rfl,hm⟩;refine ⟨(m,()),rfl,ak ?_⟩;refine ⟨YJ Value.bool ?_,rfl⟩
 by_cases d:n∈rs
 ·rw [YA d,YA (hm.2 d)]
 ·rw [YB d,YB (fun j=>d (hm.1 j))]
def wL (n:Nat):Xaa:=⟨#[76]⟩++kZ n
def nW:List Lb->Nat->List (Xaa × Xab)->List (Xaa × Xab)
 | [],_,D=>D
 | y::d,n,D=>nW d (n+1) (iR D (wL n) (.bool ((y.s:Int)==0)))
def By (D:List (Xaa × Xab)):Prop:=∀ p,p∈D->∃ b,p.2=.bool b
def gB (D:List (Xaa × Xab)) (s:Xaa):Bool:=match look D s with
 | some (.bool b)=>b
 | _=>false
def RL {D:List (Xaa × Xab)} (a:By D) (s:Xaa):(look D s).getD (.bool false)=.bool (gB D s):=by
 unfold gB;cases hl:look D s with
 | none=>rfl
 | some v =>
  unfold look at hl;obtain ⟨p,d,rfl⟩:=ac9.1 hl;obtain ⟨b,j⟩:=a p (List.mem_of_find?_eq_some d);rw [j]; rfl
def Mf {D:List (Xaa × Xab)} (a:By D) (s:Xaa) (b:Bool):By (iR D s (.bool b)):=by
 intro p d;unfold iR at d;split at d
 ·obtain ⟨q,j,rfl⟩:=YF.1 d;split
  ·exact ⟨b,rfl⟩
  ·exact a q j
 ·rcases YN.1 d with d | d
  ·exact a p d
  ·rw [YP.1 d]; exact ⟨b,rfl⟩
theorem Gn:∀ (d:List Lb) (n:Nat) (D:List (Xaa × Xab)),By D->By (nW d n D)
 | [],_,_,a=>a
 | y::d,n,D,a=>Gn d (n+1) _ (Mf a _ _)
theorem A2:∀ (d:List Lb) (y:Lb) (n:Nat) (D:List (Xaa × Xab)),nW (d++[y]) n D=iR (nW d n D) (wL (n+d.length)) (.bool ((y.s:Int)==0))
 | [],y,n,D=>rfl
 | z::d,y,n,D=>by
  rw [ae9,nW,A2 d y (n+1),nW,Zi,Nat.add_assoc,Nat.add_comm 1]
def SO:Tryz.prog.underlying 58=some (.map 9 4):=az
def Sp:Tryz.prog.underlying 9=some .string:=az
def Wf:(Tryz.prog.info? 4).bind (·.zero)=some (.bool false):=az
def Ep {L:Lp} {K:Xab->Hp->Prop} {h:Hp} {g:Nat} {D:List (Xaa × Xab)} (m:dV h g D) (a:By D) (s:Xaa) {k:Bool->T} (hk:k (gB D s) L K h):T.ek Tryz.prog (Instr.lookup 58 (.map (some g)) (.string s) false) false [(false,[.bool])] k L K h:=by
 refine ix SO Sp Wf m s false _ ?_;refine ⟨(gB D s,()),?_,hk⟩;simp only [Bool.false_eq_true,if_false];rw [RL a] <;> rfl
def Ra {h:Hp} {g:Nat} {D:List (Xaa × Xab)} (m:dV h g D) (a:By D) (b:bI h ga 60 [pv,.map (some g)]) (s:Xaa) (n:Int):HC Tryz.prog 47 #[.agg #[.string s,.int .u32 n],.pointer (some ⟨ga,0,none⟩)] h fun w h'=>w=.bool (gB D s)/\Ext h h':=by
 refine aY (args:=[.agg #[.string s,.int .u32 n],.pointer (some ⟨ga,0,none⟩)]) mixed Tryz.func47 az (iZ s n ⟨ga,0,none⟩) ?_;unfold fB eA aH;refine br ?_;intro h1 b1 e1 z1;rw [aE];refine ay (some g,()) ((b.an e1 aj).cells _ rfl) (ak ?_);refine af b1 (s,()) rfl (ak ?_);refine Ep (m.an e1 aj) a s ?_;exact ⟨rfl,e1⟩
def Ku {h:Hp} {g:Nat} {D:List (Xaa × Xab)} (m:dV h g D) (a:By D) (b:bI h ga 60 [pv,.map (some g)]) {p:Xac} {l c:Nat} {ts:dc} (v:gW h p l ts) (hm:ts.length<=2^60) :
  HC Tryz.prog 70 #[.slice p l c,.func (.func 47) #[] #[.pointer (some ⟨ga,0,none⟩)]] h fun w h'=>Ext h h'/\∃ m:Int,w=.int .i64 m/\(0<=m↔ts.any (fun t=>gB D t.1)=true):=by
 refine aY (args:=[.slice p l c,.func (.func 47) #[] #[.pointer (some ⟨ga,0,none⟩)]]) mixed Tryz.func70 az (eK p l c ⟨ga,0,none⟩) ?_;unfold dk bf bg bz aK aH aP bR;have hl:=v.1;refine aS (cs:=[(false,[.int .i64]),(false,[.int .i64])]) (fun y k h'=>∃ i:Nat,y.2.1=(i:Int)/\k=ts.length-i/\i<=ts.length/\Ext h h'/\(ts.take i).any (fun t=>gB D t.1)=false) ((0:Int),(0:Int),()) ts.length rfl ⟨0,rfl,rfl,ad,Ch.refl _ _,aj⟩ ?_;rintro ⟨u,J,⟨⟩⟩ k h1 ⟨i,hi,rfl,F,e1,hn⟩;simp only at hi;subst hi;refine ak ?_;refine aM (fun q=>?_) (fun q=>?_)
 ·have d:i<ts.length:=ad
  obtain ⟨aa,G,hc⟩:=v.2 i d;have j:ts.take (i+1)=ts.take i++[ts[i]]:=Yw d;refine ax ⟨ad,ad⟩ (av G ?_);rw [show Int.toNat (i:Int)=i from ad];refine ay (ts[i].1,(ts[i].2:Int),()) (aT e1 aj _ _ hc) (ak ?_);refine rD (cap:=[.pointer (some ⟨ga,0,none⟩)]) az rfl (Ra (m.an e1 aj) a (b.an e1 aj) ts[i].1 (ts[i].2:Int)) ?_;rintro _ h2 ⟨rfl,e2⟩;refine ⟨(gB D ts[i].1,()),rfl,ak ?_⟩;refine ar (fun r=>?_) (fun r=>?_)
  ·refine ⟨e1.trans e2,(i:Int),rfl,fun _=>ZL.2 ⟨ts[i],YD d,r⟩,fun _=>ad⟩
  ·have hw:=gu i;refine aG (cs:=[(false,[.int .i64]),(false,[.int .i64])]) (u,((i+1:Nat):Int),()) (ts.length-(i+1)) rfl ad (YJ (fun z=>[Value.int .i64 u,Value.int .i64 z]) hw) ⟨i+1,rfl,rfl,ad,e1.trans e2,?_⟩;rw [j,bc9,hn];simpa using r
 ·refine ⟨e1,(-1:Int),rfl,fun h=>ad,fun hm=>?_⟩;rw [YW ad] at hn;rw [hn] at hm;cases hm
def Du {h:Hp} {g:Nat} {D:List (Xaa × Xab)} (m:dV h g D) (a:By D) (b:bI h ga 60 [pv,.map (some g)]) {p:Xac} {l c:Nat} {ts:dc} (v:gW h p l ts) (hm:ts.length<=2^60) :
  HC Tryz.prog 46 #[.slice p l c,.func (.func 47) #[] #[.pointer (some ⟨ga,0,none⟩)]] h fun w h'=>w=.bool (ts.any fun t=>gB D t.1)/\Ext h h':=by
 refine aY (args:=[.slice p l c,.func (.func 47) #[] #[.pointer (some ⟨ga,0,none⟩)]]) mixed Tryz.func46 az (eu p l c ⟨ga,0,none⟩) ?_;unfold da ct;refine aI (Ku m a b v hm) ?_;rintro _ h1 ⟨e1,k,rfl,hk⟩;refine ⟨(k,()),rfl,ak ?_⟩;refine ⟨YJ Value.bool ?_,e1⟩;rw [Z3,<- hk]
 simp
def Aj (nm:Nat->Xaa) (h:Hp):Prop:=∃ by_ e f,h[0]?=some (.cells (gw nm by_).toArray e f)
def Aj.an {nm:Nat->Xaa} {ws:List Nat} {h h':Hp} (t:Aj nm h) (k:Ch ws h h') (hw:0∉ws):Aj nm h':=by
 obtain ⟨by_,e,f,d⟩:=t;exact ⟨by_,e,f,k.get d hw⟩
def Aj.TZ {nm:Nat->Xaa} {h:Hp} (t:Aj nm h):Bh h:=by
 obtain ⟨by_,e,f,d⟩:=t;exact ⟨nm,by_,e,f,d⟩
def Aj.cells {nm:Nat->Xaa} {h:Hp} (t:Aj nm h) {k:Nat} (hk:k<43):∃ b:Int,aJ h ((⟨0,0,none⟩:Xax).add (k*3)) 0 [.string (nm k),.int .u8 b,.int .i64 (iN.getD k 0:Nat)]:=by
 obtain ⟨by_,e,f,d⟩:=t;refine ⟨by_ k,?_⟩;have u:∀ j,j<3->(gw nm by_)[k*3+j]?=([.string (nm k),.int .u8 (by_ k),.int .i64 (iN.getD k 0:Nat)]:List Xab)[j]?:=by
  intro j F;unfold gw;rw [oM _ 3 aj _ _ _ F];simp [hk]
 rw [aE];refine ⟨?_,?_,?_,trivial⟩
 ·rw [aE,jW d]
  have:=u 0 ad
  simpa using this
 ·rw [aE,jW d]
  have:=u 1 ad
  simpa using this
 ·rw [aE,jW d]
  have:=u 2 ad
  simpa using this
def KT (nm:Nat->Xaa) (op:Int):Xaa:=if cC op=0 then ⟨#[]⟩ else nm (op-1).toNat
def Us {nm:Nat->Xaa} {h:Hp} (t:Aj nm h) (op:Int) (h1:-9223372036854775808<=op) (h2:op<=9223372036854775807) :
  HC Tryz.prog 44 #[.int .i64 op] h fun w h'=>∃ b:Int,w=.tuple #[.agg #[.string (KT nm op),.int .u8 b,.int .i64 (cC op:Nat)],.bool (decide (cC op≠0))]/\Ext h h':=by
 refine aY (args:=[.int .i64 op]) mixed Tryz.func44 az (yw op) ?_;unfold zC bm bn bX;refine br ?_;intro g1 b1 e1 z1;have F:∀ (u:cC op=0),(∃ b:Int,(Value.tuple #[.agg #[.string ⟨#[]⟩,.int .u8 0,.int .i64 0],.bool false])=.tuple #[.agg #[.string (KT nm op),.int .u8 b,.int .i64 (cC op:Nat)],.bool (decide (cC op≠0))]) :=
  fun u=>⟨0,by unfold KT; rw [YC u,u]; rfl⟩
 refine ar (fun q=>?_) (fun q=>?_)
 ·have q:=Yz q;refine aw b1 rfl aj ?_;intro g2 d j z2;refine af d ((⟨#[]⟩:Xaa),(0:Int),(0:Int),()) rfl ?_;obtain ⟨b,e⟩:=F (by unfold cC; rw [YC q]);exact ⟨b,e,bQ e1 j⟩
 refine ar (fun r=>?_) (fun r=>?_)
 ·have r:=Yz r;refine aw b1 rfl aj ?_;intro g2 d j z2;refine af d ((⟨#[]⟩:Xaa),(0:Int),(0:Int),()) rfl ?_;obtain ⟨b,e⟩:=F (by
   by_cases g:cC op=0
   ·exact g
   ·have:=zQ op g
    omega)
  exact ⟨b,e,bQ e1 j⟩
 ·have q:=YG q;have r:=YG r;rw [wrap_i64 ad ad];refine ax ⟨ad,ad⟩ ?_;obtain ⟨b,hc⟩:=(t.an e1 aj).cells (k:=(op-1).toNat) ad;refine ay (nm (op-1).toNat,b,((iN.getD (op-1).toNat 0:Nat):Int),()) hc (ak ?_);refine aw b1 rfl aj ?_;intro g2 d j z2;refine af d (nm (op-1).toNat,b,((iN.getD (op-1).toNat 0:Nat):Int),()) rfl ?_;refine ⟨b,?_,bQ e1 j⟩;have h3:cC op=iN.getD (op-1).toNat 0:=by unfold cC; rw [Yx ad]
  have h4:cC op≠0:=by
   rw [h3]
   have:∀ k:Fin 43,iN.getD k.1 0≠0:=cm
   exact this ⟨(op-1).toNat,ad⟩
  rw [YA h4,show KT nm op=nm (op-1).toNat by unfold KT; rw [Yx h4],h3]
def kH (D:List (Xaa × Xab)) (x:cn):Bool:=match x.ai with
 | [t]=>((t.2:Int)==1) && ((x.num:Int)==0) && gB D t.1
 | _=>false
def yb (nm:Nat->Xaa) (D:List (Xaa × Xab)) (x:cB) (sec r:Int):Bool :=
 if r==1 then x.kind==2 && ((ByteArray.toList (KT nm x.inst.op))==[({ toBitVec:=106#8 }),({ toBitVec:=114#8 })])
 else if r==2 then x.kind==2 && nq x.inst.op && !kH D x.e
 else if r==3 then (x.kind==6 || (x.kind==2 && (((cC x.inst.op:Nat):Int)==10 || ((cC x.inst.op:Nat):Int)==11))) && x.e.ai.any fun t=>gB D t.1
 else if r==4 then x.kind==3 && sec==0 else false
def JQ {nm:Nat->Xaa} {h:Hp} (tn:Aj nm h) {g:Nat} {D:List (Xaa × Xab)} (m:dV h g D) (a:By D) {p0:Xac} {q:Xac} {l c:Nat} {x:cB} (v:js h q l x) (sec r:Int) :
  HC Tryz.prog 24 #[.agg #[.pointer p0,.map (some g)],.agg (encI q l c x).toArray,.int .i64 sec,.int .i64 r] h fun w h'=>w=.bool (yb nm D x sec r)/\Ext h h':=by
 refine aY (args:=[.agg #[.pointer p0,.map (some g)],.agg (encI q l c x).toArray,.int .i64 sec,.int .i64 r]) mixed Tryz.func24 az (lr p0 (some g) x.kind x.name x.inst.op x.inst.a x.inst.b x.inst.n x.inst.form q l c x.e.num x.n sec r) ?_;unfold gI aX bJ eA fA aH K3 bC dy bX bR;refine br ?_;intro h1 b1 e1 z1;refine br ?_;intro h2 b2 e2 z2;have b2:bI h2 h1.size 71 (encI q l c x):=b2;rw [aE,aE,aE];refine af b2 (x.inst.op,()) rfl (ak ?_);refine aI (Us ((tn.an e1 aj).an e2 aj) x.inst.op v.op.1 v.op.2) ?_;rintro _ h3 ⟨bb,rfl,e3⟩;refine ⟨(KT nm x.inst.op,bb,((cC x.inst.op:Nat):Int),decide (cC x.inst.op≠0),()),rfl,ak ?_⟩;refine br ?_;intro h4 b4 e4 z4;refine aw b4 rfl aj ?_;intro h5 V k5 z5;have V:bI h5 h3.size 120 [.string (KT nm x.inst.op),.int .u8 bb,.int .i64 (cC x.inst.op:Nat)]:=V;have e35:Ext h3 h5:=bQ e4 k5;have G:=e3.trans e35;have d:=(e1.trans e2).trans G;have j:=b2.an G aj;have X:=(b1.an e2 aj).an G aj;have m':=m.an d aj;have v':=v.an d;have tb':=(tn.an d aj).TZ;refine af j (x.kind,()) rfl (ak ?_);have cf:HC Tryz.prog 46 #[.slice q l c,.func (.func 47) #[] #[.pointer (some ⟨h.size,0,none⟩)]] h5 fun w h'=>w=.bool (x.e.ai.any fun t=>gB D t.1)/\Ext h5 h':=Du m' a X v'.lin.vw v'.lin.many
 cases Y:r==(1:Int) with
 | true =>
  refine bk rfl ?_;have J:yb nm D x sec r=(x.kind==2 && ((ByteArray.toList (KT nm x.inst.op))==[({ toBitVec:=106#8 }),({ toBitVec:=114#8 })])):=by unfold yb; rw [YC Y]
  rw [J];cases k2:x.kind==(2:Int) with
  | true =>
   refine bk rfl ?_;refine af V (KT nm x.inst.op,()) rfl (ak ?_);exact ⟨by rw [YU],d⟩
  | false=>exact bG rfl ⟨by rw [bu9],d⟩
 | false =>
 refine bG rfl ?_;cases r2:r==(2:Int) with
 | true =>
  refine bk rfl ?_;have J:yb nm D x sec r=(x.kind==2 && nq x.inst.op && !kH D x.e):=by unfold yb; rw [Yx (by rw [Y]; simp),YC r2]
  rw [J]
  have Z:∀ (L:Lp) (al:Bool),al=kH D x.e ->
    (cond (x.kind==(2:Int)) (T.ah ((⟨h1.size,0,none⟩:Xax).add 2) [.int .i64] <| fun (n29:Int)=>T.call Tryz.prog 45 [.int .i64 n29] false [(false,[.bool])] <| fun (b30:Bool)=>cond b30 (T.ret (.bool (!al))) (T.ret (.bool false))) (T.ret (.bool false))) L (fun w h'=>w=Value.bool (x.kind==2 && nq x.inst.op && !kH D x.e)/\Ext h h') h5:=by
   intro L al u;cases k2:x.kind==(2:Int) with
   | true =>
    refine bk rfl ?_;rw [aE];refine af j (x.inst.op,()) rfl (ak ?_);refine aI (Au tb' x.inst.op v.op.1 v.op.2) ?_;rintro _ h6 ⟨rfl,e6⟩;refine ⟨(nq x.inst.op,()),rfl,ak ?_⟩;cases hs:nq x.inst.op with
    | true=>exact bk rfl ⟨by rw [u]; rfl,d.trans e6⟩
    | false=>exact bG rfl ⟨rfl,d.trans e6⟩
   | false=>exact bG rfl ⟨rfl,d⟩
  have hl:=v'.lin.vw.1;have U:aJ h5 ⟨h1.size,0+7,none⟩ 0 [.slice q l c]:=j.cells _ rfl;have c8:aJ h5 ⟨h1.size,0+7+1,none⟩ 0 [.int .u32 (x.e.num:Int)]:=j.cells _ rfl;refine ay ((q,l,c),()) U (ak ?_);cases F:x.e.ai with
  | nil =>
   rw [F] at hl;refine bG (by rw [hl]; rfl) ?_;exact Z _ false (by unfold kH; rw [F])
  | cons t ts =>
   cases ts with
   | cons t2 ts =>
    rw [F] at hl;refine bG (by
     rw [hl,Zi,Zi]
     have:¬ ((ts.length+1+1:Nat):Int)=1:=ad
     simpa using this) ?_
    exact Z _ false (by unfold kH; rw [F])
   | nil =>
    rw [F] at hl;have u:kH D x.e=(((t.2:Int)==1) && ((x.e.num:Int)==0) && gB D t.1):=by unfold kH; rw [F]
    obtain ⟨aa,ha,hc⟩:=v'.lin.vw.2 0 (by rw [F]; simp);have hx0:x.e.ai[0]'(by rw [F]; simp)=t:=by simp [F]
    rw [hx0,ab9] at hc;have ha0:aa.add 0=aa:=by cases aa; rfl
    rw [ha0] at hc;have hc1:aJ h5 (aa.add 1) 0 [.int .u32 (t.2:Int)]:=⟨by rw [add_add]; exact hc.2.1,trivial⟩
    have hc0:aJ h5 aa 0 [.string t.1]:=⟨hc.1,trivial⟩
    refine bk (by rw [hl]; rfl) ?_;refine ay ((q,l,c),()) U (ak ?_);refine ax ⟨ad,by rw [hl]; simp⟩ (av ha ?_);refine ay ((t.2:Int),()) hc1 (ak ?_);cases k1:((t.2:Int)==1) with
    | false =>
     refine bG rfl ?_;exact Z _ false (by rw [u,k1]; rfl)
    | true =>
     refine bk rfl ?_;rw [aE];refine ay ((x.e.num:Int),()) c8 (ak ?_);cases k0:((x.e.num:Int)==0) with
     | false =>
      refine bG rfl ?_;exact Z _ false (by rw [u,k1,k0]; rfl)
     | true =>
      refine bk rfl ?_;refine af X (some g,()) rfl (ak ?_);refine ay ((q,l,c),()) U (ak ?_);refine ax ⟨ad,by rw [hl]; simp⟩ (av ha ?_);refine ay (t.1,()) hc0 (ak ?_);refine Ep m' a t.1 ?_;refine ⟨⟨U,c8,hc1,U,U,trivial⟩,?_⟩;exact Z _ (gB D t.1) (by rw [u,k1,k0]; rfl)
 | false =>
 refine bG rfl ?_;cases r3:r==(3:Int) with
 | true =>
  refine bk rfl ?_;have J:yb nm D x sec r=((x.kind==6 || (x.kind==2 && (((cC x.inst.op:Nat):Int)==10 || ((cC x.inst.op:Nat):Int)==11))) && x.e.ai.any fun t=>gB D t.1):=by
   unfold yb; rw [Yx (by rw [Y]; simp),Yx (by rw [r2]; simp),YC r3]
  rw [J];have O:∀ (L:Lp),(T.ah ((⟨h1.size,0,none⟩:Xax).add 7) [.slice 117] <| fun (p15:Xac) (l16:Nat) (l17:Nat)=>T.call Tryz.prog 46 [.slice p15 l16 l17,.func (Fn.func 47) #[] #[.pointer (some ⟨h.size,0,none⟩)]] false [(false,[.bool])] <| fun (b18:Bool)=>T.ret (.bool b18)) L (fun w h'=>w=Value.bool (x.e.ai.any fun t=>gB D t.1)/\Ext h h') h5:=by
   intro L;rw [aE];refine af j ((q,l,c),()) rfl (ak ?_);refine aI cf ?_;rintro _ h6 ⟨rfl,e6⟩;exact ⟨(x.e.ai.any (fun t=>gB D t.1),()),rfl,rfl,d.trans e6⟩
  refine af j (x.kind,()) rfl (ak ?_);cases k6:x.kind==(6:Int) with
  | true =>
   refine bG (by rw [bne,k6]; rfl) ?_;rw [Bool.true_or,YU];exact O _
  | false =>
   refine bk (by rw [bne,k6]; rfl) ?_;rw [ad9];cases k2:x.kind==(2:Int) with
   | true =>
    refine bk rfl ?_;rw [YU];rw [aE];refine af V (((cC x.inst.op:Nat):Int),()) rfl (ak ?_);cases s1:((cC x.inst.op:Nat):Int)==10 with
    | true =>
     refine bk rfl ?_;rw [Bool.true_or,YU];exact O _
    | false =>
     refine bG rfl ?_;refine af V (((cC x.inst.op:Nat):Int),()) rfl (ak ?_);cases s2:((cC x.inst.op:Nat):Int)==11 with
     | true =>
      refine bG rfl ?_;rw [Bool.or_true,YU];exact O _
     | false=>exact bk rfl ⟨rfl,d⟩
   | false=>exact bG rfl ⟨rfl,d⟩
 | false =>
 refine bG rfl ?_;cases r4:r==(4:Int) with
 | true =>
  refine bk rfl ?_;have J:yb nm D x sec r=(x.kind==3 && sec==0):=by
   unfold yb; rw [Yx (by rw [Y]; simp),Yx (by rw [r2]; simp),Yx (by rw [r3]; simp),YC r4]
  rw [J];refine af j (x.kind,()) rfl (ak ?_);cases k3:x.kind==(3:Int) with
  | true=>exact bk rfl ⟨by rw [YU],d⟩
  | false=>exact bG rfl ⟨rfl,d⟩
 | false =>
  refine bG rfl ⟨?_,d⟩;unfold yb; rw [Yx (by rw [Y]; simp),Yx (by rw [r2]; simp),Yx (by rw [r3]; simp),Yx (by rw [r4]; simp)]
def Kq {h:Hp} (pw:fS h) {B N M:Nat} {w:LW} {usl lb:cr} {sp:Int} {S:Nat->kx} (pg:pa h B w usl lb sp N M S) (hl:w.lb.length<=2^30) :
  HC Tryz.prog 20 #[ptr (B+3)] h fun v h'=>Ext h h'/\∃ g,h.size<=g/\v=.agg #[ptr (B+3),.map (some g)]/\dV h' g (nW w.lb 0 []):=by
 refine aY (args:=[ptr (B+3)]) mixed Tryz.func20 az (Bj (some ⟨B+3,0,none⟩)) ?_;unfold AE bf bg bz aK gS bJ bU bX aP;refine br ?_;intro h1 b1 e1 z1;show aU _ _ _ _;refine jM _ ?_;intro h2 m2 e2 z2;refine ⟨(some h1.size,()),rfl,ak ?_⟩;have G:=e1.trans e2;refine aI (sO (pg.ext G) hl) ?_;rintro _ h3 ⟨X,p,l,c,rfl,Z⟩;refine ⟨((p,l,c),()),rfl,ak ?_⟩;have e03:=G.trans X;have hll:l=w.lb.length:=by have:=Z.1; rwa [Yu] at this
 have q1:=e1.size;have q2:=e2.size;have q3:=X.size;have b3:=(b1.an e2 aj).an X aj;have bl:=fun i hi=>SL.cv Z (i:=i) hi
 refine aS (cs:=[(false,[.int .i64])]) (fun y k h'=>∃ i:Nat,y.1=(i:Int)/\k=w.lb.length-i/\i<=w.lb.length/\Ch [h1.size] h3 h'/\dV h' h1.size (nW (w.lb.take i) 0 [])) ((0:Int),()) w.lb.length rfl
  ⟨0,rfl,rfl,ad,Ch.refl _ _,m2.an X aj⟩ ?_
 rintro ⟨n6,⟨⟩⟩ k h4 ⟨i,hi,rfl,hle,J,m4⟩;simp only at hi;subst hi;refine ak ?_;have O:Ext h h4:=Ch.trans e03 J fun j F hx=>by simp at F; omega
 have hw:=gu i;have q4:=J.size;refine aM (fun q=>?_) (fun q=>?_)
 ·have U:i<w.lb.length:=ad
  have s4:=Z.bP J fun j F hm=>by
   rw [YP.1 hm] at F
   have:=bl _ F
   omega
  obtain ⟨a,ha,hc⟩:=SL.cells s4 (i:=i) (by rw [Yu]; exact U);rw [YE] at hc;have V:w.lb.take (i+1)=w.lb.take i++[w.lb[i]]:=Yw U;generalize w.lb[i]=y at hc V;refine ax ⟨ad,ad⟩ (av ha ?_);rw [show Int.toNat (i:Int)=i from ad];refine ay ((y.u:Int),(y.s:Int),(y.i:Int),y.n,()) hc (ak ?_);refine br ?_;intro h5 b5 e5 z5;refine aw b5 rfl aj ?_;intro h6 Y k6 z6;have Y:bI h6 h4.size 112 [.int .i64 (y.u:Int),.int .i64 (y.s:Int),.int .i64 (y.i:Int),.string y.n]:=Y;have d:Ext h4 h6:=bQ e5 k6;rw [aE];refine af Y ((y.s:Int),()) rfl (ak ?_);refine aI (zp ((pw.an O aj).an d aj) i ad) ?_;rintro _ h7 ⟨rfl,e7⟩;refine ⟨(kZ i,()),rfl,ak ?_⟩;refine ⟨⟨(Y.an e7 aj).cells _ rfl,trivial⟩,?_⟩;have hsz:=jw (n:=i) ad;have hml:2000<=maxLen:=cm
  refine ax ad ?_;have m7:=(m4.an d aj).an e7 aj;show aU _ _ _ _;refine fm SO Sp m7 (s:=wL i) (by show (_++_:Xaa).size<=_; rw [ZY]; show 1+_<=_; omega) _ _ ?_;intro h8 m8 k8 z8;refine aG (cs:=[(false,[.int .i64])]) (((i+1:Nat):Int),()) (w.lb.length-(i+1)) rfl ad (YJ (fun z=>[Value.int .i64 z]) hw) ⟨i+1,rfl,rfl,ad,?_,?_⟩
  ·exact Ch.trans (Ch.trans J (d.trans e7) aj) k8 (fun j F _=>F)
  ·rw [V,A2,YQ,Zz ad,Y7];exact m8
 ·have hi:i=w.lb.length:=ad
  subst hi;rw [Y4] at m4;have b4:=b3.an J (by simp; omega);refine aw b4 rfl aj ?_;intro h5 b5 k5 z5;refine af b5 (some ⟨B+3,0,none⟩,some h1.size,()) rfl ?_;exact ⟨bQ O k5,h1.size,ad,rfl,m4.an k5 (by simp; omega)⟩
structure Wh where
 u:Nat
 s:Nat
 i:Nat
 r:Nat
deriving DecidableEq
section
variable (nm:Nat->Xaa) (D:List (Xaa × Xab)) (I:Nat->Nat->List cB) (N:Nat) (p:Wh->Bool)
def Bg (u s i:Nat) (x:cB) (r:Nat):List Wh:=(List.range' r (5-r)).filterMap fun (r:Nat)=>if yb nm D x s r then some ⟨u,s,i,r⟩ else none
def WY (u s:Nat):Nat->List cB->List Wh
 | _,[]=>[]
 | i,x::xs=>Bg nm D u s i x 1++WY u s (i+1) xs
def XZ (u s:Nat):List Wh:=WY nm D u s 0 (I u s)
def Yj (u:Nat):List Wh:=((List.range 2)).flatMap fun s=>XZ nm D I u s
def Gy (u:Nat):Option Wh:=(((List.range N).drop u).flatMap fun u=>Yj nm D I u).find? p
def PB (u s:Nat):Option Wh:=((((List.range 2).drop s).flatMap fun s=>XZ nm D I u s).find? p).or (Gy nm D I N p (u+1))
def Lm (u s i:Nat):Option Wh:=((WY nm D u s i ((I u s).drop i)).find? p).or (PB nm D I N p u (s+1))
def R5 (u s i:Nat) (x:cB) (r:Nat):Option Wh:=((Bg nm D u s i x r).find? p).or (Lm nm D I N p u s (i+1))
def zq {n u:Nat} (h:u<n):(List.range n).drop u=u::(List.range n).drop (u+1):=by
 rw [YK (by simpa using h)]
 simp
def SR {u:Nat} (h:u<N):Gy nm D I N p u=PB nm D I N p u 0:=by
 unfold Gy PB;rw [zq h,Zd,Z9] <;> rfl
def SI {u:Nat} (h:N<=u):Gy nm D I N p u=none:=by
 unfold Gy;rw [ZU (by simpa using h)] <;> rfl
def M9 {u s:Nat} (h:s<2):PB nm D I N p u s=Lm nm D I N p u s 0:=by
 unfold Lm PB;rw [zq h,Zd,Z9,Option.or_assoc] <;> rfl
def Tg {u s:Nat} (h:2<=s):PB nm D I N p u s=Gy nm D I N p (u+1):=by
 unfold PB;rw [ZU (by simpa using h)] <;> rfl
def Th {u s i:Nat} (h:i<(I u s).length):Lm nm D I N p u s i=R5 nm D I N p u s i (I u s)[i] 1:=by
 unfold Lm R5;rw [YK h,WY,Z9,Option.or_assoc] <;> rfl
def Te {u s i:Nat} (h:(I u s).length<=i):Lm nm D I N p u s i=PB nm D I N p u (s+1):=by
 unfold Lm;rw [ZU h] <;> rfl
def Wz {u s i r:Nat} {x:cB} (h:5<=r):R5 nm D I N p u s i x r=Lm nm D I N p u s (i+1):=by
 unfold R5 Bg;rw [show 5-r=0 from ad] <;> rfl
def Wj {u s i r:Nat} {x:cB} (h:r<5):R5 nm D I N p u s i x r=if yb nm D x s r && p ⟨u,s,i,r⟩ then some ⟨u,s,i,r⟩ else R5 nm D I N p u s i x (r+1):=by
 have h1:Bg nm D u s i x r=(if yb nm D x s r then [(⟨u,s,i,r⟩:Wh)] else [])++Bg nm D u s i x (r+1):=by
  unfold Bg;rw [show 5-r=(5-(r+1))+1 from ad,List.range'_succ,ap9];split
  ·next d =>
   split at d
   ·cases d
   ·next hn=>rw [Yx hn]; rfl
  ·next b d =>
   split at d
   ·next hn=>rw [YC hn]; cases d; rfl
   ·cases d
 unfold R5;rw [h1];cases F:yb nm D x s r with
 | false=>rfl
 | true =>
  simp only [if_true,Bool.true_and];cases j:p ⟨u,s,i,r⟩ with
  | true=>simp [j]
  | false=>simp [j]
end
def Ef:Option Wh->Xab
 | none=>.tuple #[.agg #[.int .i64 0,.int .i64 0,.int .i64 0,.int .i64 0],.bool false]
 | some q=>.tuple #[.agg #[.int .i64 (q.u:Int),.int .i64 (q.s:Int),.int .i64 (q.i:Int),.int .i64 (q.r:Int)],.bool true]
def sN (rs:List Int) (q:Wh):Bool:=decide ((q.r:Int)∈rs)
def US {nm:Nat->Xaa} {h:Hp} (tn:Aj nm h) (pw:fS h) {B N M:Nat} {w:LW} {usl lb:cr} {sp:Int} {S:Nat->kx} (pg:pa h B w usl lb sp N M S) (hl:w.lb.length<=2^30) (hN:N<=2^30) {I:Nat->Nat->List cB}
  (PE:∀ h',Ext h h'->∀ n j:Nat,n<N->j<2->HC Tryz.prog 22 #[ptr (B+3),.int .i64 (n:Int),.int .i64 (j:Int)] h' fun v h''=>Ext h' h''/\∃ t:cr,v=t.v/\Bx h'' t.p t.l (I n j))
  {p:Xac} {l c:Nat} {rs:List Int} (v:wA h p l rs) :
  HC Tryz.prog 10 #[ptr (B+3),.slice p l c] h fun v h'=>Ext h h'/\v=Ef (Gy nm (nW w.lb 0 []) I N (sN rs) 0):=by
 refine aY (args:=[ptr (B+3),.slice p l c]) mixed Tryz.func10 az (Ba (some ⟨B+3,0,none⟩) p l c) ?_;unfold x7 bf bg bz aK aX ct bJ aH bn bq bX aP bR;refine br ?_;intro h1 b1 e1 z1;refine bG rfl ?_;refine aI (Kq (pw.an e1 aj) (pg.ext e1) hl) ?_;rintro _ h2 ⟨e2,g,hg,rfl,m2⟩;refine ⟨(some ⟨B+3,0,none⟩,some g,()),rfl,ak ?_⟩;refine br ?_;intro h3 b3 e3 z3;refine aw b3 rfl aj ?_;intro h4 b4 k4 z4;have b4:bI h4 h2.size 60 [.pointer (some ⟨B+3,0,none⟩),.map (some g)]:=b4;have e24:Ext h2 h4:=bQ e3 k4;have e14:=e2.trans e24;have O:=e1.trans e14;have m4:=m2.an e24 aj;have b14:=b1.an e14 aj;have aD:=Gn w.lb 0 [] (by intro p hp; simp at hp);have q1:=e1.size;generalize nW w.lb 0 []=D at m4 aD;clear m2 b3;refine kj (Mk (pg.ext O)) ?_
 have X:∀ (L:Lp) (h':Hp) (q:Wh),Ext h4 h'->Gy nm D I N (sN rs) 0=some q->(T.aC (⟨h.size,0,none⟩:Xax) [.int .i64 (q.u:Int),.int .i64 (q.s:Int),.int .i64 (q.i:Int),.int .i64 (q.r:Int)] <|
   T.ah (⟨h.size,0,none⟩:Xax) [.int .i64,.int .i64,.int .i64,.int .i64] <| fun (n48:Int) (n49:Int) (n50:Int) (n51:Int)=>T.ret (.tuple #[.agg #[.int .i64 n48,.int .i64 n49,.int .i64 n50,.int .i64 n51],.bool true])) L (fun v h'=>Ext h h'/\v=Ef (Gy nm D I N (sN rs) 0)) h':=by
  intro L h' q e hq;refine aw (b14.an e aj) rfl aj ?_;intro h6 b6 k6 z6;refine af b6 ((q.u:Int),(q.s:Int),(q.i:Int),(q.r:Int),()) rfl ?_;exact ⟨bQ (O.trans e) k6,by rw [hq]; rfl⟩
 refine aS (cs:=[(false,[.bool]),(false,[.int .i64])]) (fun y k h'=>∃ n:Nat,y.2.1=(n:Int)/\k=N-n/\n<=N/\Ext h4 h'/\Gy nm D I N (sN rs) n=Gy nm D I N (sN rs) 0) (false,(0:Int),()) N rfl ⟨0,rfl,rfl,ad,Ch.refl _ _,rfl⟩ ?_;rintro ⟨b7,n8,⟨⟩⟩ k h5 ⟨n,hi,rfl,hle,Y,d⟩;simp only at hi;subst hi;refine ak ?_;generalize hfin:Gy nm D I N (sN rs) 0=R at d X;refine aM (fun q=>?_) (fun q=>?_)
 ·have hn:n<N:=ad
  rw [SR _ _ _ _ _ hn] at d;refine aS (cs:=[(false,[.bool]),(false,[.int .i64])]) (fun y k h'=>∃ s:Nat,y.2.1=(s:Int)/\k=2-s/\s<=2/\Ext h4 h'/\PB nm D I N (sN rs) n s=R) (b7,(0:Int),()) 2 rfl ⟨0,rfl,rfl,ad,Y,d⟩ ?_;clear d Y h5;rintro ⟨b9,n10,⟨⟩⟩ k h5 ⟨s,hi,rfl,hsl,Y,d⟩;simp only at hi;subst hi;refine ak ?_;refine aM (fun q=>?_) (fun q=>?_)
  ·have hs:s<2:=ad
   rw [M9 _ _ _ _ _ hs] at d;refine aI (PE h5 (O.trans Y) n s hn hs) ?_;rintro _ h6 ⟨e6,t,rfl,vt⟩;refine ⟨((t.p,t.l,t.c),()),rfl,ak ?_⟩;have e46:=Y.trans e6;have htl:=vt.len;have htm:=vt.many;refine aS (cs:=[(false,[.bool]),(false,[.int .i64])]) (fun y k h'=>∃ i:Nat,y.2.1=(i:Int)/\k=(I n s).length-i/\i<=(I n s).length/\Ext h6 h'/\Lm nm D I N (sN rs) n s i=R) (b9,(0:Int),()) (I n s).length rfl ⟨0,rfl,rfl,ad,Ch.refl _ _,d⟩ ?_;clear d;rintro ⟨U,n15,⟨⟩⟩ k h7 ⟨i,hi,rfl,hil,e7,d⟩;simp only at hi;subst hi;refine ak ?_;refine aM (fun q=>?_) (fun q=>?_)
   ·have V:i<(I n s).length:=ad
    rw [Th _ _ _ _ _ V] at d;obtain ⟨aa,qq,mm,cc,ha,hc,hv⟩:=vt.cells i V;generalize (I n s)[i]=x at d hc hv;refine ax ⟨ad,ad⟩ (av ha ?_);rw [show Int.toNat (i:Int)=i from ad];refine ay (x.kind,x.name,x.inst.op,x.inst.a,x.inst.b,x.inst.n,x.inst.form,(qq,mm,cc),(x.e.num:Int),x.n,()) (aT e7 aj _ _ hc) (ak ?_);refine br ?_;intro h8 b8 e8 z8;refine aw b8 rfl aj ?_;intro h9 b9' k9 z9;have b9':bI h9 h7.size 71 (encI qq mm cc x):=b9';have e79:Ext h7 h9:=bQ e8 k9;have e49:=(e46.trans e7).trans e79;have hv9:=(hv.an e7).an e79;refine aS (cs:=[(false,[.bool]),(false,[.int .i64])]) (fun y k h'=>∃ r:Nat,y.2.1=(r:Int)/\k=5-r/\1<=r/\r<=5/\Ext h9 h'/\R5 nm D I N (sN rs) n s i x r=R) (U,(1:Int),()) 4 rfl ⟨1,rfl,rfl,ad,ad,Ch.refl _ _,d⟩ ?_;clear d;rintro ⟨G,n31,⟨⟩⟩ k h10 ⟨r,hi,rfl,hr1,hr5,J,d⟩;simp only at hi;subst hi;refine ak ?_;have F:=e49.trans J;have Z:=O.trans F;have hwr:=gu r;refine aM (fun q=>?_) (fun q=>?_)
    ·have hr:r<5:=ad
     rw [Wj _ _ _ _ _ hr] at d;refine aQ (Ey (v.an Z) (r:Int)) ?_;cases V:decide ((r:Int)∈rs) with
     | false =>
      refine bG rfl ?_;rw [show sN rs ⟨n,s,i,r⟩=false from V,aj9] at d;exact aG (cs:=[(false,[.bool]),(false,[.int .i64])]) (G,((r+1:Nat):Int),()) (5-(r+1)) rfl ad (YJ (fun z=>[Value.bool G,Value.int .i64 z]) hwr) ⟨r+1,rfl,rfl,ad,ad,J,by simpa using d⟩
     | true =>
      refine bk rfl ?_;rw [show sN rs ⟨n,s,i,r⟩=true from V,ZK] at d;refine af (b4.an F aj) (some ⟨B+3,0,none⟩,some g,()) rfl (ak ?_);refine af (b9'.an J aj) (x.kind,x.name,x.inst.op,x.inst.a,x.inst.b,x.inst.n,x.inst.form,(qq,mm,cc),(x.e.num:Int),x.n,()) rfl (ak ?_);refine aI (JQ (tn.an Z aj) (m4.an F aj) aD (p0:=some ⟨B+3,0,none⟩) (hv9.an J) (s:Int) (r:Int)) ?_;rintro _ h11 ⟨rfl,e11⟩;refine ⟨(yb nm D x s r,()),rfl,ak ?_⟩;cases hrs:yb nm D x s r with
      | true =>
       rw [hrs] at d;refine bk rfl ?_;exact X _ h11 ⟨n,s,i,r⟩ (F.trans e11) (by rw [<- d]; rfl)
      | false =>
       rw [hrs] at d;refine bG rfl ?_;exact aG (cs:=[(false,[.bool]),(false,[.int .i64])]) (G,((r+1:Nat):Int),()) (5-(r+1)) rfl ad (YJ (fun z=>[Value.bool G,Value.int .i64 z]) hwr) ⟨r+1,rfl,rfl,ad,ad,J.trans e11,by simpa using d⟩
    ·rw [Wz _ _ _ _ _ ad] at d;have hw:=gu i;exact aG (cs:=[(false,[.bool]),(false,[.int .i64])]) (G,((i+1:Nat):Int),()) ((I n s).length-(i+1)) rfl ad (YJ (fun z=>[Value.bool G,Value.int .i64 z]) hw) ⟨i+1,rfl,rfl,ad,(e7.trans e79).trans J,d⟩
   ·rw [Te _ _ _ _ _ ad] at d;have hw:=gu s;exact aG (cs:=[(false,[.bool]),(false,[.int .i64])]) (U,((s+1:Nat):Int),()) (2-(s+1)) rfl ad (YJ (fun z=>[Value.bool U,Value.int .i64 z]) hw) ⟨s+1,rfl,rfl,ad,e46.trans e7,d⟩
  ·rw [Tg _ _ _ _ _ ad] at d;have hw:=gu n;exact aG (cs:=[(false,[.bool]),(false,[.int .i64])]) (b9,((n+1:Nat):Int),()) (N-(n+1)) rfl ad (YJ (fun z=>[Value.bool b9,Value.int .i64 z]) hw) ⟨n+1,rfl,rfl,ad,Y,d⟩
 ·rw [SI _ _ _ _ _ ad] at d;refine aw (b14.an Y aj) rfl aj ?_;intro h6 b6 k6 z6;refine af b6 ((0:Int),(0:Int),(0:Int),(0:Int),()) rfl ?_;exact ⟨bQ (O.trans Y) k6,by rw [<- d]; rfl⟩
end Go.Sx.Pn
namespace Go.Sx.Lk
open Go.Proofs Go.Sx.Ob
def Fk.vw {h:Hp} {b:Nat} {s:cr} {ws:List (cr × cB)} (o:Fk h b s ws) (hl:ws.length<=2^60) (hx:∀ x,x∈ws.map (·.2)->x.name.size<=maxLen/\Sm x.inst.op/\x.e.ai.length<=2^60/\∀ t,t∈x.e.ai->t.1.size<=maxLen):Bx h s.p s.l (ws.map (·.2)) :=
 ⟨by have:=o.out.1; rw [Yu] at this ⊢; exact this,by rw [Yu]; exact hl,fun i hi=>by
  rw [Yu] at hi;obtain ⟨a,d,hc⟩:=o.out.cells (i:=i) (by simpa using hi);rw [YE] at hc;rw [YE];have h1:=hx ws[i].2 (YT (YD hi));exact ⟨a,_,_,_,d,hc,⟨wN (o.fq _ (YD hi)),h1.2.2.1,h1.2.2.2⟩,h1.1,h1.2.1⟩⟩
section
variable {h0 h h':Hp} {us:List cd} {su:cr} {P:LP} {B:Nat} {usl lb:cr} {S:Nat->kx} {g b':Nat} {lb2 st sd:cr} {tw dw:List (cr × List (cr × cB))}
structure One (h0 h':Hp) (us:List cd) (P:LP) (B:Nat) (usl lb:cr) (S:Nat->kx):Prop where
 le:h0.size<=B
 pg:pa h' B P.w usl lb ((mj us:Nat):Int) us.length (2*us.length) S
 PE:∀ n,(hn:n<us.length)->(S (2*n)).ws.map (·.2)=us[n].text.map (P.ff n)/\(S (2*n+1)).ws.map (·.2)=us[n].data.map (P.ff n)
 sz:∀ k,k<2*us.length->M7 (S k)
def One.ext (b:One h0 h us P B usl lb S) (e:Ext h h'):One h0 h' us P B usl lb S:=⟨b.le,b.pg.ext e,b.PE,b.sz⟩
def KY.one (b:KY h0 h us su P B usl lb S g b' lb2 st sd tw dw):One h0 h us P B usl lb S:=⟨b.le,b.pg,b.PE,b.sz⟩
def tj (u:cd) (j:Nat):List cB:=if j=0 then u.text else u.data
def One.sec (b:One h0 h us P B usl lb S) {n j:Nat} (hn:n<us.length) (d:j<2):(S (2*n+j)).ws.map (·.2)=(tj us[n] j).map (P.ff n):=by
 unfold tj
 by_cases h:j=0
 ·rw [YC h,h]; exact (b.PE n hn).1
 ·rw [Yx h,show j=1 from ad]; exact (b.PE n hn).2
def One.item (b:One h0 h us P B usl lb S) {n j:Nat} (hn:n<us.length) (d:j<2):tR S us.length (n:Int) (j:Int)=(tj us[n] j).map (P.ff n):=by
 unfold tR;rw [YC ⟨ad,ad,ad⟩];rw [show ((n:Int)).toNat=n from ad,show ((j:Int)).toNat=j from ad];exact b.sec hn d
def One.ok (b:One h0 h us P B usl lb S) {hv:Hp} {p:Xac} {l:Nat} (v:xS hv p l us) {n j:Nat} (hn:n<us.length) (G:j<2):∀ x,x∈(tj us[n] j).map (P.ff n)->x.name.size<=maxLen/\Sm x.inst.op/\x.e.ai.length<=2^60/\∀ t,t∈x.e.ai->t.1.size<=maxLen:=by
 intro x hx;obtain ⟨y,d,rfl⟩:=YF.1 hx;have u:=b.sz (2*n+j) ad;rw [<- b.sec hn G] at hx;obtain ⟨w,hw,J⟩:=YF.1 hx;have h1:=u.V7 w hw;have h2:=u.sz w hw;rw [J] at h1 h2;obtain ⟨a,sa,sb,sc,O,V,hc,F⟩:=v.cells n hn;have hi:js hv none 0 y\/(y.name.size<=maxLen/\Sm y.inst.op):=by
  right
  have key:∀ {q:Xac} {m:Nat} {xs:List cB},Bx hv q m xs->y∈xs->y.name.size<=maxLen/\Sm y.inst.op:=by
   intro q m xs U hm;obtain ⟨i,hi,rfl⟩:=Y0 hm;obtain ⟨_,_,_,_,_,_,it⟩:=U.cells i hi;exact ⟨it.name,it.op⟩
  unfold tj at d
  by_cases h:j=0
  ·rw [YC h] at d; exact key F.text d
  ·rw [Yx h] at d; exact key F.data d
 have hi:y.name.size<=maxLen/\Sm y.inst.op:=hi.elim (fun it=>⟨it.name,it.op⟩) id;exact ⟨hi.1,hi.2,ad,h2⟩
def One.many (b:One h0 h us P B usl lb S) {n j:Nat} (hn:n<us.length) (d:j<2):(tj us[n] j).length<=2^30:=by
 have h1:=(b.sz (2*n+j) ad).len;have h2:=YJ List.length (b.sec hn d);rw [Yu,Yu] at h2;omega
def One.out (b:One h0 h us P B usl lb S) (F:us.length<=2^20) {hv:Hp} {p:Xac} {l:Nat} (v:xS hv p l us) {n j:Nat} (hn:n<us.length) (u:j<2) :
  HC Tryz.prog 22 #[ptr (B+3),.int .i64 (n:Int),.int .i64 (j:Int)] h fun w h'=>Ext h h'/\∃ t ws,w=cr.v t/\Fk h' h.size t ws/\ws.map (·.2)=(tj us[n] j).map (P.ff n)/\Bx h' t.p t.l ((tj us[n] j).map (P.ff n)):=by
 have hit:=Ml b.pg (YI _) ad (fun k hk=>⟨(b.sz k hk).len,(b.sz k hk).V7⟩) n j ad;rw [b.item hn u] at hit;refine HC.mono hit fun w h' G=>?_
 obtain ⟨e,t,ws,hw,o,hm⟩:=G;refine ⟨e,t,ws,hw,o,hm,?_⟩;have J:=b.many hn u;have d:ws.length<=2^60:=by
  have:=YJ List.length hm
  rw [Yu,Yu] at this;omega
 have:=o.vw d (by rw [hm]; exact b.ok v hn u)
 rwa [hm] at this
end
end Go.Sx.Lk
namespace Go.Sx.Pn
open Go.Proofs Go.Sx.Ob Go.Sx.Lk
def f1:Option Wh->Int | none=>0 | some q=>q.u
def f2:Option Wh->Int | none=>0 | some q=>q.s
def f3:Option Wh->Int | none=>0 | some q=>q.i
def f4:Option Wh->Int | none=>0 | some q=>q.r
def vu (o:Option Wh):Ef o=.tuple #[.agg #[.int .i64 (f1 o),.int .i64 (f2 o),.int .i64 (f3 o),.int .i64 (f4 o)],.bool o.isSome]:=by cases o <;> rfl
def yT (rs:List Int):List (List Xab):=rs.map fun n=>[Value.int .i64 n]
def Qe {h:Hp} {p:Xac} {l:Nat} {rs:List Int} (v:wA h p l rs):(p=none/\yT rs=[])\/∃ a,p=some a/\aJ h a 0 (yT rs).flatten:=by
 cases p with
 | none =>
  left
  cases rs with
  | nil=>exact ⟨rfl,rfl⟩
  | cons x xs =>
   obtain ⟨a,d,_⟩:=v.cells 0 aj;cases d
 | some a =>
  right
  refine ⟨a,rfl,?_⟩
  have:=fP (h:=h) (a:=a) (sz:=1) (yT rs) 0 (fun x hx=>by
   obtain ⟨s,_,rfl⟩:=YF.1 hx;rfl) (fun i hi=>by
   unfold yT at hi ⊢;rw [Yu] at hi;obtain ⟨a',d,hc⟩:=v.cells i hi;cases d;rw [YE,Y7];exact hc)
  rwa [ab9] at this
def JE (rs:List Int):∀ y,y∈yT rs->y.length=1:=by
 intro y d;obtain ⟨s,_,rfl⟩:=YF.1 d;rfl
def Ka (rs:List Int):(yT rs).flatten.all cU=true:=by
 rw [Y1];intro v hv;obtain ⟨y,d,hv⟩:=av9.1 hv;obtain ⟨s,_,rfl⟩:=YF.1 d;rw [YP.1 hv]; rfl
def Pv {h:Hp} {b:Nat} {e:TypeId} {p:Xac} {l c:Nat} {rs:List Int} (s:SL h b e 1 p l c (yT rs)) (hm:rs.length<=2^60):wA h p l rs :=
 ⟨by have:=s.1; unfold yT at this; rwa [Yu] at this,hm,fun i hi=>by
  obtain ⟨a,d,hc⟩:=SL.cells s (i:=i) (by unfold yT; rw [Yu]; exact hi);unfold yT at hc;rw [YE] at hc;exact ⟨a,d,hc⟩⟩
def zV:Tryz.prog.underlying 31=some (.slice 3):=az
def OB:(Tryz.prog.info? 3).map (fun i=>(i.zero,i.size,i.bytes))=some (some (.int .i64 0),1,8):=az
def SW (h:Hp):Prop:=∀ h',Ext h h'->HC Tryz.prog 11 #[] h' fun v h''=>v=.bool true/\Ext h' h''
def HF {L:Lp} {h h1:Hp} (d:SW h) (e1:Ext h h1):(T.call Tryz.prog 11 [] false [(false,[.bool])] fun (j:Bool)=>T.ret (.bool j)) L (fun w h'=>w=.bool true/\Ext h h') h1:=by
 refine aI (d h1 e1) ?_;rintro _ h2 ⟨rfl,e2⟩;exact ⟨(true,()),rfl,rfl,e1.trans e2⟩
def Uq {h0 h:Hp} {us:List cd} {P:LP} {B:Nat} {usl lb:cr} {S:Nat->kx} (b:One h0 h us P B usl lb S) (d:us.length<=2^20) {hv:Hp} {p:Xac} {l:Nat} (v:xS hv p l us):∀ h',Ext h h'->∀ n j:Nat,n<us.length->j<2->HC Tryz.prog 22 #[ptr (B+3),.int .i64 (n:Int),.int .i64 (j:Int)] h' fun v h''=>Ext h' h''/\∃ t:cr,v=t.v/\Bx h'' t.p t.l (if hn:n<us.length then (tj us[n] j).map (P.ff n) else []):=by
 intro h' e n j hn u;refine HC.mono ((b.ext e).out d v hn u) fun w h'' F=>?_
 obtain ⟨e',t,ws,hw,o,hm,G⟩:=F;refine ⟨e',t,hw,?_⟩;rw [dif_pos hn];exact G
def qQ (c:UInt8):Bool:=decide (48<=c.toNat) && decide (c.toNat<=57)
def jL (l:List UInt8):Nat:=l.foldl (fun a b=>a*10+(b.toNat-48)) 0
def AZ (l:List UInt8):Bool:=l.all qQ && (decide (l.length=1) || decide (1<l.length) && decide ((l.headD 48).toNat≠48))
def BX (l:List UInt8) (d:UInt8):jL (l++[d])=jL l*10+(d.toNat-48):=by
 unfold jL;rw [Zk] <;> rfl
theorem IX:∀ (l:List UInt8) (a:Nat),a<=l.foldl (fun a b=>a*10+(b.toNat-48)) a
 | [],a=>YI _
 | c::l,a=>by
  have:=IX l (a*10+(c.toNat-48))
  rw [Y6];omega
def Py {l:List UInt8} (h:0<l.length) (d:l.all qQ=true) (h0:(l.headD 48).toNat≠48):1<=jL l:=by
 match l,h with
 | c::t,_ =>
  have h1:=Y1.1 d c aj;unfold qQ at h1;simp only [Bool.and_eq_true,decide_eq_true_eq] at h1;have h2:=IX t (0*10+(c.toNat-48));have h3:jL (c::t)=t.foldl (fun a b=>a*10+(b.toNat-48)) (0*10+(c.toNat-48)):=rfl;have h0:c.toNat≠48:=h0;omega
def MO (u:Nat):(Lib.decDigits u).all qQ=true:=by
 induction u using Nat.strongRecOn with
 | ind u d =>
  rw [Lib.decDigits];split
  ·next h =>
   have h1:(UInt8.ofNat (48+u)).toNat=48+u:=by rw [ak9]; omega
   unfold qQ;simp only [List.all_cons,List.all_nil,h1,Bool.and_true,Bool.and_eq_true,decide_eq_true_eq];omega
  ·next h =>
   have h1:(UInt8.ofNat (48+u % 10)).toNat=48+u % 10:=by rw [ak9]; omega
   rw [List.all_append,d (u / 10) ad];unfold qQ;simp only [List.all_cons,List.all_nil,h1,Bool.and_true,Bool.true_and,Bool.and_eq_true,decide_eq_true_eq];omega
def I8 (u:Nat):0<(Lib.decDigits u).length:=by
 rw [Lib.decDigits];split <;> simp
def MQ (u:Nat) (h:0<u):((Lib.decDigits u).headD 48).toNat≠48:=by
 induction u using Nat.strongRecOn with
 | ind u j =>
  rw [Lib.decDigits];split
  ·next h9 =>
   have h1:(UInt8.ofNat (48+u)).toNat=48+u:=by rw [ak9]; omega
   simp only [List.headD_cons,h1];omega
  ·next h9 =>
   have:=j (u / 10) ad ad
   have d:=I8 (u / 10);cases hl:Lib.decDigits (u / 10) with
   | nil=>rw [hl] at d; simp at d
   | cons c t =>
    rw [hl] at this;exact this
def PV (u:Nat):AZ (Lib.decDigits u)=true:=by
 unfold AZ;rw [MO,YU]
 by_cases h:u<10
 ·rw [Lib.decDigits_one h] <;> rfl
 ·have d:=MQ u ad;have hl:1<(Lib.decDigits u).length:=by
   have:=I8 (u / 10)
   rw [Lib.decDigits,dif_neg h,Yy,bh9];omega
  rw [YA hl,YA d]
  simp
theorem Jn:∀ (m:Nat) (l:List UInt8),l.length=m->AZ l=true->l=Lib.decDigits (jL l)
 | 0,l,h,c=>by
  have:l=[]:=Zf h
  subst this;cases c
 | m+1,l,h,c=>by
  have j:l≠[]:=fun e=>by rw [e] at h; simp at h
  obtain ⟨l',d,rfl⟩:∃ l' d,l=l'++[d]:=⟨l.dropLast,l.getLast j,(List.dropLast_concat_getLast j).symm⟩
  unfold AZ at c;rw [List.all_append] at c;simp only [Bool.and_eq_true,List.all_cons,List.all_nil,Bool.and_true,Bool.or_eq_true,decide_eq_true_eq,List.length_append,List.length_singleton] at c h;obtain ⟨⟨F,h1⟩,h2⟩:=c;have u:=h1;unfold qQ at u;simp only [Bool.and_eq_true,decide_eq_true_eq] at u;have hu:UInt8.ofNat (48+(d.toNat-48))=d:=by
   rw [show 48+(d.toNat-48)=d.toNat from ad,UInt8.ofNat_toNat]
  rw [BX,Lib.decDigits]
  by_cases e:l'=[]
  ·subst e;rw [show jL []=0 from rfl,dif_pos ad,ab9,Y7,hu] <;> rfl
  ·have J:0<l'.length:=by
    cases l' with
    | nil=>exact absurd rfl e
    | cons=>simp
   have G:(l'.headD 48).toNat≠48:=by
    have:((l'++[d]).headD 48)=l'.headD 48:=by
     cases l' with
     | nil=>exact absurd rfl e
     | cons=>rfl
    rw [this] at h2;rcases h2 with h2 | h2
    ·omega
    ·exact h2.2
   have O:=Jn m l' ad (by
    unfold AZ;rw [F,YU,YA G];simp only [Bool.and_true,Bool.or_eq_true,decide_eq_true_eq];omega)
   have pos:=Py J F G;rw [dif_neg ad,show (jL l'*10+(d.toNat-48)) / 10=jL l' from ad,show (jL l'*10+(d.toNat-48)) % 10=d.toNat-48 from ad,hu,<- O]
theorem IY:∀ (m u:Nat),u<10^(m+1)->(Lib.decDigits u).length<=m+1
 | 0,u,h=>by
  rw [Lib.decDigits_one (by simpa using h)]
  simp
 | m+1,u,h=>by
  by_cases h9:u<10
  ·rw [Lib.decDigits_one h9]
   simp
  ·have:=IY m (u / 10) (by rw [Nat.pow_succ] at h; omega)
   rw [Lib.decDigits,dif_neg h9,Yy,bh9];omega
def jy (s:Xaa) (n:Nat):Option Nat:=match s.data.toList with
 | []=>none
 | c::l=>if c=76/\AZ l=true/\l.length<=9/\jL l<n then some (jL l) else none
def Ff {s:Xaa} {n k:Nat} (hn:n<=1000000000):jy s n=some k↔k<n/\s=wL k:=by
 have hw:∀ k,(wL k).data.toList=76::Lib.decDigits k:=by
  intro k;unfold wL;rw [ee,r9] <;> rfl
 constructor
 ·intro h;unfold jy at h;split at h
  ·cases h
  ·next c l hl =>
   split at h
   ·next hc =>
    obtain ⟨rfl,h1,h2,h3⟩:=hc;cases h;refine ⟨h3,?_⟩;have h4:=Jn _ l rfl h1;apply vB;rw [hw,hl,<- h4]
   ·cases h
 ·rintro ⟨h1,rfl⟩;have hv:jL (Lib.decDigits k)=k:=DF k;unfold jy;rw [hw];simp only [hv];rw [YC ⟨trivial,PV k,IY 8 k ad,h1⟩]
def Nj (D:List (Xaa × Xab)) (k:Xaa) (v:Xab) (s:Xaa):look (iR D k v) s=if s=k then some v else look D s:=by
 unfold iR
 by_cases hs:(look D k).isSome=true
 ·rw [YC hs];unfold look at hs ⊢;rw [List.find?_map];have u:((fun p:Xaa × Xab=>decide (s=p.1)) ∘ fun p=>if k=p.1 then (p.1,v) else p)=fun p=>decide (s=p.1):=by
   funext p
   show decide (s=(if k=p.1 then (p.1,v) else p).1)=_;split <;> rfl
  rw [u];cases d:D.find? (fun p=>decide (s=p.1)) with
  | none =>
   by_cases e:s=k
   ·subst e;rw [d] at hs;cases hs
   ·rw [Yx e] <;> rfl
  | some p =>
   have j:s=p.1:=Yz (List.find?_some (p:=fun p:Xaa × Xab=>decide (s=p.1)) d);show some (if k=p.1 then (p.1,v) else p).2=_
   by_cases e:s=k
   ·rw [YC e,YC (e.symm.trans j)]
   ·rw [Yx e,Yx (fun h=>e (j.trans h.symm))] <;> rfl
 ·rw [Yx hs];unfold look at hs ⊢;rw [Z9]
  by_cases e:s=k
  ·subst e;rw [YC rfl];cases d:D.find? (fun p=>decide (s=p.1)) with
   | none=>simp
   | some p=>rw [d] at hs; exact absurd rfl hs
  ·rw [Yx e];cases d:D.find? (fun p=>decide (s=p.1)) with
   | none=>simp [e]
   | some p=>rfl
def T3 (D:List (Xaa × Xab)) (k:Xaa) (b:Bool) (s:Xaa):gB (iR D k (.bool b)) s=if s=k then b else gB D s:=by
 unfold gB;rw [Nj]
 by_cases e:s=k
 ·rw [YC e,YC e]
 ·rw [Yx e,Yx e]
theorem GG {s:Xaa}:∀ (m:Nat) (d:List Lb),d.length=m->(gB (nW d 0 []) s=true↔∃ k,∃ h:k<d.length,s=wL k/\d[k].s=0)
 | 0,d,hm=>by
  have:d=[]:=Zf hm
  subst this;constructor
  ·intro h; cases h
  ·rintro ⟨k,h,_⟩; simp at h
 | m+1,d,hm=>by
  have j:d≠[]:=fun e=>by rw [e] at hm; simp at hm
  obtain ⟨l,y,rfl⟩:∃ l y,d=l++[y]:=⟨d.dropLast,d.getLast j,(List.dropLast_concat_getLast j).symm⟩
  rw [Yy,bh9] at hm;rw [A2,Y7,T3];have u:=GG (s:=s) m l ad;have inj:∀ {a b:Nat},wL a=wL b->a=b:=fun h=>lB (oS h)
  by_cases e:s=wL l.length
  ·rw [YC e];constructor
   ·intro h;refine ⟨l.length,aj,e,?_⟩;rw [ZW (YI _)];simp only [Nat.sub_self,List.getElem_cons_zero];simpa using h
   ·rintro ⟨k,h,hs,h0⟩;obtain rfl:=inj (e.symm.trans hs);rw [ZW (YI _)] at h0;simp only [Nat.sub_self,List.getElem_cons_zero] at h0;rw [h0] <;> rfl
  ·rw [Yx e,u];constructor
   ·rintro ⟨k,h,hs,h0⟩;refine ⟨k,by rw [Yy]; omega,hs,?_⟩;rw [ZD h];exact h0
   ·rintro ⟨k,h,hs,h0⟩;have hk:k<l.length:=by
     rw [Yy,bh9] at h
     by_cases hk:k=l.length
     ·rw [hk] at hs; exact absurd hs e
     ·omega
    refine ⟨k,hk,hs,?_⟩;rw [ZD hk] at h0;exact h0
def Jj {s:Xaa} {d:List Lb} (hn:d.length<=1000000000):gB (nW d 0 []) s=match jy s d.length with
  | some k=>decide ((d[k]?.map (·.s))=some 0)
  | none=>false:=by
 cases hl:jy s d.length with
 | none =>
  rw [Bool.eq_false_iff];intro h;obtain ⟨k,hk,hs,_⟩:=(GG _ d rfl).1 h;rw [(Ff hn).2 ⟨hk,hs⟩] at hl;cases hl
 | some k =>
  obtain ⟨hk,hs⟩:=(Ff hn).1 hl;rw [Z3,GG _ d rfl];simp only [decide_eq_true_eq,List.getElem?_eq_getElem hk,Option.map_some,Option.some.injEq];constructor
  ·rintro ⟨j,F,u,h0⟩;obtain rfl:k=j:=lB (oS (hs.symm.trans u));exact h0
  ·intro h0;exact ⟨k,hk,hs,h0⟩
end Go.Sx.Pn
namespace Go.Sx
open Go.Proofs
def Ph {P:Program} {h:Hp} {K:Xab->Hp->Prop} {t ty e:TypeId} {i:TypeInfo} (F:P.underlying t=some (.slice e)) (hi:P.info? e=some i) {g l c:Nat} {xs vs:List Xab} (b:bI h g e xs) {q:Xac} {m d:Nat} (hm:m<=l) (hv:vs.length=m*i.size)
  (J:vs.all cU=true) (hx:vs.length<=xs.length) (O:q=none->vs=[]) (hc:∀ a,q=some a->aJ h a 0 vs) (hk:∀ h',bI h' g e (lh xs 0 vs)->Ch [g] h h'->h'.size=h.size->K (goInt (m:Int)) h') :
  aU P (Builtin.copy_ #[t,t] ty #[.slice (some ⟨g,0,none⟩) l c,.slice q m d]) h K:=by
 have j:Nat.min m l=m:=Zz hm;obtain ⟨G,U,V,X⟩:=jE (off:=0) vs h 0 xs b J ad;cases q with
 | none =>
  have u:=O rfl;subst u;simp [Builtin.copy_,ao,aF F,bT hi,Builtin.lenOf,Builtin.firstCells];rw [j0];refine dN _ _ _ _ _ G ?_
  have:=hk h b (Ch.refl _ _) rfl
  rw [j];exact this
 | some a =>
  simp [Builtin.copy_,ao,aF F,bT hi,Builtin.lenOf,Builtin.firstCells];rw [j];refine dt (by rw [cE hi]; exact hv) (hc a rfl) _ ?_;rw [j0];refine dN _ _ _ _ _ G ?_;exact hk _ U V X
theorem chunk {α:Type} (sz:Nat):∀ (n:Nat) (ys:List α),ys.length=n*sz->∃ xs:List (List α),xs.length=n/\(∀ x,x∈xs->x.length=sz)/\xs.flatten=ys
 | 0,ys,h=>⟨[],rfl,aj,by rw [ab9] at h; rw [ZZ.1 h]; rfl⟩
 | n+1,ys,h=>by
  rw [Nat.succ_mul] at h;obtain ⟨xs,h1,h2,h3⟩:=chunk sz n (ys.drop sz) (by rw [Zl]; omega);refine ⟨ys.take sz::xs,by simp [h1],?_,by rw [Z0,h3,Zc]⟩;intro x hx;rcases YS.1 hx with rfl | hx
  ·rw [YQ]; omega
  ·exact h2 x hx
def Ni {α:Type} {A zs:List α} {mk:α} {i:Nat} (hi:i<zs.length):(A++(List.replicate i mk++zs.drop i)).set (A.length+i) mk=A++(List.replicate (i+1) mk++zs.drop (i+1)):=by
 rw [be9 _ _ ad,Nat.add_sub_cancel_left,be9 _ _ aj,bf9,ao9,YK hi,List.set_cons_zero,List.replicate_succ',YV] <;> rfl
def Q7 {P:Program} {L:Lp} {K:Xab->Hp->Prop} {h:Hp} {s:Sem Xab} {k:Int->T} (hs:aU P s h fun v h'=>∃ n,v=goInt n/\k n L K h'):T.ek P s false [(false,[.int .i64])] k L K h :=
 dA s _ _ _ (fun v h' ⟨n,hv,hk⟩=>⟨(n,()),hv,hk⟩) hs
end Go.Sx
namespace Go.Sx.Pn
open Go.Proofs Go.Sx.Ob Go.Sx.Lk
variable {bs:List Int}
def vT (rs:List Int):(yT rs).length=rs.length:=by unfold yT; rw [Yu]
def Qw (xs:List Int) (n:Nat) (b:Int):yT xs++List.replicate n ([.int .i64 b]:List Xab)=yT (xs++List.replicate n b):=by
 unfold yT;rw [YH,List.map_replicate]
def wA.take {h:Hp} {p:Xac} {l:Nat} {rs:List Int} (v:wA h p l rs) {n:Nat} (hn:n<=l):wA h p n (rs.take n) :=
 ⟨by have:=v.len; rw [YQ]; omega,by have:=v.many; rw [YQ]; omega,fun i hi=>by
  rw [YQ] at hi;obtain ⟨a,d,hc⟩:=v.cells i ad;rw [List.getElem_take];exact ⟨a,d,hc⟩⟩
def L9 {h:Hp} {a:Xax} {l:Nat} {rs:List Int} (v:wA h (some a) l rs):aJ h a 0 (yT rs).flatten:=by
 rcases Qe v with ⟨h1,_⟩ | ⟨a',h1,h2⟩
 ·cases h1
 ·cases h1;exact h2
def Pc {h:Hp} {p q:Xac} {l c m d:Nat} {us:List Int} (v:wA h p l us) (w:wA h q m bs) (hl:l<=2^60) :
  HC Tryz.prog 28 #[.slice p l c,.slice q m d] h fun w h'=>∃ r:Bool,w=.bool r/\(r=true↔us=bs)/\Ext h h':=by
 refine aY (args:=[.slice p l c,.slice q m d]) mixed Tryz.func28 az (lx p l c q m d) ?_;unfold gH bf bg bz aK bC dy aP bR;have U:=v.len;have V:=w.len;refine ar (fun g=>?_) (fun g=>?_)
 ·refine ⟨false,rfl,?_,Ch.refl _ _⟩;constructor
  ·intro h; cases h
  ·rintro rfl
   have:l=m:=ad
   subst this;simp at g
 ·have X:l=m:=by
   have g:(l:Int)=(m:Int):=by simpa using g
   omega
  refine aS (cs:=[(false,[.bool]),(false,[.int .i64])]) (fun y n h'=>∃ i:Nat,y.2.1=(i:Int)/\i<=l/\n=l-i/\h=h'/\us.take i=bs.take i) (false,(0:Int),()) l rfl ⟨0,rfl,ad,ad,rfl,rfl⟩ ?_;rintro ⟨J,n8,⟨⟩⟩ n h4 ⟨i,j,O,rfl,rfl,G⟩;simp only at j;subst j;refine ak ?_;refine aM (fun g1=>?_) (fun g1=>?_)
  ·have u:i<us.length:=ad
   have F:i<bs.length:=ad
   obtain ⟨a1,h1,Y⟩:=v.cells i u;obtain ⟨a2,h2,Z⟩:=w.cells i F;refine ax ⟨ad,ad⟩ (av h1 ?_);rw [show Int.toNat (i:Int)=i from ad];refine ay (us[i],()) Y (ak ?_);refine ax ⟨ad,ad⟩ (av h2 ?_);refine ay (bs[i],()) Z (ak ?_);refine ar (fun g2=>?_) (fun g2=>?_)
   ·refine ⟨false,rfl,?_,Ch.refl _ _⟩;constructor
    ·intro h; cases h
    ·rintro rfl;simp at g2
   ·have he:us[i]=bs[i]:=by simpa using g2
    exact aG (cs:=[(false,[.bool]),(false,[.int .i64])]) (J,((i+1:Nat):Int),()) (l-(i+1)) rfl ad (YJ (fun z=>[Value.bool J,Value.int .i64 z]) (show IntKind.wrap .i64 ((i:Int)+1)=((i+1:Nat):Int) by rw [wrap_i64 ad ad]; omega)) ⟨i+1,rfl,ad,rfl,rfl,by rw [Yw u,Yw F,G,he]⟩
  ·refine ⟨true,rfl,⟨fun _=>?_,fun _=>rfl⟩,Ch.refl _ _⟩;rw [YW ad,YW ad] at G;exact G
def Pu {h:Hp} (a b c d:Int):HC Tryz.prog 15 #[.agg #[.int .i64 a,.int .i64 b,.int .i64 c,.int .i64 d],.agg #[.int .i64 a,.int .i64 b,.int .i64 c,.int .i64 d]] h fun w h'=>w=.bool true/\Ext h h':=by
 refine aY (args:=[.agg #[.int .i64 a,.int .i64 b,.int .i64 c,.int .i64 d],.agg #[.int .i64 a,.int .i64 b,.int .i64 c,.int .i64 d]]) mixed Tryz.func15 az (qw a b c d a b c d) ?_;unfold lK bC;refine br ?_;intro h1 b1 e1 z1;refine br ?_;intro h2 j e2 z2;have b1:=b1.an e2 aj;refine af b1 (a,()) rfl (ak ?_);refine af j (a,()) rfl (ak ?_);refine bk aj ?_;rw [aE,aE];refine af b1 (b,()) rfl (ak ?_);refine af j (b,()) rfl (ak ?_);refine bk aj ?_;rw [aE,aE];refine af b1 (c,()) rfl (ak ?_);refine af j (c,()) rfl (ak ?_);refine bk aj ?_;rw [aE,aE];refine af b1 (d,()) rfl (ak ?_);refine af j (d,()) rfl (ak ?_);exact ⟨aj,e1.trans e2⟩
def K7 {h:Hp} {p:Xac} {l c:Nat} (v:wA h p l bs) (hl:bs.length<=2^40) (b:Int) :
  HC Tryz.prog 13 #[.slice p l c,.int .i64 b] h fun w h'=>Ext h h'/\∃ g,w=.slice (some ⟨g,0,none⟩) (l+80) (l+80)/\h.size<=g/\SL h' h.size 3 1 (some ⟨g,0,none⟩) (l+80) (l+80) (yT (bs++List.replicate 80 b)):=by
 refine aY (args:=[.slice p l c,.int .i64 b]) mixed Tryz.func13 az (kC p l c _) ?_;unfold gi bf bg bz aK bt bU bm aP;have d:=v.len;obtain ⟨i,hi,hz,F,hby⟩:=nu OB;have G:IntKind.wrap .i64 ((l:Int)+80)=((l+80:Nat):Int):=by rw [wrap_i64 ad ad]; omega
 rw [G];refine du (lu zV hi hz (YI _) (by rw [hby]; omega) ad ?_);intro h2 b2 e2 z2;refine ⟨_,_,_,rfl,?_⟩;have J:(yT bs).flatten.length=l*1:=by
  rw [ep (yT bs) (sz:=1) (fun x hx=>JE bs x hx),vT,d]
 have hpl:=Ka bs;have O:((List.range ((l+80)*i.size)).map ((Value.int .i64 0).cells[· % (Value.int .i64 0).cells.size]!)).length=(l+80)*1:=by rw [Yu,ZX,F]
 generalize (List.range ((l+80)*i.size)).map ((Value.int .i64 0).cells[· % (Value.int .i64 0).cells.size]!)=ys at b2 O;have U:p=none->bs=[]:=fun hp=>by
  cases bs with
  | nil=>rfl
  | cons t us=>obtain ⟨a,ha,_⟩:=v.cells 0 aj; rw [hp] at ha; cases ha
 refine Q7 (Ph zV hi b2 (vs:=(yT bs).flatten) (m:=l) ad (by rw [J,F]) hpl ad (fun hh=>by rw [U hh]; rfl) (fun a ha=>by subst ha; exact aT e2 aj _ _ (L9 v)) ?_);intro h3 b3 k3 z3;refine ⟨(l:Int),rfl,?_⟩;rw [nk _ _ _ ad,List.take_zero,ZT,Y7,J] at b3;obtain ⟨zs,u,V,X⟩:=chunk 1 80 (ys.drop (l*1)) (by rw [Zl,O,ZA]; omega);rw [<- X,<- aq9] at b3;have s3:SL h3 h.size 3 1 (some ⟨h.size,0,none⟩) (l+80) (l+80) (yT bs++(List.replicate 0 [.int .i64 b]++zs.drop 0)):=by
  refine ⟨by simp [u,d,vT],?_,h.size,[],[],rfl,YI _,⟨YI _,ad⟩,by simpa using b3,aj⟩;intro x hx;rcases YN.1 hx with hx | hx
  ·exact JE bs x hx
  ·exact V x (by simpa using hx)
 have e03:Ext h h3:=bQ e2 k3;refine aS (cs:=[(false,[.int .i64])]) (fun y n h'=>∃ i:Nat,y.1=((l+i:Nat):Int)/\i<=80/\n=80-i/\Ch [h.size] h3 h'/\SL h' h.size 3 1 (some ⟨h.size,0,none⟩) (l+80) (l+80) (yT bs++(List.replicate i [.int .i64 b]++zs.drop i))) ((l:Int),()) 80 rfl
  ⟨0,rfl,ad,ad,Ch.refl _ _,s3⟩ ?_
 rintro ⟨n8,⟨⟩⟩ n h4 ⟨i',Y,hile,rfl,k4,s4⟩;simp only at Y;subst Y;refine ak ?_;refine aM (fun g1=>?_) (fun g1=>?_)
 ·have hi80:i'<80:=ad
  refine ax ⟨ad,ad⟩ (av rfl ?_);rw [show Int.toNat ((l+i':Nat):Int)=l+i' from ad];refine SL.store (P:=Tryz.prog) s4 (i:=l+i') (by simp [u,vT]; omega) (vs:=[.int .i64 b]) rfl rfl rfl ?_;intro h5 s5 k5 z5;have hA:(yT bs).length=l:=by rw [vT,d]
  have Z:=Ni (A:=yT bs) (zs:=zs) (mk:=[.int .i64 b]) (i:=i') ad;rw [hA] at Z;rw [Z] at s5;exact aG (cs:=[(false,[.int .i64])]) (((l+(i'+1):Nat):Int),()) (80-(i'+1)) rfl ad (YJ (fun z=>[Value.int .i64 z]) (show IntKind.wrap .i64 (((l+i':Nat):Int)+1)=((l+(i'+1):Nat):Int) by rw [wrap_i64 ad ad]; omega)) ⟨i'+1,rfl,ad,rfl,Ch.trans k4 k5 (fun j hj _=>hj),s5⟩
 ·have h80:i'=80:=ad
  subst h80;rw [show zs.drop 80=[] from Zo ad,Zs,Qw] at s4;exact ⟨bQ e03 k4,h.size,rfl,YI _,s4⟩
def G5 {h:Hp} {b0:Nat} {a:Xax} {q:Xac} {l d:Nat} {b:Int} (s:SL h b0 3 1 (some a) (l+80) (l+80) (yT (bs++List.replicate 80 b))) (v:wA h q l bs) (hl:l<=2^47) :
  HC Tryz.prog 16 #[.slice (some a) (l+80) (l+80),.slice q l d,.int .i64 b] h fun w h'=>w=.bool true/\Ext h h':=by
 refine aY (args:=[.slice (some a) (l+80) (l+80),.slice q l d,.int .i64 b]) mixed Tryz.func16 az (j2 (some a) (l+80) (l+80) q l d _) ?_;unfold fZ bf bg bz aK aX bm bC dy aP bR;have U:=v.len;have j:IntKind.wrap .i64 ((l:Int)+80)=((l+80:Nat):Int):=by rw [wrap_i64 ad ad]; omega
 refine bG (by rw [j]; simp) ?_;refine ax ⟨ad,ad,ad⟩ ?_;have e1:(if l+80=0 then some a else Option.map (fun a=>Addr.add a 0) (some a))=some a:=by
  rw [Yx ad];simp [Addr.add]
 rw [e1,show Int.toNat (l:Int)-0=l from ad,ay9];have w:wA h (some a) (l+80) (bs++List.replicate 80 b):=Pv s (by rw [Yy,bf9,<- v.len]; omega);have V:=w.take (n:=l) ad;rw [List.take_append_of_le_length ad,YW ad] at V;refine aI (Pc V v ad) ?_;rintro _ h1 ⟨bb,rfl,G,e1⟩;have G:=G.2 rfl;subst G;refine ⟨(true,()),rfl,ak ?_⟩;refine bG rfl ?_;have w2:=w.an e1;refine aS (cs:=[(false,[.bool]),(false,[.int .i64])]) (fun y n h'=>∃ i:Nat,y.2.1=((l+i:Nat):Int)/\i<=80/\n=80-i/\h1=h') (false,(l:Int),()) 80 rfl ⟨0,rfl,ad,ad,rfl⟩ ?_;rintro ⟨X,n8,⟨⟩⟩ n h4 ⟨i',u,Y,rfl,rfl⟩;simp only at u;subst u;refine ak ?_;refine ar (fun g1=>?_) (fun g1=>⟨rfl,e1⟩);have g1:=Yz g1;have Z:i'<80:=ad
 have J:l+i'<(bs++List.replicate 80 b).length:=by simp; omega
 obtain ⟨a',O,hc⟩:=w2.cells (l+i') J;cases O;have F:(bs++List.replicate 80 b)[l+i']=b:=by
  rw [ZW ad,List.getElem_replicate]
 rw [F] at hc;refine ax ⟨ad,ad⟩ (av rfl ?_);rw [show Int.toNat ((l+i':Nat):Int)=l+i' from ad];refine ay (b,()) hc (ak ?_);refine bG aj ?_;exact aG (cs:=[(false,[.bool]),(false,[.int .i64])]) (X,((l+(i'+1):Nat):Int),()) (80-(i'+1)) rfl ad (YJ (fun z=>[Value.bool X,Value.int .i64 z]) (show IntKind.wrap .i64 (((l+i':Nat):Int)+1)=((l+(i'+1):Nat):Int) by rw [wrap_i64 ad ad]; omega)) ⟨i'+1,rfl,ad,rfl,rfl⟩
theorem Ih:∀ (l:List UInt8) (a:Nat),l.all qQ=true->l.foldl (fun a b=>a*10+(b.toNat-48)) a<(a+1)*10^l.length
 | [],a,_=>aj
 | c::l,a,h=>by
  rw [bd9,YZ] at h;have h1:=h.1;unfold qQ at h1;simp only [Bool.and_eq_true,decide_eq_true_eq] at h1
  have:=Ih l (a*10+(c.toNat-48)) h.2
  rw [Y6,Zi,Nat.pow_succ];refine Nat.lt_of_lt_of_le this ?_;rw [bo9 (10^l.length) 10,<- Nat.mul_assoc];exact ZC _ ad
def P8 {l:List UInt8} (h:l.all qQ=true) (hl:l.length<=9):jL l<1000000000:=by
 have h1:=Ih l 0 h;have h2:10^l.length<=10^9:=Nat.pow_le_pow_right cm hl;rw [Y7,Nat.one_mul] at h1;unfold jL;omega
def KU (o:Option Nat):Int:=match o with | some k=>(k:Int) | none=>-1
def N7 (s0 : Xaa) (u : Int) : T :=
  T.loop [(false, [.int .i64]), (false, [.int .i64]), (false, [.int .i64])] [.int .i64 (0 : Int), .int .i64 (0 : Int), .int .i64 (1 : Int)] <| fun (F : Int) (j : Int) (d : Int) =>
    cond (decide (d < (s0.size : Int)))
     (T.need (((0 : Int) <= d) /\ (d < (s0.size : Int))) <|
     cond (decide ((cw s0 d) < (48 : Int)))
      (T.ret (.int .i64 (-1 : Int)))
      (T.need (((0 : Int) <= d) /\ (d < (s0.size : Int))) <|
      cond (decide ((cw s0 d) > (57 : Int)))
       (T.ret (.int .i64 (-1 : Int)))
       (cond (decide (d > (9 : Int)))
        (T.ret (.int .i64 (-1 : Int)))
        (T.need (((0 : Int) <= d) /\ (d < (s0.size : Int))) <|
        T.again 0 [.int .i64 F, .int .i64 (bm ((bm ((10 : Int) * j)) + (bm (IntKind.wrap .u8 ((cw s0 d) - (48 : Int)))))), .int .i64 (bm (d + (1 : Int)))]))))
     (cond (decide (j >= u))
      (T.ret (.int .i64 (-1 : Int)))
      (T.ret (.int .i64 j)))
def zg {s:Xaa} {l:List UInt8} {n:Nat} (hs:s.data.toList=76::l) (h:¬ (AZ l=true/\l.length<=9/\jL l<n)):jy s n=none:=by
 unfold jy;rw [hs];simp only;rw [Yx (fun d=>h d.2)]
def OI {s:Xaa} {l:List UInt8} {n:Nat} {h:Hp} (hs:s.data.toList=76::l) (hc:1<=l.length) (hp:(decide (l.length=1) || decide (1<l.length) && decide ((l.headD 48).toNat≠48))=true) :
  N7 s (n:Int) [] (fun w h'=>w=.int .i64 (KU (jy s n))/\h'=h) h:=by
 unfold N7 bm;have hsz:s.size=l.length+1:=by
  have:=YJ List.length hs
  simpa using this
 refine aS (cs:=[(false,[.int .i64]),(false,[.int .i64]),(false,[.int .i64])]) (fun y k h'=>∃ i:Nat,y.2.1=(jL (l.take i):Int)/\y.2.2.1=((i+1:Nat):Int)/\i<=l.length/\i<=9/\(l.take i).all qQ=true/\k=l.length-i/\h'=h) ((0:Int),(0:Int),(1:Int),()) l.length rfl
  ⟨0,rfl,rfl,ad,ad,rfl,rfl,rfl⟩ ?_
 rintro ⟨V,n3,n4,⟨⟩⟩ k h1 ⟨i,h3,h4,hi,X,U,rfl,rfl⟩;simp only at h3 h4;subst h3 h4;refine ak ?_;refine aM (fun q=>?_) (fun q=>?_)
 ·have d:i<l.length:=ad
  have hb:cw s ((i+1:Nat):Int)=((l[i].toNat:Nat):Int):=by
   rw [my,show Int.toNat ((i+1:Nat):Int)=i+1 from ad,hs,List.getD_cons_succ,Zh,Yv d] <;> rfl
  rw [hb];have u:l.all qQ=true->qQ l[i]=true:=fun Y=>Y1.1 Y _ (YD d)
  have F:qQ l[i]≠true->jy s n=none:=fun Y=>zg hs fun ⟨h1,_⟩=>by
   unfold AZ at h1;rw [YZ] at h1;exact Y (u h1.1)
  refine ax ⟨ad,ad⟩ (ar (fun j=>?_) (fun j=>?_))
  ·have j:=Yz j;rw [F (by unfold qQ; simp only [ne_eq,Bool.and_eq_true,decide_eq_true_eq]; omega)];exact ⟨rfl,rfl⟩
  have j:=YG j;refine ax ⟨ad,ad⟩ (ar (fun G=>?_) (fun G=>?_))
  ·have G:=Yz G;rw [F (by unfold qQ; simp only [ne_eq,Bool.and_eq_true,decide_eq_true_eq]; omega)];exact ⟨rfl,rfl⟩
  have G:=YG G;refine ar (fun J=>?_) (fun J=>?_)
  ·have J:=Yz J;rw [zg hs fun ⟨_,h2,_⟩=>ad];exact ⟨rfl,rfl⟩
  have J:=YG J;refine ax ⟨ad,ad⟩ ?_;have hv:=P8 U (by rw [YQ]; omega);have Z:IntKind.wrap .u8 (((l[i].toNat:Nat):Int)-48)=((l[i].toNat-48:Nat):Int):=by
   unfold IntKind.wrap;simp only [IntKind.signed,IntKind.bits]
   simp
   omega
  have hs1:jL (l.take (i+1))=jL (l.take i)*10+(l[i].toNat-48):=by
   rw [Yw d,BX]
  have hw1:IntKind.wrap .i64 (IntKind.wrap .i64 (10*((jL (l.take i):Nat):Int))+IntKind.wrap .i64 (IntKind.wrap .u8 (((l[i].toNat:Nat):Int)-48)))=((jL (l.take (i+1)):Nat):Int):=by
   have w1:IntKind.wrap .i64 (10*((jL (l.take i):Nat):Int))=10*((jL (l.take i):Nat):Int):=wrap_i64 ad ad;have w2:IntKind.wrap .i64 ((l[i].toNat-48:Nat):Int)=((l[i].toNat-48:Nat):Int):=wrap_i64 ad ad;rw [Z,w1,w2,hs1,wrap_i64 ad ad];omega
  have hw2:IntKind.wrap .i64 (((i+1:Nat):Int)+1)=((i+1+1:Nat):Int):=by rw [wrap_i64 ad ad]; omega
  have hy:[Value.int .i64 V,.int .i64 (IntKind.wrap .i64 (IntKind.wrap .i64 (10*((jL (l.take i):Nat):Int))+IntKind.wrap .i64 (IntKind.wrap .u8 (((l[i].toNat:Nat):Int)-48)))),.int .i64 (IntKind.wrap .i64 (((i+1:Nat):Int)+1))]=[Value.int .i64 V,.int .i64 ((jL (l.take (i+1)):Nat):Int),.int .i64 ((i+1+1:Nat):Int)]:=by rw [hw1,hw2]
  have hd':(l.take (i+1)).all qQ=true:=by
   rw [Yw d,List.all_append,U];unfold qQ;simp only [List.all_cons,List.all_nil,Bool.and_true,Bool.true_and,Bool.and_eq_true,decide_eq_true_eq];omega
  exact aG (cs:=[(false,[.int .i64]),(false,[.int .i64]),(false,[.int .i64])]) (V,((jL (l.take (i+1)):Nat):Int),((i+1+1:Nat):Int),()) (l.length-(i+1)) rfl ad hy ⟨i+1,rfl,rfl,ad,ad,hd',rfl,rfl⟩
 ·have hie:i=l.length:=ad
  subst hie;rw [Y4] at U ⊢;have O:AZ l=true:=by
   unfold AZ;rw [U,hp] <;> rfl
  refine aM (fun j=>?_) (fun j=>?_)
  ·rw [zg hs fun ⟨_,_,h2⟩=>ad];exact ⟨rfl,rfl⟩
  ·have:jy s n=some (jL l):=by
    unfold jy;rw [hs];simp only;rw [YC ⟨trivial,O,X,ad⟩]
   rw [this];exact ⟨rfl,rfl⟩
def uM (s:Xaa) (n:Nat) {h:Hp}:HC Tryz.prog 103 #[.string s,.int .i64 (n:Int)] h fun w h'=>w=.int .i64 (KU (jy s n))/\h'=h:=by
 refine ei (args:=[.string s,.int .i64 (n:Int)]) mixed Tryz.func103 az (nz s (n:Int)) ?_;unfold ji bg bm dU fA aP;cases hs:s.data.toList with
 | nil =>
  have j:s.size=0:=by
   have:=YJ List.length hs
   simpa using this
  refine bk (by rw [j]; rfl) ?_;unfold jy;rw [hs];exact ⟨rfl,rfl⟩
 | cons c l =>
  have j:s.size=l.length+1:=by
   have:=YJ List.length hs
   simpa using this
  have h0:cw s 0=((c.toNat:Nat):Int):=by
   rw [my,hs] <;> rfl
  refine ar (fun q=>?_) (fun q=>?_)
  ·have q:=Yz q;have hl:l=[]:=Zf ad;subst hl;unfold jy;rw [hs];simp only;rw [Yx (by rintro ⟨_,U,_⟩; cases U)];exact ⟨rfl,rfl⟩
  have q:=YG q;refine ax ⟨ad,ad⟩ ?_;rw [h0];refine ar (fun u=>?_) (fun u=>?_)
  ·have u:((c.toNat:Nat):Int)≠76:=by simpa using u
   unfold jy;rw [hs];simp only;rw [Yx (by rintro ⟨rfl,_⟩; exact u rfl)];exact ⟨rfl,rfl⟩
  have u:((c.toNat:Nat):Int)=76:=by simpa using u
  have F:c=76:=by
   have:c.toNat=76:=ad
   exact UInt8.toNat_inj.1 this
  subst F;refine ax ⟨ad,ad⟩ ?_;have h1:cw s 1=(((l.headD 48).toNat:Nat):Int):=by
   rw [my,hs];cases l with
   | nil=>simp at j; omega
   | cons d l=>rfl
  rw [h1];have G:(decide (l.length=1) || decide (1<l.length) && decide ((l.headD 48).toNat≠48))=true->N7 s (n:Int) [] (fun w h'=>w=.int .i64 (KU (jy s n))/\h'=h) h:=fun V=>OI hs ad V
  refine ar (fun J=>?_) (fun J=>?_)
  ·have J:(((l.headD 48).toNat:Nat):Int)=48:=by simpa using J
   refine aM (fun X=>?_) (fun X=>?_)
   ·rw [zg hs fun ⟨O,_,_⟩=>by
     unfold AZ at O;simp only [Bool.and_eq_true,Bool.or_eq_true,decide_eq_true_eq] at O;omega]
    exact ⟨rfl,rfl⟩
   ·exact G (by rw [YA (show l.length=1 from ad)]; rfl)
  ·have J:¬ (((l.headD 48).toNat:Nat):Int)=48:=by simpa using J
   refine G ?_;simp only [Bool.or_eq_true,Bool.and_eq_true,decide_eq_true_eq];omega
def rc (x:cn) (n:Nat):Option Nat:=match x.ai with
 | [t]=>if t.2=1/\x.num=0 then jy t.1 n else none
 | _=>none
def Ex {h:Hp} {p:Xac} {l c:Nat} {x:cn} (v:oK h p l x) (n:Nat):HC Tryz.prog 80 #[.agg #[.slice p l c,.int .u32 (x.num:Int)],.int .i64 (n:Int)] h fun w h'=>w=.int .i64 (KU (rc x n))/\Ext h h':=by
 refine aY (args:=[.agg #[.slice p l c,.int .u32 (x.num:Int)],.int .i64 (n:Int)]) mixed Tryz.func80 az (nS p l c (x.num:Int) (n:Int)) ?_;unfold jt ct fA aH;refine br ?_;intro h1 b1 e1 z1;refine af b1 ((p,l,c),()) rfl (ak ?_);have u:=(v.an e1).vw;have hl:=u.len;obtain ⟨ts,num⟩:=x;unfold rc;simp only at hl ⊢;refine ar (fun q=>?_) (fun q=>?_)
 ·have q:(l:Int)≠1:=by simpa using q
  match ts,hl with
  | [],_=>exact ⟨rfl,e1⟩
  | [t],hl=>simp at hl; omega
  | _::_::_,_=>exact ⟨rfl,e1⟩
 have q:(l:Int)=1:=by simpa using q
 match ts,hl,u with
 | [],hl,_=>simp at hl; omega
 | _::_::_,hl,_=>simp at hl; omega
 | [t],_,u =>
  refine af b1 ((p,l,c),()) rfl (ak ?_);obtain ⟨a,F,hc⟩:=u.cells 0 aj;rw [ab9,add_zero'] at hc;have hc:aJ h1 a 0 [.string t.1,.int .u32 (t.2:Int)]:=hc;refine ax ⟨ad,ad⟩ (av F ?_);refine ay ((t.2:Int),()) (ko [.int .u32 (t.2:Int)] 1 0 hc.2) (ak ?_);refine ar (fun d=>?_) (fun d=>?_)
  ·have d:¬ (t.2:Int)=1:=by simpa using d
   rw [Yx ad];exact ⟨rfl,e1⟩
  have d:(t.2:Int)=1:=by simpa using d
  rw [aE];refine af b1 ((num:Int),()) rfl (ak ?_);refine ar (fun j=>?_) (fun j=>?_)
  ·have j:¬ (num:Int)=0:=by simpa using j
   rw [Yx ad];exact ⟨rfl,e1⟩
  have j:(num:Int)=0:=by simpa using j
  refine af b1 ((p,l,c),()) rfl (ak ?_);refine ax ⟨ad,ad⟩ (av F ?_);refine ay (t.1,()) ⟨hc.1,trivial⟩ (ak ?_);rw [YC ⟨ad,ad⟩];refine aI (uM t.1 n) ?_;rintro _ h2 ⟨rfl,rfl⟩;exact ⟨(_,()),rfl,rfl,e1⟩
end Go.Sx.Pn
