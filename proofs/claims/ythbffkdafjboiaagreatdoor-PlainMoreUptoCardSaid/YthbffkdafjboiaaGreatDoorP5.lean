/- Contracts over heaps, part 5. Condition: as each statement says. -/
import Derived.Test.YthbffkdafjboiaaGreatDoorP4
import Derived.Test.YthbffkdafjboiaaGreatDoorBtH
import Derived.Test.YthbffkdafjboiaaGreatDoorSxZa
set_option linter.all false
set_option maxRecDepth 100000
set_option maxHeartbeats 4000000
namespace Go.Sx.Lk
open Go.Proofs Go.Sx.Ob
def JA {us:List bX} {w:LW} (A:qU us w) {n:Nat} (hn:n<us.length) (x:ct):w.bad n x=gz us n x:=by
 unfold LW.bad gz
 have:(fun t:Xaa × Nat=>(w.own n t.1).isNone)=fun t=>(gw us n t.1).isNone:=by
  funext t
  rw [A.own hn]
  all_goals (cases gw us n t.1 <;> rfl)
 rw [this]
def sq (w:LW) (n:Nat) (u:bX):qW w n u=(cv u).findSome? (w.bad n):=by
 unfold qW LW.yA cv;rw [ce9,ce9,List.findSome?_map,List.findSome?_map,List.findSome?_map,Option.or_assoc] <;> rfl
theorem D1 {us:List bX} {n:Nat}:∀ (l:List ct),(∀ x,x∈l->∀ t,t∈x.ai->¬ t.1.data.toList=[])->((mh us n l).data.toList=[]↔l.findSome? (gz us n)=none)/\∀ s,l.findSome? (gz us n)=some s->mh us n l=s
 | [],_=>by
  refine ⟨⟨fun _=>rfl,fun _=>rfl⟩,fun s hs=>by cases hs⟩
 | x::l,h=>by
  obtain ⟨u,i2⟩:=D1 l fun y hy=>h y (Zd _ hy)
  have hx:=h x aj;have hu:mh us n (x::l)=if (du us n x).data.toList=[] then mh us n l else du us n x:=by
   unfold mh;rw [ZF,cc9]
   by_cases e:(du us n x).data.toList=[]
   ·rw [Y8 e];simp [e]
   ·rw [Y2 e];simp [e]
  rw [List.findSome?_cons];cases j:gz us n x with
  | none =>
   have:du us n x=⟨#[]⟩:=by unfold du; rw [j]; rfl
   rw [hu,Y8 (by rw [this])];exact ⟨u,i2⟩
  | some s =>
   have h1:du us n x=s:=by unfold du; rw [j]; rfl
   have h2:¬ s.data.toList=[]:=by
    unfold gz at j;obtain ⟨t,G,rfl⟩:=bk9.1 j;exact hx t (List.mem_of_find?_eq_some G)
   rw [hu,Y2 (by rw [h1]; exact h2),h1];refine ⟨⟨fun k=>absurd k h2,fun k=>by cases k⟩,fun r J=>by cases J; rfl⟩
def Uc {us:List bX} {w:LW} (A:qU us w) (j:∀ u,u∈us->∀ x,x∈cv u->∀ t,t∈x.ai->¬ t.1.data.toList=[]) {n:Nat} (hn:n<us.length):vZ us n=(qW w n us[n]).map fun s=>(n,s):=by
 have G:w.bad n=gz us n:=funext fun x=>JA A hn x
 obtain ⟨h1,h2⟩:=D1 (us:=us) (n:=n) (cv us[n]) (j _ (Y9 hn));unfold vZ;rw [Y1 hn,Z6,sq,G];cases hs:(cv us[n]).findSome? (gz us n) with
 | none=>rw [Y8 (h1.2 hs)]; rfl
 | some s =>
  rw [hs] at h1;have h2:=h2 s hs;rw [Y2 (fun k=>by cases h1.1 k),h2] <;> rfl
theorem H6 {us:List bX} {w:LW} (A:qU us w) (J:∀ u,u∈us->∀ x,x∈cv u->∀ t,t∈x.ai->¬ t.1.data.toList=[]):∀ (k n:Nat),us.length-n=k->n<=us.length->(∀ j,j<n->vZ us j=none)->Fe us=fK w n (us.drop n)
 | 0,n,hk,hn,O=>by
  have:n=us.length:=ad
  subst this;rw [al9];exact fI _ _ O
 | k+1,n,hk,hn,O=>by
  have G:n<us.length:=ad
  rw [Aj w us n G];have hu:=Uc A J G;cases hb:qW w n us[n] with
  | some s =>
   rw [hb] at hu;exact jW _ _ _ n G O hu
  | none =>
   rw [hb] at hu;refine H6 A J k (n+1) ad G fun j U=>?_
   by_cases e:j=n
   ·subst e; exact hu
   ·exact O j ad
def PG {x:ct} (g:Good x):∀ t,t∈x.ai->¬ t.1.data.toList=[]:=by
 intro t j e;have h:=g.Mw t j;rw [e] at h;cases h
def Qb {x:ct} (g:Good x):∀ t,t∈x.ai->t.1.size<=32:=by
 intro t j;have h:=g.Mw t j;unfold cX at h;simp only [Bool.and_eq_true] at h
 have:=Y5 h.1.1.1.2
 simpa using this
def ON (us:List bX):Except Fl LP->Prop
 | .error f=>f.nQ≠0/\(eG us=f\/((eG us).nQ=0/\(us.length<=64/\∃ w,qU us w/\fK w 0 us=none)/\∃ i q,dE (eU (dR us (bQ 0 us) us))=some i/\(ek 0 us)[i]?=some q/\f=⟨24,q.1,q.2.1⟩))
 | .ok P=>(eG us).nQ=0/\us.length<=64/\P.us=us/\P.D=vG P.w us/\qU us P.w/\fK P.w 0 us=none/\mT (vG P.w us)=none/\dE (eU (dR us (bQ 0 us) us))=none
def RL {D:List (Xaa × ct)} {i:Nat} (h:mT D=some i):i<D.length:=by
 unfold mT at h;rw [Zs] at h;exact h.1
def py {us:List bX} (sm:∀ u,u∈us->∀ x,x∈cv u->x.num<4294967296/\∀ t,t∈x.ai->t.2<4294967296):ON us (jo us):=by
 unfold jo
 by_cases h0:us.length=0
 ·rw [Y8 h0];refine ⟨aj,.inl ?_⟩;unfold eG;rw [Y8 h0]
 rw [Y2 h0]
 by_cases J:64<us.length
 ·rw [Y8 J];refine ⟨aj,.inl ?_⟩;unfold eG;rw [Y2 h0,Y8 J]
 rw [Y2 J];have G:eG us=match us.findIdx? fun u=>decide (dL u≠0) with
  | some n=>⟨31,n,dH⟩
  | none=>match za us with
   | some q=>⟨22,q.1,q.2⟩
   | none=>match Fe us with
    | some q=>⟨23,q.1,q.2⟩
    | none=>⟨0,0,dH⟩:=by
  unfold eG;rw [Y2 h0,Y2 J] <;> rfl
 cases V:us.findIdx? fun u=>decide (dL u≠0) with
 | some n =>
  rw [V] at G;exact ⟨aj,.inl G⟩
 | none =>
  rw [V] at G;have X:∀ u,u∈us->dL u=0:=by
   intro u hu;rw [ZB] at V
   have:=Zc (V u hu)
   omega
  have i0:=Sa X;have Y:∀ s,(mW 0 us R5).gl s=none:=by
   have e1:∀ (n sec:Nat) (l:List cE) (i:Nat) (w:LW),(iJ n sec i l w).gl=w.gl:=by
    intro n sec l
    induction l with
    | nil=>intro i w; rfl
    | cons x l O =>
     intro i w;rw [iJ,O];unfold jz;split <;> rfl
   have e2:∀ (n:Nat) (l:List ry) (w:LW),(l.foldl (uz n) w).gl=w.gl:=by
    intro n l
    induction l with
    | nil=>intro w; rfl
    | cons x l O=>intro w; rw [ZH,O]; rfl
   have e3:∀ (l:List bX) (n:Nat) (w:LW),(mW n l w).gl=w.gl:=by
    intro l
    induction l with
    | nil=>intro n w; rfl
    | cons u l O =>
     intro n w;rw [mW,O];unfold Fy;rw [e2,e1,e1]
   intro s;rw [e3] <;> rfl
  have hm:=Eo us us.length 0 (mW 0 us R5) ad (cg9 _) (fun s=>by rw [Y]; rfl) (fun j Z=>absurd Z ad);rw [List.drop_zero] at hm;simp only;cases hw:kH 0 us (mW 0 us R5) with
  | error q =>
   rw [hw] at hm;have hm:za us=some q:=hm;rw [hm] at G;exact ⟨aj,.inl G⟩
  | ok w =>
   rw [hw] at hm;obtain ⟨hd,hg⟩:za us=none/\∀ s,w.gl s=PC us s:=hm
   rw [hd] at G;have A:qU us w:=⟨X,i0.meet hw,hg⟩
   have hne:∀ u,u∈us->∀ x,x∈cv u->∀ t,t∈x.ai->¬ t.1.data.toList=[]:=fun u hu x hx=>PG (Ax (X u hu) (sm u hu) x hx)
   have hu:=H6 A hne us.length 0 ad (cg9 _) (fun j Z=>absurd Z ad);rw [List.drop_zero] at hu;rw [hu] at G;cases hb:fK w 0 us with
   | some q =>
    rw [hb] at G;simp only [hb];exact ⟨aj,.inl G⟩
   | none =>
    rw [hb] at G;have hz:(eG us).nQ=0:=by rw [G]
    have U:=A.Vu hb;cases hc:mT (vG w us) with
    | some i =>
     have hi:=RL hc;have hi:i<(ek 0 us).length:=by unfold vG at hi; rwa [Y0] at hi
     simp only [hb,hc];refine ⟨aj,.inr ⟨hz,⟨ad,w,A,hb⟩,i,(ek 0 us)[i],by rw [<- U,hc],Y1 hi,?_⟩⟩;have hgd:((ek 0 us).map fun q=>(q.1,q.2.1)).getD i (0,dH)=((ek 0 us)[i].1,(ek 0 us)[i].2.1):=by
      rw [ZV,ZO,Y1 hi] <;> rfl
     rw [hgd]
    | none =>
     simp only [hb,hc];exact ⟨hz,ad,rfl,rfl,A,hb,hc,by rw [<- U,hc]⟩
def QM (us:List bX):List Xaa:=((bQ 0 us).map yG++(ek 0 us).map jP).map (Pe (bQ 0 us))
def Fq {us:List bX} {w:LW} (sm:Gj us) (O:us.length<=64) (A:qU us w) (hb:fK w 0 us=none):MU us (QM us):=by
 have r:FW us:=⟨A.right,O⟩
 have hg:∀ u,u∈us->∀ x,x∈cv u->Good x:=fun u hu=>Ax (A.right u hu) (sm.num u hu)
 have U:∀ n u,us[n]?=some u->∀ x,x∈cv u->w.bad n x=none:=by
  intro n u hu x hx;have hn:=(Zj.1 hu).1;have h1:=jI us 0 hb n hn;have G:us[n]=u:=(Zj.1 hu).2;rw [ZJ,G,sq,ZN] at h1;exact h1 x hx
 have hown:∀ n u,us[n]?=some u->∀ x,x∈cv u->∀ t,t∈x.ai->∃ o,gw us n t.1=some o:=by
  intro n u hu x hx t J;obtain ⟨k,hk⟩:=Ac (U n u hu x hx) t J;rw [A.own (Zj.1 hu).1] at hk;obtain ⟨o,Z,_⟩:=bk9.1 hk;exact ⟨o,Z⟩
 have j:∀ n u,us[n]?=some u->∀ x,x∈cv u->Ot us n x:=by
  intro n u hu x hx;have hm:=ZR hu;have g:=hg u hm x hx;refine ⟨g.nf,g.num,?_,hown n u hu x hx,fun t J=>?_⟩
  ·have:=sm.len hm hx
   omega
  ·have:=Qb g t J
   omega
 have hS:∀ n u,us[n]?=some u->∀ x,x∈cv u->∀ t,t∈x.ai->dr us (bQ 0 us) n t.1∈QM us:=by
  intro n u hu x hx t J;obtain ⟨o,Z⟩:=hown n u hu x hx t J;unfold dr;rw [Z,Option.getD_some];exact Zm (f:=Pe (bQ 0 us)) (a:=(o,t.1)) (Zk.2 (I6 A.right Z))
 have V:∀ u:bX,∀ x,x∈u.text->x.e∈cv u:=fun u x hx=>Zq _ (Zq _ (Zm hx))
 have X:∀ u:bX,∀ x,x∈u.data->x.e∈cv u:=fun u x hx=>Zq _ (ZE _ (Zm hx))
 have Y:∀ u:bX,∀ e,e∈u.bh->e.2∈cv u:=fun u e G=>ZE _ (Zm G)
 refine ⟨KO.of O A.right,?_,fun n u hu e G=>⟨j n u hu _ (Y u e G),?_,?_⟩,fun n u hu=>⟨fun x hx=>⟨j n u hu _ (V u x hx),hS n u hu _ (V u x hx)⟩,fun x hx=>⟨j n u hu _ (X u x hx),hS n u hu _ (X u x hx)⟩⟩,?_,?_,?_,?_⟩
 ·have:=r.dX; omega
 ·exact ⟨n,xw hu (ZE _ (Zm G))⟩
 ·have h1:=(wM (A.right u (ZR hu))).2;unfold tA at h1;simp only [Bool.and_eq_true] at h1;have h2:=(tJ h1.1.2 e G).1;unfold cX at h2;simp only [Bool.and_eq_true] at h2;have h3:=Y5 h2.1.1.1.2;have h4:e.1.size<=32:=by simpa using h3
  omega
 ·rw [K5];exact (A.two hb).symm.U3
 ·have:=r.eqs; omega
 ·unfold QM;rw [Y0,Y4,Y0,Y0];have h1:=r.dX;have h2:=r.eqs;omega
 ·intro y hy t J;unfold dR at hy;obtain ⟨q,hq,rfl⟩:=Za.1 hy;obtain ⟨u,hu,G⟩:=yV hq;obtain ⟨p,hp,e⟩:=E4 J;rw [e];exact hS q.1 u hu _ (Y u q.2 G) p hp
def Jk {us:List bX} (h:(eG us).nQ=0):us.length≠0/\us.length<=64/\(∀ u,u∈us->dL u=0)/\za us=none/\Fe us=none:=by
 unfold eG at h
 by_cases h0:us.length=0
 ·rw [Y8 h0] at h; cases h
 rw [Y2 h0] at h
 by_cases j:64<us.length
 ·rw [Y8 j] at h; cases h
 rw [Y2 j] at h;cases G:us.findIdx? fun u=>decide (dL u≠0) with
 | some n=>rw [G] at h; cases h
 | none =>
  rw [G] at h;simp only at h;cases J:za us with
  | some q=>rw [J] at h; cases h
  | none =>
   rw [J] at h;simp only at h;cases hu:Fe us with
   | some q=>rw [hu] at h; cases h
   | none =>
    refine ⟨h0,ad,fun u hm=>?_,rfl,rfl⟩;rw [ZB] at G
    have:=Zc (G u hm)
    omega
def RF {us:List bX} (h0:us.length≠0) (j:us.length<=64) (G:∀ u,u∈us->dL u=0) (J:za us=none) (hu:Fe us=none):(eG us).nQ=0:=by
 have O:(us.findIdx? fun u=>decide (dL u≠0))=none:=by
  rw [ZB];intro u hm;exact Y7 fun h=>h (G u hm)
 unfold eG;rw [Y2 h0,Y2 ad,O];simp only [J,hu]
def JL {n:Nat} {u:bX} {x:Lb} (h:x∈uf n u):x.u=n:=by
 have h1:yG x∈(uf n u).map yG:=Zm h;unfold uf at h1;rw [Ze,qA,qA,Zk,Za,Za] at h1;rcases h1 with ⟨s,_,e⟩ | ⟨s,_,e⟩
 ·exact (bm9 e).1.symm
 ·exact (bm9 e).1.symm
section
variable {us:List bX} {uM:bX}
def vY {n:Nat} (hn:n<us.length):(us++[uM])[n]?=us[n]?:=ZD hn
def BR (j:uM.aU=[]) {n:Nat} (hn:n<us.length) (s:Xaa):gw (us++[uM]) n s=gw us n s:=by
 unfold gw;rw [vY hn,bf9]
 have:([uM]:List bX).findIdx? (fun u=>fZ u.aU s)=none:=by
  rw [ZB];intro u hu;rw [Zi.1 hu,j] <;> rfl
 rw [this]
 simp
def Bm:bQ 0 (us++[uM])=bQ 0 us++uf us.length uM:=by rw [tO,ZJ]
def NS {o:Nat} (j:o<us.length) (s:Xaa):O8 (bQ 0 (us++[uM])) o s=O8 (bQ 0 us) o s:=by
 unfold O8;rw [Bm,bf9]
 have:(uf us.length uM).findIdx? (fun x=>decide (x.u=o) && decide (x.n=s))=none:=by
  rw [ZB];intro x hx
  have:=JL hx
  have h:decide (x.u=o)=false:=Y7 ad;rw [h,Bool.false_and]
 rw [this]
 simp
def HI {o:Nat} (j:o<us.length) (s:Xaa):qH (bQ 0 (us++[uM])) o s=qH (bQ 0 us) o s:=by
 unfold qH;rw [NS j]
def AJ (j:uM.aU=[]) {n:Nat} (hn:n<us.length) (s:Xaa):dr (us++[uM]) (bQ 0 (us++[uM])) n s=dr us (bQ 0 us) n s:=by
 unfold dr;rw [BR j hn];refine HI ?_ s;cases u:gw us n s with
 | none=>show 0<_; omega
 | some o=>exact Ji u
def Bv (j:uM.aU=[]) {n:Nat} (hn:n<us.length) (x:ct):gC (us++[uM]) (bQ 0 (us++[uM])) n x=gC us (bQ 0 us) n x:=by
 unfold gC
 congr 1
 funext s
 unfold sO;rw [AJ j hn]
def Rv (j:uM.aU=[]) (G:uM.bh=[]):dR (us++[uM]) (bQ 0 (us++[uM])) (us++[uM])=dR us (bQ 0 us) us:=by
 unfold dR;rw [nT,G,List.map_nil,ZQ];refine ZM fun q J=>?_
 obtain ⟨u,hu,_⟩:=yV J;have hn:=(Zj.1 hu).1;rw [AJ j hn,Bv j hn]
def FN (j:uM.aU=[]) {n:Nat} (hn:n<us.length) (x:ct):gz (us++[uM]) n x=gz us n x:=by
 unfold gz
 have:(fun t:Xaa × Nat=>(gw (us++[uM]) n t.1).isNone)=fun t=>(gw us n t.1).isNone:=by
  funext t
  rw [BR j hn]
 rw [this]
def JW (j:uM.aU=[]) {n:Nat} (hn:n<us.length) (l:List ct):mh (us++[uM]) n l=mh us n l:=by
 unfold mh
 have:du (us++[uM]) n=du us n:=by
  funext x
  unfold du;rw [FN j hn]
 rw [this]
def uN {α:Type} {f:Nat->Option α} {n:Nat} (h:(List.range n).findSome? f=none) {i:Nat} (hi:i<n):f i=none:=by
 rw [ZN] at h;exact h i (aw9.2 hi)
def Jn (hN:us.length<64) (V:dL uM=0) (O:uM.aU=[]) (X:∀ x,x∈cv uM->∀ t,t∈x.ai->t.1∈eN uM) (h:(eG us).nQ=0):(eG (us++[uM])).nQ=0:=by
 obtain ⟨h0,Y,h1,h2,h3⟩:=Jk h;have U:(us++[uM]).length=us.length+1:=aj
 have G:(us++[uM])[us.length]?=some uM:=aj
 refine RF ad ad (fun u hu=>?_) ?_ ?_
 ·rcases Zk.1 hu with hu | hu
  ·exact h1 u hu
  ·rw [Zi.1 hu]; exact V
 ·refine fI _ _ fun j J=>?_
  unfold tz
  by_cases e:j<us.length
  ·have h4:=uN h2 e;unfold tz at h4;rw [vY e,List.take_append_of_le_length ad];exact h4
  ·have:j=us.length:=ad
   subst this;rw [G,Z6,O] <;> rfl
 ·refine fI _ _ fun j J=>?_
  unfold vZ
  by_cases e:j<us.length
  ·have h4:=uN h3 e;unfold vZ at h4;rw [vY e];simp only [JW O e];exact h4
  ·have:j=us.length:=ad
   subst this;rw [G,Z6];have hu:mh (us++[uM]) us.length (cv uM)=⟨#[]⟩:=by
    refine Bj fun j J=>?_
    have hx:=Y9 J
    have:gz (us++[uM]) us.length (cv uM)[j]=none:=by
     unfold gz;rw [Option.map_eq_none_iff,List.find?_eq_none];intro t Z;rw [xw G (X _ hx t Z)]
     simp
    unfold du;rw [this] <;> rfl
   rw [hu,Y8 rfl]
def KN {P:LP} (h:jo us=.ok P) (sm:∀ u,u∈us++[uM]->∀ x,x∈cv u->x.num<4294967296/\∀ t,t∈x.ai->t.2<4294967296) (hN:us.length<64) (hr:dL uM=0) (V:uM.aU=[]) (he:uM.bh=[]) (ho:∀ x,x∈cv uM->∀ t,t∈x.ai->t.1∈eN uM) :
  ∃ J,jo (us++[uM])=.ok J/\(∀ n u,us[n]?=some u->(∀ x,x∈u.text\/x∈u.data->J.eS n x=P.eS n x))/\J.w.lb=P.w.lb++uf us.length uM:=by
 have a1:=py (us:=us) fun u hu=>sm u (Zq _ hu)
 rw [h] at a1;obtain ⟨z1,l1,u1,d1,A1,b1,c1,f1⟩:=a1;have z2:=Jn hN hr V ho z1;have O:=Rv (us:=us) V he;have a2:=py sm;cases h2:jo (us++[uM]) with
 | error f =>
  rw [h2] at a2;obtain ⟨q1,X⟩:=a2;rcases X with X | ⟨_,_,i,q,q3,_⟩
  ·rw [X] at z2;exact absurd z2 q1
  ·rw [O,f1] at q3;cases q3
 | ok J =>
  rw [h2] at a2;obtain ⟨_,l2,u2,d2,A2,b2,c2,f2⟩:=a2;refine ⟨J,rfl,fun n u hu x hx=>?_,?_⟩
  ·have hn:=(Zj.1 hu).1;have Y:=ZR hu;have U:x.e∈cv u:=by
    unfold cv;rcases hx with hx | hx
    ·exact Zq _ (Zq _ (Zm hx))
    ·exact Zq _ (ZE _ (Zm hx))
   have j:∀ {vs:List bX} {w:LW},fK w 0 vs=none->vs[n]?=some u->w.bad n x.e=none:=by
    intro vs w hb hv;have Z:=(Zj.1 hv).1;have h1:=jI vs 0 hb n Z;rw [ZJ,(Zj.1 hv).2,sq,ZN] at h1;exact h1 _ U
   have G:=(sm u (Zq _ Y) _ U).1;have hm:(eU ((dR us (bQ 0 us) us).map fun y=>(y.1,eR (eU (dR us (bQ 0 us) us)) y.1))).map fk=_:=mI _;have e1:=A1.put b1 c1 hn (j b1 hu) G hm;have e2:=A2.put b2 c2 (by rw [Y4]; omega) (j b2 (by rw [vY hn]; exact hu)) G (by rw [O]; exact hm);unfold LP.eS;rw [d1,d2,e1,e2,Bv V hn]
  ·rw [A1.wi.lb,A2.wi.lb,Bm]
end
theorem gP {h:Hp} {a:Xax}:∀ (n:Nat) (vs:List Xab) (i:Nat),aI h a i vs->aI h a (i+n) (vs.drop n)
 | 0,vs,i,hc=>hc
 | n+1,[],i,hc=>trivial
 | n+1,v::vs,i,hc=>by
  have:=gP n vs (i+1) hc.2
  rw [show i+1+n=i+(n+1) from ad] at this;exact this
theorem iY {h:Hp} {a:Xax}:∀ (vs:List Xab) (o i:Nat),aI h a (o+i) vs->aI h (a.add o) i vs
 | [],_,_,_=>trivial
 | v::vs,o,i,h1=>⟨by have:=h1.1; rw [add_add]; exact this,iY vs o (i+1) h1.2⟩
theorem eM {h:Hp} {a:Xax}:∀ (n:Nat) (vs:List Xab) (i:Nat),aI h a i vs->aI h a i (vs.take n)
 | 0,vs,i,hc=>trivial
 | n+1,[],i,hc=>trivial
 | n+1,v::vs,i,hc=>⟨hc.1,eM n vs (i+1) hc.2⟩
def _root_.Go.Sx.qK.rp {h h':Hp} {b u:Nat} {p q:Xac} {l c m d sz:Nat} {e:TypeId} {ms:List cK} {xs:List (List Xab)} (o:qK h b p l c ms) (t:SL h u e sz q m d xs) (k:Ch (aM q) h h') (h1:e≠100) (h2:e≠117):qK h' b p l c ms :=
 ⟨o.out.bM k (fun i hi hm=>uV t o.out h1 i hm hi),fun m hm=>(o.fw m hm).bM k (fun i hi j=>uV t (o.fw m hm) h2 i j hi),o.ap,o.dj⟩
def qG (of:Xaa->Option ct) (x:cE):cE:={ x with e:=de of x.e }
def S7 (G:Xac) (u:Nat) (J:Xac) (O U lv:Nat) (k:T):T :=
 T.loop [aR] [.int .i64 (0:Int)] <| fun (j:Int) =>
     bH j u
     (T.need (fx j u) <|
     T.bG G <| fun (V:Xax) =>
     T.ah ((V.add (aP j 10)).add 7) [.slice 117,.int .u32] <| fun (X:Xac) (Y:Nat) (Z:Nat) (n63:Int) =>
     bK 38 [.agg #[.slice X Y Z,aG n63],.slice J O U] false [(true,[.slice 117,.int .u32])] <| fun (p64:Xac) (l65:Nat) (l66:Nat) (n67:Int) =>
     T.need (fx j u) <|
     T.bG G <| fun (a68:Xax) =>
     T.aC ((a68.add (aP j 10)).add 7) [.slice p64 l65 l66,aG n67] <|
     T.again lv [.int .i64 (bt (j+(1:Int)))])
     k
structure KU (h:Hp) (b:Nat) (p:Xac) (l c:Nat) (ms:List cK):Prop where
 own:qK h b p l c ms
 ok:EqsOk ms
 het:∀ e,e∈ms->e.x.ai.length<=2^20
 U9:(ms.flatMap (·.x.ai)).length<=2^39
 len:ms.length<=2^20
def KU.ext {h h':Hp} {b:Nat} {p:Xac} {l c:Nat} {ms:List cK} (s:KU h b p l c ms) (k:Ext h h'):KU h' b p l c ms:=⟨s.own.ak k aj,s.ok,s.het,s.U9,s.len⟩
def KU.rp {h h':Hp} {b j:Nat} {p q:Xac} {l c m d sz:Nat} {e:TypeId} {ms:List cK} {xs:List (List Xab)} (o:KU h b p l c ms) (t:SL h j e sz q m d xs) (k:Ch (aM q) h h') (h1:e≠100) (h2:e≠117):KU h' b p l c ms :=
 ⟨o.own.rp t k h1 h2,o.ok,o.het,o.U9,o.len⟩
def H7 (ws:List (cz × cE)):Prop:=∀ u,u∈ws->u.2.e.ai.length<=2^20/\u.2.e.num<4294967296/\∀ t,t∈u.2.e.ai->t.1.size<=maxLen
def RM {L:Lp} {K:Xab->Hp->Prop} {h:Hp} {b N b2:Nat} {S:Nat->kz} {X:Xac} {Y O lv:Nat} {k:T} {ms:List cK} (hlv:lv=L.length) (s:lf h b N S) {j:Nat} (hj:j<N) (V:KU h b2 X Y O ms) (ok:H7 (S j).ws) (hbig:(S j).ws.length<=2^20)
  (hk:∀ h' S' J,lf h' b N S'->(∀ i,i≠j->S' i=S i)->(S' j).s=(S j).s->(S' j).ws.map (·.2)=(S j).ws.map (fun u=>qG (cw ms) u.2)->Ch (aM (S j).s.p) h h'->KU h' b2 X Y O ms->k (L++[J]) K h') :
  S7 (S j).s.p (S j).s.l X Y O lv k L K h:=by
 subst hlv;unfold S7 bH aP bK bt fx aG aR;have hl0:(S j).s.l=(S j).ws.length:=by have:=(s.sec j hj).out.1; rwa [Y0] at this
 generalize hws:(S j).ws=ws at *;generalize hl:(S j).s.l=l at *;subst hl0;refine aX (cs:=[(false,[.int .i64])]) (fun y m' h'=>∃ (i:Nat) (S':Nat->kz),y.1=(i:Int)/\i<=ws.length/\m'=ws.length-i/\lf h' b N S'/\(∀ i,i≠j->S' i=S i)/\(S' j).s=(S j).s/\(S' j).ws.length=ws.length/\(∀ m,(hm:m<ws.length)->(hm':m<(S' j).ws.length)->if m<i then (S' j).ws[m].2=qG (cw ms) ws[m].2 else (S' j).ws[m]=ws[m])/\Ch (aM (S j).s.p) h h'/\KU h' b2 X Y O ms) ((0:Int),()) ws.length rfl
  ⟨0,S,rfl,ad,ad,s,fun _ _=>rfl,rfl,by rw [hws],fun m hm hm'=>by rw [Y2 ad]; simp only [hws],Ch.refl _ _,V⟩ ?_
 clear s V;rintro ⟨n58,⟨⟩⟩ m' h1 ⟨i,S',hi,hil,rfl,s,so,ss,sl,sw,k1,V⟩;simp only at hi;subst hi;refine an ?_;refine aQ (fun q=>?_) (fun q=>?_)
 ·have hlt:i<ws.length:=ad
  have G:i<(S' j).ws.length:=ad
  have sj:=s.sec j hj;have Z:=sw i hlt G;rw [Y2 ad] at Z;have okw:=ok ws[i] (Y9 hlt);have hin:=sj.fw _ (Y9 G);obtain ⟨a,ha,hc⟩:=sj.out.cells (i:=i) (by simpa using G);rw [Zb,Z] at hc;rw [Z] at hin;rw [ss] at ha;generalize hu:ws[i]=u at okw hin hc;refine ay ⟨ad,ad⟩ (aw ha ?_);rw [show Int.toNat (i:Int)=i from ad];refine az ((u.1.p,u.1.l,u.1.c),(u.2.e.num:Int),()) (eM 2 [_,_,_] 0 (iY _ 7 0 (gP 7 _ 0 hc))) (an ?_);refine aJ (Mn (c:=u.1.c) (d:=O) (wz hin) (CD V.own) V.ok V.het V.U9 V.len okw.1 okw.2.2) ?_;rintro _ h2 ⟨⟨p',l',c',rfl,s2⟩,e2⟩;rw [xS (eX _ _) (lM okw.2.1)] at s2 ⊢;refine ⟨((p',l',c'),((de (cw ms) u.2.e).num:Int),()),rfl,an ?_⟩;refine ay ⟨ad,ad⟩ (aw ha ?_);have s':=s.ext e2;have sj':=s'.sec j hj;have so2:=sj'.out;refine SL.part (P:=Tryz.prog) so2 (i:=i) (by rw [Y0]; exact G) (o:=7) aj (by simp [cO]) (by rw [ss]; exact ha) ?_;intro h3 s3 k3 z3;have hnew:((S' j).ws.map tp).set i (lz (((S' j).ws.map tp)[i]'(by rw [Y0]; exact G)) 7 [.slice p' l' c',.int .u32 ((de (cw ms) u.2.e).num:Int)])=((S' j).ws.set i (⟨p',l',c'⟩,qG (cw ms) u.2)).map tp:=by
   rw [ca9,Zb,Z,hu] <;> rfl
  rw [hnew] at s3;have sp:=s'.put hj G (q:=(⟨p',l',c'⟩,qG (cw ms) u.2)) (s2.mono (by have:=s.sec j hj; exact show b<=h1.size from (by have:=(sj.out.cr (i:=a.block) (by rw [ss,ha]; simp [aM])); omega))) s3 k3;have hw:=iA i;rw [hw];rw [ss] at k3;refine aH (cs:=[(false,[.int .i64])]) (((i+1:Nat):Int),()) (ws.length-(i+1)) (by rw [ZC (Zh _),cl9]; rfl) ad rfl ?_;refine ⟨i+1,_,rfl,ad,rfl,sp,fun m hm=>?_,?_,?_,fun m hm hm'=>?_,(k1.trans (e2.mono aj) (fun i hi _=>hi)).trans k3 (fun i hi _=>hi),(V.ext e2).rp so2 (by rw [ss]; exact k3) bZ bZ⟩
  ·unfold kW;rw [Y2 hm];exact so m hm
  ·unfold kW;rw [Y8 rfl];exact ss
  ·unfold kW;rw [Y8 rfl,Z5];exact sl
  ·have e1:(kW S' j ⟨(S' j).s,(S' j).ws.set i (⟨p',l',c'⟩,qG (cw ms) u.2)⟩ j).ws=(S' j).ws.set i (⟨p',l',c'⟩,qG (cw ms) u.2):=by
    unfold kW;rw [Y8 rfl]
   simp only [e1]
   by_cases hmi:m=i
   ·subst hmi;rw [Y8 ad,List.getElem_set_self,hu]
   ·have U:m<(S' j).ws.length:=ad
    have:=sw m hm U
    rw [List.getElem_set_ne (Ne.symm hmi)]
    by_cases hlt2:m<i
    ·rw [Y8 hlt2] at this;rw [Y8 ad];exact this
    ·rw [Y2 hlt2] at this;rw [Y2 ad];exact this
 ·have hi:i=ws.length:=ad
  subst hi;refine hk h1 S' _ s so ss ?_ k1 V;refine cm9 (by rw [Y0,Y0]; exact sl) fun m hm1 U=>?_
  rw [Y0] at hm1 U
  have:=sw m U hm1
  rw [Y8 U] at this;rw [Zb,Zb];exact this
structure oH (h:Hp) (B:Nat) (w:LW) (usl lb:cz) (sp:Int) (N M:Nat) (S:Nat->kz):Prop where
 box:O4 h (B+3) usl lb B (B+1) (B+2) sp
 maps:LM h B (B+1) (B+2) w
 oT:SL h (B+4) 112 4 lb.p lb.l lb.c (w.lb.map AB)
 un:SL h (B+4) 47 4 usl.p usl.l usl.c (mE S N)
 w9:lf h (B+4) M S
section
variable {h h':Hp} {B N M:Nat} {w:LW} {usl lb:cz} {sp:Int} {S:Nat->kz}
def oH.mG {ws:List Nat} (s:oH h B w usl lb sp N M S) (k:Ch ws h h') (hw:∀ i,i∈ws->i<B):oH h' B w usl lb sp N M S :=
 ⟨s.box.ak k (fun hm=>by have:=hw _ hm; omega),s.maps.ak k (fun hm=>by have:=hw _ hm; omega) (fun hm=>by have:=hw _ hm; omega) (fun hm=>by have:=hw _ hm; omega),
  s.oT.bM k (fun i hi hm=>by have:=(s.oT.cr hi).1; have:=hw _ hm; omega),s.un.bM k (fun i hi hm=>by have:=(s.un.cr hi).1; have:=hw _ hm; omega),s.w9.mG k (fun i hi=>by have:=hw _ hi; omega)⟩
def oH.ext (s:oH h B w usl lb sp N M S) (k:Ext h h'):oH h' B w usl lb sp N M S:=s.mG k aj
def oH.lt (s:oH h B w usl lb sp N M S):B+4<=h.size:=by have:=s.box.lt; omega
def oH.rp {j sz:Nat} {e:TypeId} {q:Xac} {m d:Nat} {xs:List (List Xab)} (s:oH h B w usl lb sp N M S) (t:SL h j e sz q m d xs) (k:Ch (aM q) h h') (hb:B+4<=j) (h1:e≠112) (h2:e≠47) (h3:e≠71) (h4:e≠117):oH h' B w usl lb sp N M S:=by
 have hw:∀ i,i∈aM q->B+4<=i:=fun i hi=>by have:=(t.cr hi).1; omega
 exact ⟨s.box.ak k (fun hm=>by have:=hw _ hm; omega),s.maps.ak k (fun hm=>by have:=hw _ hm; omega) (fun hm=>by have:=hw _ hm; omega) (fun hm=>by have:=hw _ hm; omega),
  s.oT.bM k (fun i hi hm=>uV t s.oT h1 i hm hi),s.un.bM k (fun i hi hm=>uV t s.un h2 i hm hi),s.w9.rp t k h3 h4⟩
def oH.XJ {S':Nat->kz} {j:Nat} (s:oH h B w usl lb sp N M S) (u:j<M) (s':lf h' (B+4) M S') (hs:∀ i,(S' i).s=(S i).s) (k:Ch (aM (S j).s.p) h h'):oH h' B w usl lb sp N M S':=by
 have t:=(s.w9.sec j u).out;have hw:∀ i,i∈aM (S j).s.p->B+4<=i:=fun i hi=>(t.cr hi).1
 have G:mE S' N=mE S N:=by
  unfold mE;apply ZM;intro i _;unfold xH;rw [hs,hs]
 exact ⟨s.box.ak k (fun hm=>by have:=hw _ hm; omega),s.maps.ak k (fun hm=>by have:=hw _ hm; omega) (fun hm=>by have:=hw _ hm; omega) (fun hm=>by have:=hw _ hm; omega),
  s.oT.bM k (fun i hi hm=>uV t s.oT bZ i hm hi),by rw [G]; exact s.un.bM k (fun i hi hm=>uV t s.un bZ i hm hi),s'⟩
end
def Cy (of:Xaa->Option ct) (S S':Nat->kz) (m:Nat):Prop:=∀ k,(S' k).s=(S k).s/\if k<m then (S' k).ws.map (·.2)=(S k).ws.map (fun u=>qG of u.2) else S' k=S k
def Cy.step {of:Xaa->Option ct} {S S' G:Nat->kz} {m:Nat} (d:Cy of S S' m) (h1:∀ i,i≠m->G i=S' i) (h2:(G m).s=(S' m).s) (h3:(G m).ws.map (·.2)=(S' m).ws.map (fun u=>qG of u.2)):Cy of S G (m+1):=by
 intro k;obtain ⟨e1,e2⟩:=d k
 by_cases hk:k=m
 ·subst hk;rw [Y2 ad] at e2;rw [Y8 ad];exact ⟨h2.trans e1,by rw [h3,e2]⟩
 ·rw [h1 k hk];refine ⟨e1,?_⟩
  by_cases j:k<m
  ·rw [Y8 j] at e2;rw [Y8 ad];exact e2
  ·rw [Y2 j] at e2;rw [Y2 ad];exact e2
def TI (a1 a7:Xax) (U:Xac) (V X:Nat):T :=
    (T.ah a7 [.slice 47] <| fun (Y:Xac) (J:Nat) (l28:Nat) =>
    T.loop [aR] [.int .i64 (0:Int)] <| fun (j:Int) =>
    bH j J
    (T.need (fx j J) <|
    T.bG Y <| fun (Z:Xax) =>
    T.ah (Z.add (aP j 4)) [.slice 71,.slice 71,.slice 100,.slice 9] <| fun (p31:Xac) (l32:Nat) (l33:Nat) (p34:Xac) (l35:Nat) (l36:Nat) (p37:Xac) (l38:Nat) (l39:Nat) (p40:Xac) (l41:Nat) (l42:Nat) =>
    T.new [bj,bj,bj,bj] 47 <| fun (G:Xax) =>
    T.aC G [.slice p31 l32 l33,.slice p34 l35 l36,.slice p37 l38 l39,.slice p40 l41 l42] <|
    T.ah G [.slice 71] <| fun (p44:Xac) (l45:Nat) (l46:Nat) =>
    T.ah (G.add 1) [.slice 71] <| fun (p47:Xac) (l48:Nat) (l49:Nat) =>
    bU (Instr.buildSlice 79 2 #[(0,.slice p44 l45 l46),(1,.slice p47 l48 l49)]) false [dh] <| fun (p50:Xac) (O:Nat) (l52:Nat) =>
    T.loop [aR] [.int .i64 (0:Int)] <| fun (u:Int) =>
    bH u O
     (T.need (fx u O) <|
     T.bG p50 <| fun (a54:Xax) =>
     T.ah (a54.add (aP u 1)) [.slice 71] <| fun (p55:Xac) (l56:Nat) (l57:Nat) =>
     S7 p55 l56 U V X 4 (T.again 3 [.int .i64 (bt (u+(1:Int)))]))
     (T.again 2 [.int .i64 (bt (j+(1:Int)))]))
    (T.aC a1 [.int .i64 (0:Int),.int .i64 (0:Int),bY] <|
    T.ah a1 [.int .i64,.int .i64,.string] <| fun (n30:Int) (n31:Int) (SM:Xaa) =>
    bn #[.pointer (some a7),.agg #[.int .i64 n30,.int .i64 n31,.string SM]]))
def Qw {J0 J1:List Xab->Hp->Prop} {K:Xab->Hp->Prop} {h0 h:Hp} {A B N b2:Nat} {w:LW} {usl lb:cz} {sp:Int} {S:Nat->kz} {O:Xac} {U V:Nat} {ms:List cK}
  (hA:h0.size<=A) (hAB:A<B) (e0:Ext h0 h) (Z:bF h A 54 [.int .i64 0,.int .i64 0,.string ⟨#[]⟩]) (s:oH h B w usl lb sp N (2*N) S) (sv:KU h b2 O U V ms) (hN:N<=2^20)
  (ok:∀ j,j<2*N->H7 (S j).ws/\(S j).ws.length<=2^20)
  (hk:∀ h' S',Ext h0 h'->oH h' B w usl lb sp N (2*N) S'->Cy (cw ms) S S' (2*N)->K (.tuple #[ptr (B+3),.agg #[.int .i64 0,.int .i64 0,.string ⟨#[]⟩]]) h') :
  TI ⟨A,0,none⟩ ⟨B+3,0,none⟩ O U V [J0,J1] K h:=by
 unfold TI bH aP bU bt fx bn bj bY aR dh;refine af s.box ((usl.p,usl.l,usl.c),()) rfl (an ?_);have hul:usl.l=N:=by have:=s.un.1; rwa [jC] at this
 rw [hul];refine aX (cs:=[(false,[.int .i64])]) (fun y m' h'=>∃ (n:Nat) (S':Nat->kz),y.1=(n:Int)/\n<=N/\m'=N-n/\Ext h0 h'/\bF h' A 54 [.int .i64 0,.int .i64 0,.string ⟨#[]⟩]/\oH h' B w usl lb sp N (2*N) S'/\Cy (cw ms) S S' (2*n)/\KU h' b2 O U V ms) ((0:Int),()) N rfl
  ⟨0,S,rfl,ad,ad,e0,Z,s,fun k=>⟨rfl,by rw [Y2 ad]⟩,sv⟩ ?_
 clear s sv Z e0;rintro ⟨n29,⟨⟩⟩ m' h1 ⟨n,S1,hn,hnN,rfl,e1,Z,s,d,sv⟩;simp only at hn;subst hn;refine an ?_;refine aQ (fun q=>?_) (fun q=>?_)
 ·have hlt:n<N:=ad
  obtain ⟨a,ha,hc⟩:=s.un.cells (i:=n) (by rw [jC]; exact hlt);rw [Cn] at hc;refine ay ⟨ad,ad⟩ (aw ha ?_);rw [show Int.toNat (n:Int)=n from ad];generalize hta:(S1 (2*n)).s=G;generalize htb:(S1 (2*n+1)).s=u;have hc:aI h1 (a.add (n*4)) 0 [G.v,u.v,mj.v,mj.v]:=by rw [<- hta,<- htb]; exact hc
  refine az ((G.p,G.l,G.c),(u.p,u.l,u.c),(none,0,0),(none,0,0),()) hc (an ?_);refine bm ?_;intro h2 X e2 z2;refine ar X rfl aj ?_;intro h3 b3 k3 z3;have b3:bF h3 h1.size 47 [G.v,u.v,mj.v,mj.v]:=b3;have e13:Ext h1 h3:=bR e2 k3;refine af b3 ((G.p,G.l,G.c),()) rfl (an ?_);rw [aE];refine af b3 ((u.p,u.l,u.c),()) rfl (an ?_);refine km O2 Xr ad ad (Om G.p G.l G.c u.p u.l u.c) ?_;intro h4 b4 e4 z4;have b4:bF h4 h3.size 43 [G.v,u.v]:=b4;have e14:=e13.trans e4;have hsec:∀ k,k<2->([G.v,u.v]:List Xab).drop k=(S (2*n+k)).s.v::([G.v,u.v]:List Xab).drop (k+1):=by
   intro k hk;have h0:∀ k,(S1 k).s=(S k).s:=fun k=>(d k).1
   have:k=0\/k=1:=ad
   rcases this with rfl | rfl
   ·rw [<- h0]; show [G.v,u.v]=(S1 (2*n)).s.v::[u.v]; rw [hta]
   ·rw [<- h0]; show [u.v]=(S1 (2*n+1)).s.v::[]; rw [htb]
  have hb3:∀ j,j<2*N->h3.size∉aM (S j).s.p:=by
   intro j hj hm;rw [<- (d j).1] at hm
   have:=((s.w9.sec j hj).out.cr hm).2
   have:=e13.size
   omega
  refine aX (cs:=[(false,[.int .i64])]) (fun y m' h'=>∃ (j:Nat) (S':Nat->kz),y.1=(j:Int)/\j<=2/\m'=2-j/\Ext h0 h'/\bF h' A 54 [.int .i64 0,.int .i64 0,.string ⟨#[]⟩]/\oH h' B w usl lb sp N (2*N) S'/\Cy (cw ms) S S' (2*n+j)/\KU h' b2 O U V ms/\bF h' h3.size 43 [G.v,u.v]) ((0:Int),()) 2 rfl
   ⟨0,S1,rfl,ad,ad,e1.trans e14,Z.ak e14 aj,s.ext e14,d,sv.ext e14,b4⟩ ?_
  clear s sv Z d hta htb hc ha b3;rintro ⟨n53,⟨⟩⟩ m' h5 ⟨j,S2,hj,hj2,rfl,e5,Z,s,d,sv,b5⟩;simp only at hj;subst hj;refine an ?_;refine aQ (fun q=>?_) (fun q=>?_)
  ·have hj2:j<2:=ad
   refine ay ⟨ad,ad⟩ (aw rfl ?_);rw [show Int.toNat (j:Int)=j from ad,aE];have hsj:=(d (2*n+j)).1;have hSe:S2 (2*n+j)=S (2*n+j):=by
    have:=(d (2*n+j)).2
    rwa [Y2 ad] at this
   refine af b5 (((S (2*n+j)).s.p,(S (2*n+j)).s.l,(S (2*n+j)).s.c),()) (by
    have:=hsec j hj2
    rw [show 0+j*1=j from ad,this];rfl) ?_
   refine an ?_;rw [<- hSe];have Y:2*n+j<2*N:=ad
   have okj:=ok _ Y;rw [<- hSe] at okj;have key:=fun (L:Lp) (hL:4=L.length)=>@RM L K h5 (B+4) (2*N) b2 S2 O U V 4 (T.again 3 [.int .i64 (IntKind.wrap .i64 ((j:Int)+(1:Int)))]) ms hL s.w9 (2*n+j) Y sv okj.1 okj.2
   refine key _ ?_ ?_
   ·rfl
   clear key;intro h6 S3 J s6 so ss sw k6 sv6;have hw:=iA j;rw [hw];have hss:∀ i,(S3 i).s=(S2 i).s:=by
    intro i
    by_cases hi:i=2*n+j
    ·rw [hi]; exact ss
    ·rw [so i hi]
   have hblk:∀ i,i∈aM (S2 (2*n+j)).s.p->B+4<=i:=fun i hi=>((s.w9.sec _ Y).out.cr hi).1
   have z0:=e1.size;refine aH (cs:=[(false,[.int .i64])]) (((j+1:Nat):Int),()) (2-(j+1)) rfl ad rfl ?_;refine ⟨j+1,S3,rfl,ad,rfl,Ch.trans e5 k6 (fun i hi hl=>by have:=hblk i hi; omega),Z.ak k6 (fun hm=>by have:=hblk _ hm; omega),s.XJ Y s6 hss k6,d.step so ss sw,sv6,b5.ak k6 (by rw [hSe]; exact hb3 _ Y)⟩
  ·have hj:j=2:=ad
   subst hj;have hw:=iA n;rw [hw];refine aH (cs:=[(false,[.int .i64])]) (((n+1:Nat):Int),()) (N-(n+1)) rfl ad rfl ?_;exact ⟨n+1,S2,rfl,ad,rfl,e5,Z,s,d,sv⟩
 ·have hn:n=N:=ad
  subst hn;refine ar Z rfl aj ?_;intro h2 X k2 z2;have X:bF h2 A 54 [.int .i64 0,.int .i64 0,.string ⟨#[]⟩]:=X;refine af X ((0:Int),(0:Int),(⟨#[]⟩:Xaa),()) rfl ?_;exact hk h2 S1 (bR e1 k2) (s.mG k2 (by simp; omega)) d
def Ew (k:Ky):List Xab:=[.int .i64 (k.1:Int),.string k.2]
def Uo:Tryz.prog.underlying 96=some (.slice 105):=ax
def YQ:(Tryz.prog.info? 105).map (fun i=>(i.zero,i.size,i.bytes))=some (some (.agg #[.int .i64 0,.string ⟨#[]⟩]),2,24):=ax
def Tm (n:Int) (s:Xaa):Instr.fill (fun j=>some (j*2,2)) ((Array.range (1*2)).map ((Value.agg #[.int .i64 0,.string ⟨#[]⟩]).cells[· % (Value.agg #[.int .i64 0,.string ⟨#[]⟩]).cells.size]!)) [(0,.agg #[.int .i64 n,.string s])]=some ([.int .i64 n,.string s]:List Xab).toArray:=ax
def Bq {h:Hp} {b x:Nat} {e e':TypeId} {sz:Nat} {p:Xac} {l c:Nat} {xs:List (List Xab)} {ys:List Xab} (s:SL h b e sz p l c xs) (t:bF h x e' ys) (u:e≠e'):x∉aM p:=fun hm=>by
 obtain ⟨zs,j⟩:=SL.AZ s x hm;unfold bF at j t;rw [j] at t;simp only [Option.some.injEq,Obj.cells.injEq] at t;exact u t.2.1
def H9 (nQ unit:Nat) (s:Xaa):Xab:=.tuple #[.pointer none,.agg #[.int .i64 (nQ:Int),.int .i64 (unit:Int),.string s]]
def Au (h h':Hp):Prop:=∀ x e xs,e≠100->e≠105->bF h x e xs->bF h' x e xs
def Au.ext {h h' h2:Hp} (k:Au h h') (e:Ext h' h2):Au h h2:=fun x t xs h1 h2 b=>(k x t xs h1 h2 b).ak e aj
abbrev Oq:List fJ:=[(false,[.pointer 0]),(false,[.slice 0]),(false,[.slice 0]),(false,[.int .i64])]
def Uf (a1 a7:Xax) (G:Int) (p52:Xac) (Z:Nat) (p13 p14:Xac) (l15 l16:Nat) (p17:Xac) (l18 l19:Nat) (k:Xac->Xac->Nat->Nat->Xac->Nat->Nat->T):T :=
    T.loop [(false,[.pointer 0]),dh,dh,aR] [.pointer p13,.slice p14 l15 l16,.slice p17 l18 l19,.int .i64 (0:Int)] <| fun (p55:Xac) (p56:Xac) (l57:Nat) (l58:Nat) (p59:Xac) (l60:Nat) (l61:Nat) (J:Int) =>
    bH J Z
     (T.need (fx J Z) <|
     T.bG p52 <| fun (a63:Xax) =>
     T.ah (a63.add (aP J 3)) [.string,.slice 117,.int .u32] <| fun (s64:Xaa) (p65:Xac) (l66:Nat) (l67:Nat) (n68:Int) =>
     T.new [bY,bj,aG (0:Int)] 100 <| fun (j:Xax) =>
     T.aC j [.string s64,.slice p65 l66 l67,aG n68] <|
     T.ah (j.add 1) [.slice 117,.int .u32] <| fun (p70:Xac) (l71:Nat) (l72:Nat) (n73:Int) =>
     bK 34 [.pointer (some a7),.int .i64 G,.agg #[.slice p70 l71 l72,aG n73]] true [(true,[.slice 117,.int .u32]),(false,[.string]),cn] <| fun (p74:Xac) (l75:Nat) (l76:Nat) (n77:Int) (s78:Xaa) (b79:Bool) =>
     T.new [bj,aG (0:Int)] 69 <| fun (u:Xax) =>
     T.aC u [.slice p74 l75 l76,aG n77] <|
     cond (!b79)
     (T.aC a1 [.int .i64 (23:Int),.int .i64 G,.string s78] <|
     T.ah a1 [.int .i64,.int .i64,.string] <| fun (n81:Int) (n82:Int) (s83:Xaa) =>
     bn #[.pointer none,.agg #[.int .i64 n81,.int .i64 n82,.string s83]])
     (T.ah j [.string] <| fun (O:Xaa) =>
     T.ah u [.slice 117,.int .u32] <| fun (U:Xac) (V:Nat) (X:Nat) (Y:Int) =>
     bK 35 [.pointer (some a7),.agg #[.int .i64 G,.string O]] false [(false,[.string])] <| fun (Xt:Xaa) =>
     T.bi [(u,[.slice U V X,aG Y]),(j,[.string O])] <|
     bU (Instr.buildSlice 44 1 #[(0,.agg #[.string Xt,.slice U V X,aG Y])]) false [dh] <| fun (p87:Xac) (l88:Nat) (l89:Nat) =>
     T.bi [(u,[.slice U V X,aG Y]),(j,[.string O])] <|
     bU (Builtin.append_ #[44,44] 44 #[.slice p56 l57 l58,.slice p87 l88 l89]) false [dh] <| fun (p90:Xac) (l91:Nat) (l92:Nat) =>
     T.bi [(u,[.slice U V X,aG Y]),(j,[.string O])] <|
     T.ah j [.string] <| fun (s93:Xaa) =>
     bU (Instr.buildSlice 96 1 #[(0,.agg #[.int .i64 G,.string s93])]) false [dh] <| fun (p94:Xac) (l95:Nat) (l96:Nat) =>
     bU (Builtin.append_ #[96,96] 96 #[.slice p59 l60 l61,.slice p94 l95 l96]) false [dh] <| fun (p97:Xac) (l98:Nat) (l99:Nat) =>
     T.again 2 [.pointer p55,.slice p90 l91 l92,.slice p97 l98 l99,.int .i64 (bt (J+(1:Int)))]))
     (k p55 p56 l57 l58 p59 l60 l61)
structure Cu (h:Hp) (b:Nat) (e k:cz) (D:List (Xaa × ct)) (ks:List Ky):Prop where
 eq:∃ ms,qK h b e.p e.l e.c ms/\ms.map fk=D
 ky:SL h b 105 2 k.p k.l k.c (ks.map Ew)
def Cu.ext {h h':Hp} {b:Nat} {e k:cz} {D:List (Xaa × ct)} {ks:List Ky} (s:Cu h b e k D ks) (x:Ext h h'):Cu h' b e k D ks:=by
 obtain ⟨⟨ms,o,hm⟩,y⟩:=s;exact ⟨⟨ms,o.ak x aj,hm⟩,y.ak x aj⟩
def QJ {L:Lp} {K:Xab->Hp->Prop} {h0 h:Hp} {A B N M n:Nat} {w:LW} {usl lb:cz} {sp:Int} {S:Nat->kz} {p52:Xac} {l53:Nat} {es:List ry} {el kl:cz} {D:List (Xaa × ct)} {ks:List Ky}
  {k:Xac->Xac->Nat->Nat->Xac->Nat->Nat->T} {p13:Xac}
  (hL:2=L.length) (pw:fU h0) (hA:h0.size<=A) (hAB:A<B) (e0:Ext h0 h) (ba:bF h A 54 [.int .i64 0,.int .i64 0,.string ⟨#[]⟩]) (s:oH h B w usl lb sp N M S) (JZ:Pc w) (es0:Cu h (B+4) el kl D ks)
  (v:Ob.tQ h0 p52 l53 es) (ge:∀ e,e∈es->Ex e.2) (hl:es.length<=2^20) (hD:D.length<=2^20) (hks:ks.length<=2^20)
  (hbad:∀ h' q,Ext h0 h'->(es.findSome? fun e=>w.bad n e.2)=some q->K (H9 23 n q) h')
  (hk:∀ h' G O J,Ext h0 h'->bF h' A 54 [.int .i64 0,.int .i64 0,.string ⟨#[]⟩]->oH h' B w usl lb sp N M S->Cu h' (B+4) G O (D++es.map fun e=>(w.word (n,e.1),w.lin n e.2)) (ks++es.map fun e=>(n,e.1)) ->
   Au h h'->(es.findSome? fun e=>w.bad n e.2)=none->k p13 G.p G.l G.c O.p O.l O.c (L++[J]) K h') :
  Uf ⟨A,0,none⟩ ⟨B+3,0,none⟩ (n:Int) p52 l53 p13 el.p el.l el.c kl.p kl.l kl.c k L K h:=by
 unfold Uf bH aP bK bU bt fx aG bn bj bY aR cn dh;have hl53:=v.len
 refine aX (cs:=Oq) (fun y m' h'=>∃ (i:Nat) (G O:cz),y.1=p13/\y.2.1=(G.p,G.l,G.c)/\y.2.2.1=(O.p,O.l,O.c)/\y.2.2.2.1=(i:Int)/\i<=es.length/\m'=es.length-i/\Ext h0 h'/\bF h' A 54 [.int .i64 0,.int .i64 0,.string ⟨#[]⟩]/\oH h' B w usl lb sp N M S /\
   Cu h' (B+4) G O (D++(es.take i).map fun e=>(w.word (n,e.1),w.lin n e.2)) (ks++(es.take i).map fun e=>(n,e.1))/\Au h h'/\∀ j,(u:j<i)->(hx:j<es.length)->w.bad n es[j].2=none)
  (p13,(el.p,el.l,el.c),(kl.p,kl.l,kl.c),(0:Int),()) es.length rfl ⟨0,el,kl,rfl,rfl,rfl,rfl,ad,ad,e0,ba,s,by simpa using es0,fun x e xs _ _ b=>b,by intro j u; omega⟩ ?_
 clear e0 ba s es0;rintro ⟨p55,⟨p56,l57,l58⟩,⟨p59,l60,l61⟩,n62,⟨⟩⟩ m' h1 ⟨i,V,kl1,hy1,hy2,hy3,hy4,hil,rfl,e1,ba,s,es1,ke,hok⟩;simp only [Prod.mk.injEq] at hy1 hy2 hy3 hy4;obtain ⟨rfl,rfl,rfl⟩:=hy2;obtain ⟨rfl,rfl,rfl⟩:=hy3;subst hy1 hy4;refine an ?_;refine aQ (fun q=>?_) (fun q=>?_)
 ·have hlt:i<es.length:=ad
  obtain ⟨aa,pp,ll,cc,haa,hc0,va0,hsz⟩:=v.cells i hlt;have gxi:=ge es[i] (Y9 hlt);have htk:es.take (i+1)=es.take i++[es[i]]:=Y3 hlt;have hfs:∀ q,w.bad n es[i].2=some q->(es.findSome? fun e=>w.bad n e.2)=some q:=by
   intro q hq;have hsp:es=es.take i++es[i]::es.drop (i+1):=by rw [<- Zg hlt,ZL]
   have hnone:((es.take i).findSome? fun e=>w.bad n e.2)=none:=by
    rw [ZN];intro x hx;obtain ⟨j,u,rfl⟩:=Zu hx;rw [Zp] at u;rw [List.getElem_take];exact hok j ad ad
   generalize hz:es[i]=z at hsp hq;rw [hsp,ce9,hnone,List.findSome?_cons,hq] <;> rfl
  have hnx:w.bad n es[i].2=none->∀ j,(u:j<i+1)->(hx:j<es.length)->w.bad n es[j].2=none:=by
   intro hn j u hx
   by_cases hji:j=i
   ·subst hji; exact hn
   ·exact hok j ad hx
  generalize es[i]=x at hc0 va0 hsz gxi htk hfs hnx;refine ay ⟨ad,ad⟩ (aw haa ?_);rw [show Int.toNat (i:Int)=i from ad];refine az (x.1,(pp,ll,cc),(x.2.num:Int),()) (aT e1 aj _ _ hc0) (an ?_);refine bm ?_;intro h2 b2' e2 z2;refine ar b2' rfl aj ?_;intro h3 b3 k3 z3;have b3:bF h3 h1.size 100 [.string x.1,.slice pp ll cc,.int .u32 (x.2.num:Int)]:=b3;have Z:Ext h1 h3:=bR e2 k3;have e03:=e1.trans Z;have s3:=s.ext Z;rw [aE];refine af b3 ((pp,ll,cc),(x.2.num:Int),()) rfl (an ?_);refine aJ (xG (c:=cc) (pw.ak e03 aj) s3.box s3.maps JZ n (va0.ak e03).vw gxi) ?_;rintro _ h4 ⟨e4,hq⟩;have z1:=e1.size;have l1:=s.lt;have q3:=b3.lt;cases hb:w.bad n x.2 with
  | some t =>
   rw [hb] at hq;subst hq;refine ⟨((none,0,0),(0:Int),t,false,()),rfl,an ?_⟩;refine bm ?_;intro h5 b5' e5 z5;refine ar b5' rfl aj ?_;intro h6 b6 k6 z6;refine bC rfl ?_;have X:Ext h4 h6:=bR e5 k6;have Y:=(Z.trans e4).trans X;refine ar (ba.ak Y aj) rfl aj ?_;intro h7 b7 k7 z7;have b7:bF h7 A 54 [.int .i64 23,.int .i64 (n:Int),.string t]:=b7;refine af b7 ((23:Int),(n:Int),t,()) rfl ?_;exact hbad h7 t (bR (e1.trans Y) k7) (hfs t hb)
  | none =>
   rw [hb] at hq;obtain ⟨p7,l7,c7,rfl,s7⟩:=hq;refine ⟨((p7,l7,c7),((w.lin n x.2).num:Int),(⟨#[]⟩:Xaa),true,()),rfl,an ?_⟩;refine bm ?_;intro h5 b5' e5 z5;refine ar b5' rfl aj ?_;intro h6 b6 k6 z6;have b6:bF h6 h4.size 69 [.slice p7 l7 c7,.int .u32 ((w.lin n x.2).num:Int)]:=b6;have X:Ext h4 h6:=bR e5 k6;have Y:=(Z.trans e4).trans X;refine bP rfl ?_;have b36:=b3.ak (e4.trans X) aj;refine af b36 (x.1,()) rfl (an ?_);refine af b6 ((p7,l7,c7),((w.lin n x.2).num:Int),()) rfl (an ?_);have s6:=s.ext Y;refine aJ (BI (pw.ak (e1.trans Y) aj) s6.box s6.maps JZ n x.1) ?_;rintro _ h8 ⟨rfl,e8⟩;refine ⟨(w.word (n,x.1),()),rfl,an ?_⟩;have U:=Y.trans e8;have b68:=b6.ak e8 aj;have b38:=b36.ak e8 aj;have hst:∀ h',Ext h8 h'->T.DF h' [(⟨h4.size,0,none⟩,[.slice p7 l7 c7,.int .u32 ((w.lin n x.2).num:Int)]),(⟨h1.size,0,none⟩,[.string x.1])]:=fun h' e=>⟨(b68.ak e aj).cells _ rfl,(b38.ak e aj).cells _ rfl,trivial⟩
   refine ⟨hst h8 (Ch.refl _ _),?_⟩;obtain ⟨⟨ms,o1,hms⟩,y1⟩:=es1;have o8:=o1.ak U aj;have y8:=y1.ak U aj;have hml:ms.length=D.length+i:=by
    have:=Zl List.length hms
    rw [Y0,Y4,Y0,Zp,ac9 hil] at this;exact this
   have hel:V.l=ms.length:=by have:=o1.out.1; rwa [Y0] at this
   have hkl:kl1.l=ks.length+i:=by
    have:=y1.1
    rw [Y0,Y4,Y0,Zp,ac9 hil] at this;exact this
   have z18:=U.size;have z4:=e4.size;have z46:=X.size;have z8:=e8.size;have z13:=Z.size;refine gU (vs:=zD ⟨w.word (n,x.1),p7,l7,c7,w.lin n x.2⟩) BU Kw rfl ad ad (GV _ p7 l7 c7 _) rfl rfl o8.out ad ad ad hst ?_;intro p9 c9 h9 s9 k9 hp9;have hnin:∀ j,h1.size<=j->j∉aM V.p:=fun j u hm=>by have:=(o1.out.cr hm).2; omega
   have b69:=b68.ak k9 (hnin _ ad);have b39:=b38.ak k9 (hnin _ ad);refine ⟨⟨b69.cells _ rfl,b39.cells _ rfl,trivial⟩,?_⟩;have XK:SL h8 (B+4) 117 2 p7 l7 c7 ((w.lin n x.2).ai.map df):=(s7.ak (X.trans e8) aj).mono ad;have o9:qK h9 (B+4) p9 (V.l+1) c9 (ms++[⟨w.word (n,x.1),p7,l7,c7,w.lin n x.2⟩]):=by
    refine o8.push XK (fun j u=>?_) (by rw [Ze]; exact s9) k9 (fun j u=>?_)
    ·have hj3:=(s7.cr u).1;refine ⟨fun y hy m hm=>?_,hnin _ ad⟩
     have:=((o1.fw y hy).cr hm).2
     omega
    ·rcases hp9 with rfl | ⟨a,rfl,ha⟩
     ·exact .inl u
     ·simp [aM] at u;subst u;exact .inr ha
   have y9:=y8.bM k9 (fun j u hm=>uV o8.out y8 bZ j hm u);have g9:=(s.ext U).rp o8.out k9 (Zh _) bZ bZ bZ bZ;have ba8:=ba.ak U aj;have ba9:=ba8.ak k9 (Bq o8.out ba8 bZ);have z9:=k9.size;have ke8:Au h h8:=ke.ext U;have ke9:Au h h9:=fun x e xs h1 h2 b=>by
    have b8:=ke8 x e xs h1 h2 b;exact b8.ak k9 (Bq o8.out b8 (Ne.symm h1))
   have e09:Ext h0 h9:=Ch.trans (e1.trans U) k9 (fun j u hl=>by have:=(o8.out.cr u).1; omega);refine af b39 (x.1,()) rfl (an ?_);refine mz (vs:=Ew (n,x.1)) Uo YQ rfl ad ad (Tm _ _) rfl rfl y9 ad ad ad ?_;intro p10 c10 h10 s10 k10 hp10;have hw:=iA i;rw [hw];refine aH (cs:=Oq) (p55,(p9,V.l+1,c9),(p10,kl1.l+1,c10),((i+1:Nat):Int),()) (es.length-(i+1)) (by rw [ZC ad,<- hL,cl9]; rfl) ad rfl ?_;refine ⟨i+1,⟨p9,V.l+1,c9⟩,⟨p10,kl1.l+1,c10⟩,rfl,rfl,rfl,rfl,ad,rfl,Ch.trans e09 k10 (fun j u hl=>by have:=(y9.cr u).1; omega),ba9.ak k10 (Bq y9 ba9 bZ),
    g9.rp y9 k10 (Zh _) bZ bZ bZ bZ,⟨⟨_,o9.rp y9 k10 bZ bZ,?_⟩,?_⟩,?_,hnx hb⟩
   ·rw [htk,Ze,hms,Ze,<- Zr] <;> rfl
   ·have he:(ks++(es.take (i+1)).map fun e=>(n,e.1)).map Ew=(ks++(es.take i).map fun e=>(n,e.1)).map Ew++[Ew (n,x.1)]:=by
     rw [htk]
     simp
    rw [he];exact s10
   ·intro x e xs h1 h2 b;have b9:=ke9 x e xs h1 h2 b;exact b9.ak k10 (Bq y9 b9 (Ne.symm h2))
 ·have hi:i=es.length:=ad
  subst hi;rw [Zy (Zh _)] at es1;refine hk h1 V kl1 _ e1 ba s es1 ke ?_;rw [ZN];intro x hx;obtain ⟨j,u,rfl⟩:=Zu hx;exact hok j u u
def T7:Tryz.prog.underlying 30=some (.slice 47):=ax
def W9:(Tryz.prog.info? 47).map (fun i=>(i.zero,i.size,i.bytes))=some (some (.agg #[.slice none 0 0,.slice none 0 0,.slice none 0 0,.slice none 0 0]),4,96):=ax
def UL (p1:Xac) (u G:Nat) (J:Xac) (O U:Nat) (p3:Xac) (V c3:Nat) (X:Xac) (Y Z:Nat):Instr.fill (fun j=>some (j*4,4)) ((Array.range (1*4)).map ((Value.agg #[.slice none 0 0,.slice none 0 0,.slice none 0 0,.slice none 0 0]).cells[· % (Value.agg #[.slice none 0 0,.slice none 0 0,.slice none 0 0,.slice none 0 0]).cells.size]!)) [(0,.agg #[.slice p1 u G,.slice J O U,.slice p3 V c3,.slice X Y Z])]=some ([.slice p1 u G,.slice J O U,.slice p3 V c3,.slice X Y Z]:List Xab).toArray:=ax
def UK (V a7:Xax) (X:Xac) (Y Z:Nat) (u:Xac) (G l19:Nat):T :=
   (bK 37 [.slice X Y Z] true [(false,[.slice 100]),aR,aR] <| fun (p21:Xac) (l22:Nat) (l23:Nat) (j:Int) (J:Int) =>
   cond (J != (0:Int))
    (T.need (fx j G) <|
    T.bG u <| fun (a26:Xax) =>
    T.ah (a26.add (aP j 2)) [.int .i64] <| fun (O:Int) =>
    T.need (fx j G) <|
    T.bG u <| fun (a28:Xax) =>
    T.ah ((a28.add (aP j 2)).add 1) [.string] <| fun (U:Xaa) =>
    T.bi [(((a28.add (aP j 2)).add 1),[.string U]),((a26.add (aP j 2)),[.int .i64 O])] <|
    T.aC V [.int .i64 J,.int .i64 O,.string U] <|
    T.ah V [.int .i64,.int .i64,.string] <| fun (n30:Int) (n31:Int) (SM:Xaa) =>
    bn #[.pointer none,.agg #[.int .i64 n30,.int .i64 n31,.string SM]])
    (TI V a7 p21 l22 l23))
def Tz (J G:Xax) (p13 p14:Xac) (l15 l16:Nat) (p17:Xac) (l18 l19:Nat) (j:Int) (p22:Xac) (l23 l24:Nat) (p25:Xac) (l26 l27:Nat) (p28:Xac) (l29 l30:Nat) (p31:Xac) (l32 l33:Nat):T :=
   T.new [bj,bj,bj,bj] 47 <| fun (u:Xax) =>
   T.aC u [.slice p22 l23 l24,.slice p25 l26 l27,.slice p28 l29 l30,.slice p31 l32 l33] <|
   T.new [bj,bj,bj,bj] 47 <| fun (a35:Xax) =>
   T.ah u [.slice 71] <| fun (p36:Xac) (l37:Nat) (l38:Nat) =>
   bK 33 [.pointer (some G),.int .i64 j,.slice p36 l37 l38] true [(false,[.slice 71]),(false,[.string]),cn] <| fun (p39:Xac) (l40:Nat) (l41:Nat) (s42:Xaa) (b43:Bool) =>
   T.aC a35 [.slice p39 l40 l41] <|
   cond (!b43)
    (T.aC J [.int .i64 (23:Int),.int .i64 j,.string s42] <|
    T.ah J [.int .i64,.int .i64,.string] <| fun (n44:Int) (n45:Int) (s46:Xaa) =>
    bn #[.pointer none,.agg #[.int .i64 n44,.int .i64 n45,.string s46]])
    (T.ah (u.add 1) [.slice 71] <| fun (p44:Xac) (l45:Nat) (l46:Nat) =>
    bK 33 [.pointer (some G),.int .i64 j,.slice p44 l45 l46] true [(false,[.slice 71]),(false,[.string]),cn] <| fun (p47:Xac) (l48:Nat) (l49:Nat) (s50:Xaa) (b51:Bool) =>
    T.aC (a35.add 1) [.slice p47 l48 l49] <|
    cond (!b51)
    (T.aC J [.int .i64 (23:Int),.int .i64 j,.string s50] <|
    T.ah J [.int .i64,.int .i64,.string] <| fun (n52:Int) (n53:Int) (s54:Xaa) =>
    bn #[.pointer none,.agg #[.int .i64 n52,.int .i64 n53,.string s54]])
    (T.ah (u.add 2) [.slice 100] <| fun (p52:Xac) (l53:Nat) (l54:Nat) =>
    Uf J G j p52 l53 p13 p14 l15 l16 p17 l18 l19 fun p55 p56 l57 l58 p59 l60 l61 =>
     (T.ah G [.slice 47] <| fun (O:Xac) (U:Nat) (V:Nat) =>
     T.ah a35 [.slice 71,.slice 71,.slice 100,.slice 9] <| fun (X:Xac) (Y:Nat) (Z:Nat) (p69:Xac) (l70:Nat) (l71:Nat) (p72:Xac) (l73:Nat) (l74:Nat) (p75:Xac) (l76:Nat) (l77:Nat) =>
     bU (Instr.buildSlice 30 1 #[(0,.agg #[.slice X Y Z,.slice p69 l70 l71,.slice p72 l73 l74,.slice p75 l76 l77])]) false [dh] <| fun (p78:Xac) (l79:Nat) (l80:Nat) =>
     T.bi [(G,[.slice O U V])] <|
     bU (Builtin.append_ #[30,30] 30 #[.slice O U V,.slice p78 l79 l80]) false [dh] <| fun (p81:Xac) (l82:Nat) (l83:Nat) =>
     T.bi [(a35,[.slice X Y Z,.slice p69 l70 l71,.slice p72 l73 l74,.slice p75 l76 l77])] <|
     T.aC G [.slice p81 l82 l83] <|
     T.ah (G.add 6) [.int .i64] <| fun (n84:Int) =>
     T.ah u [.slice 71,.slice 71,.slice 100,.slice 9] <| fun (p85:Xac) (l86:Nat) (l87:Nat) (p88:Xac) (l89:Nat) (l90:Nat) (p91:Xac) (l92:Nat) (l93:Nat) (p94:Xac) (l95:Nat) (l96:Nat) =>
     bK 36 [.agg #[.slice p85 l86 l87,.slice p88 l89 l90,.slice p91 l92 l93,.slice p94 l95 l96]] false [aR] <| fun (n97:Int) =>
     T.bi [((G.add 6),[.int .i64 n84])] <|
     T.aC (G.add 6) [.int .i64 (bt (n84+n97))] <|
     T.again 1 [.pointer p55,.slice p56 l57 l58,.slice p59 l60 l61,.int .i64 (bt (j+(1:Int)))])))
def zu {S:Nat->kz} {k n:Nat} {x:kz} (hk:2*n<=k):mE (kW S k x) n=mE S n:=by
 unfold mE;apply ZM;intro i hi;have hi:i<n:=aw9.1 hi;unfold xH kW;rw [Y2 ad,Y2 ad]
section
variable {h h':Hp} {B N M:Nat} {w:LW} {usl lb:cz} {sp:Int} {S:Nat->kz}
def oH.add (s:oH h B w usl lb sp N M S) (e:Ext h h') (j:2*N<=M) {x:kz} (hx:my h' h.size x):oH h' B w usl lb sp N (M+1) (kW S M x):=by
 have s':=s.ext e;exact ⟨s'.box,s'.maps,s'.oT,by rw [zu j]; exact s'.un,s.w9.add e s.lt hx⟩
end
section
variable {h h':Hp} {B N M:Nat} {w:LW} {usl lb:cz} {sp:Int} {S:Nat->kz}
def oH.FF {x:Nat} {xs:List Xab} (s:oH h B w usl lb sp N M S) (b:bF h x 47 xs) (hx:B+4<=x) (hu:x∉aM usl.p) (k:Ch [x] h h'):oH h' B w usl lb sp N M S:=by
 have hs:∀ {G sz:Nat} {e:TypeId} {q:Xac} {m d:Nat} {ys:List (List Xab)},SL h G e sz q m d ys->e≠47->SL h' G e sz q m d ys:=fun t O=>t.bM k (fun i hi hm=>by
  have:i=x:=by simpa using hm
  subst this;exact Bq t b O hi)
 exact ⟨s.box.ak k (by simp; omega),s.maps.ak k (by simp; omega) (by simp; omega) (by simp; omega),hs s.oT bZ,s.un.bM k (fun i hi hm=>by
  have:i=x:=by simpa using hm
  subst this;exact hu hi),⟨fun j J=>⟨hs (s.w9.sec j J).out bZ,fun u hu=>hs ((s.w9.sec j J).fw u hu) bZ⟩,s.w9.ap⟩⟩
def Cu.FF {x b:Nat} {xs:List Xab} {e k:cz} {D:List (Xaa × ct)} {ks:List Ky} (s:Cu h b e k D ks) (bx:bF h x 47 xs) (c:Ch [x] h h'):Cu h' b e k D ks:=by
 have hs:∀ {j sz:Nat} {e:TypeId} {q:Xac} {m d:Nat} {ys:List (List Xab)},SL h j e sz q m d ys->e≠47->SL h' j e sz q m d ys:=fun t u=>t.bM c (fun i hi hm=>by
  have:i=x:=by simpa using hm
  subst this;exact Bq t bx u hi)
 obtain ⟨⟨ms,o,hm⟩,y⟩:=s;exact ⟨⟨ms,⟨hs o.out bZ,fun m hm=>hs (o.fw m hm) bZ,o.ap,o.dj⟩,hm⟩,hs y bZ⟩
def Cu.rL {b j sz:Nat} {q:Xac} {m d:Nat} {ys:List (List Xab)} {e k:cz} {D:List (Xaa × ct)} {ks:List Ky} (s:Cu h b e k D ks) (t:SL h j 47 sz q m d ys) (c:Ch (aM q) h h'):Cu h' b e k D ks:=by
 obtain ⟨⟨ms,o,hm⟩,y⟩:=s;exact ⟨⟨ms,o.rp t c bZ bZ,hm⟩,y.bM c (fun i hi hm=>uV t y bZ i hm hi)⟩
def Cu.SC {b x : Nat} {e k : cz} {D : List (Xaa × ct)} {ks : List Ky} (s : Cu h b e k D ks) (hx : x < b) (c : Ch [x] h h') : Cu h' b e k D ks := by
  obtain ⟨⟨ms, o, hm⟩, y⟩ := s
  exact ⟨⟨ms, o.ak c (fun i hi => by have : i = x := by simpa using hi
                                     omega), hm⟩, y.bM c (fun i hi hm => by
    have : i = x := by simpa using hm
    have := (y.cr hi).1;omega)⟩
end
def Pr {L:Lp} {K:Xab->Hp->Prop} {h0 h:Hp} {A B n:Nat} {w:LW} {usl lb:cz} {sp:Nat} {S:Nat->kz} {u:bX} {j O tc td el kl:cz} {D:List (Xaa × ct)} {ks:List Ky} {p13:Xac} {I:qt (flat Oq)->Nat->Hp->Prop} {m:Nat}
  (hL:2=L.length) (hJ:L[1]?=some (Jl I m)) (pw:fU h0) (tb0:AW h0) (hA:h0.size<=A) (hAB:A<B) (e0:Ext h0 h) (ba:bF h A 54 [.int .i64 0,.int .i64 0,.string ⟨#[]⟩]) (s:oH h B w usl lb (sp:Int) n (2*n) S) (JZ:Pc w) (es0:Cu h (B+4) el kl D ks)
  (v:oB h0 j O tc td u) (ge:∀ x,x∈cv u->Ex x) (hr:dL u=0) (hl1:u.text.length<=2^20) (hl2:u.data.length<=2^20) (hl3:u.bh.length<=2^20) (hD:D.length<=2^20) (hks:ks.length<=2^20) (hn:n<=2^20) (hsp:sp<=2^40)
  (hbad:∀ h' q,Ext h0 h'->qW w n u=some q->K (H9 23 n q) h')
  (hk:∀ h' el' kl' usl' S',Ext h0 h'->bF h' A 54 [.int .i64 0,.int .i64 0,.string ⟨#[]⟩]->oH h' B w usl' lb ((sp+jT u.text:Nat):Int) (n+1) (2*(n+1)) S'->Cu h' (B+4) el' kl' (D++u.bh.map fun e=>(w.word (n,e.1),w.lin n e.2)) (ks++u.bh.map fun e=>(n,e.1)) ->
   qW w n u=none->(∀ k,k<2*n->S' k=S k)->(S' (2*n)).ws.map (·.2)=u.text.map (w.eS n)->(S' (2*n+1)).ws.map (·.2)=u.data.map (w.eS n) ->
   ∃ m',m'<m/\I (p13,(el'.p,el'.l,el'.c),(kl'.p,kl'.l,kl'.c),((n+1:Nat):Int),()) m' h') :
  Tz ⟨A,0,none⟩ ⟨B+3,0,none⟩ p13 el.p el.l el.c kl.p kl.l kl.c (n:Int) j.p j.l j.c O.p O.l O.c tc.p tc.l tc.c td.p td.l td.c L K h:=by
 unfold Tz bK bU bt bn bj aR cn dh;have l0:=s.lt;have zA:=e0.size;refine bm ?_;intro h1 b1' e1 z1;refine ar b1' rfl aj ?_;intro h2 b2 k2 z2;have b2:bF h2 h.size 47 [j.v,O.v,tc.v,td.v]:=b2;have e02:Ext h h2:=bR e1 k2;refine bm ?_;intro h3 b3 e3 z3;have b23:=b2.ak e3 aj;refine af b23 ((j.p,j.l,j.c),()) rfl (an ?_);have e03:=e02.trans e3;have s3:=s.ext e03;have E3:=e0.trans e03;refine aJ (zb (c:=j.c) (pw.ak E3 aj) s3.box s3.maps JZ n (v.ak E3).text hl1 (fun x hx=>ge _ (by unfold cv; simp only [List.mem_append]; exact .inl (.inl (Zm hx))))) ?_;rintro _ h4 ⟨e4,hq⟩;have z03:=e03.size;have z4:=e4.size;have q3:=b3.lt;cases hb:w.yA n u.text with
 | some t =>
  rw [hb] at hq;subst hq;refine ⟨((none,0,0),t,false,()),rfl,an ?_⟩;refine ar (b3.ak e4 aj) rfl aj ?_;intro h5 b5 k5 z5;refine bC rfl ?_;have e35:Ext h3 h5\/True:=.inr trivial;have ba5:=((ba.ak (e03.trans e4) aj).ak k5 (by simp; omega))
  refine ar ba5 rfl aj ?_;intro h6 b6 k6 z6;have b6:bF h6 A 54 [.int .i64 23,.int .i64 (n:Int),.string t]:=b6;refine af b6 ((23:Int),(n:Int),t,()) rfl ?_;refine hbad h6 t ?_ (by unfold qW; rw [hb]; rfl);exact Ch.trans (bR (E3.trans e4) k5) k6 (fun i hi hl=>by simp at hi; omega)
 | none =>
  rw [hb] at hq;obtain ⟨p4,c4,B4,w4,rfl,lc4,hB4,hw4⟩:=hq;refine ⟨((p4,j.l,c4),(⟨#[]⟩:Xaa),true,()),rfl,an ?_⟩;refine ar (b3.ak e4 aj) rfl aj ?_;intro h5 b5 k5 z5;have b5:bF h5 h2.size 47 [.slice p4 j.l c4,.slice none 0 0,.slice none 0 0,.slice none 0 0]:=b5;refine bP rfl ?_;have x4:my h4 h3.size ⟨⟨p4,j.l,c4⟩,w4⟩:=⟨lc4.out,fun y hy=>(lc4.fw y hy).mono hB4⟩
  have s4:=s3.add e4 (Zh _) x4;have hu2:h2.size∉aM usl.p:=fun hm=>by have:=(s.un.cr hm).2; have:=e02.size; omega
  have l2:=e02.size;have s5:=s4.FF (b3.ak e4 aj) ad hu2 k5;have ba5:=(ba.ak (e03.trans e4) aj).ak k5 (by simp; omega);have q2:=b2.lt;have b25:=(b23.ak e4 aj).ak k5 (by simp; omega);have E5:Ext h0 h5:=bR (E3.trans e4) k5;have es5:Cu h5 (B+4) el kl D ks:=((es0.ext (e03.trans e4))).FF (b3.ak e4 aj) k5;rw [aE];refine af b25 ((O.p,O.l,O.c),()) rfl (an ?_);refine aJ (zb (c:=O.c) (pw.ak E5 aj) s5.box s5.maps JZ n (v.ak E5).data hl2 (fun x hx=>ge _ (by unfold cv; simp only [List.mem_append]; exact .inl (.inr (Zm hx))))) ?_;rintro _ h6 ⟨e6,hq⟩;have b56:=b5.ak e6 aj;have z6:=e6.size;cases hb2:w.yA n u.data with
  | some t =>
   rw [hb2] at hq;subst hq;refine ⟨((none,0,0),t,false,()),rfl,an ?_⟩;rw [aE];refine ar b56 rfl aj ?_;intro h7 b7 k7 z7;refine bC rfl ?_;have ba7:=(ba5.ak e6 aj).ak k7 (by simp; omega);refine ar ba7 rfl aj ?_;intro h8 b8 k8 z8;have b8:bF h8 A 54 [.int .i64 23,.int .i64 (n:Int),.string t]:=b8;refine af b8 ((23:Int),(n:Int),t,()) rfl ?_;refine hbad h8 t ?_ (by unfold qW; rw [hb,hb2]; rfl);exact Ch.trans (bR (E5.trans e6) k7) k8 (fun i hi hl=>by simp at hi; omega)
  | none =>
   rw [hb2] at hq;obtain ⟨p6,c6,B6,w6,rfl,lc6,hB6,hw6⟩:=hq;refine ⟨((p6,O.l,c6),(⟨#[]⟩:Xaa),true,()),rfl,an ?_⟩;rw [aE];refine ar b56 rfl aj ?_;intro h7 b7 k7 z7;have b7:bF h7 h2.size 47 [.slice p4 j.l c4,.slice p6 O.l c6,.slice none 0 0,.slice none 0 0]:=b7;refine bP rfl ?_;have x6:my h6 h5.size ⟨⟨p6,O.l,c6⟩,w6⟩:=⟨lc6.out,fun y hy=>(lc6.fw y hy).mono hB6⟩
   have s6:=s5.add e6 ad x6;have s7:=s6.FF b56 ad hu2 k7;have es7:=(es5.ext e6).FF b56 k7;have ba7:=(ba5.ak e6 aj).ak k7 (by simp; omega);have b27:=(b25.ak e6 aj).ak k7 (by simp; omega);have E7:Ext h0 h7:=bR (E5.trans e6) k7;have Tl:=b27;rw [aE];refine af b27 ((tc.p,tc.l,tc.c),()) rfl (an ?_);refine QJ hL pw hA hAB E7 ba7 s7 JZ es7 v.bh (fun e he=>ge _ (by unfold cv; simp only [List.mem_append]; exact .inr (Zm he))) hl3 hD hks (fun h' q e hq=>hbad h' q e (by unfold qW; rw [hb,hb2]; exact hq)) ?_;intro h8 el8 kl8 J E8 ba8 Y es8 ke8 hb3;have b78:=ke8 _ _ _ bZ bZ b7;have b28:=ke8 _ _ _ bZ bZ b27;generalize hS2:kW (kW S (2*n) ⟨⟨p4,j.l,c4⟩,w4⟩) (2*n+1) ⟨⟨p6,O.l,c6⟩,w6⟩=S2 at Y;refine af Y.box ((usl.p,usl.l,usl.c),()) rfl (an ?_);refine af b78 ((p4,j.l,c4),(p6,O.l,c6),(none,0,0),(none,0,0),()) rfl (an ?_);have hul:usl.l=n:=by have:=s.un.1; rwa [jC] at this
   have z8':=E8.size;have l8:=Y.lt;refine gU (vs:=[.slice p4 j.l c4,.slice p6 O.l c6,.slice none 0 0,.slice none 0 0]) T7 W9 rfl ad ad (UL p4 j.l c4 p6 O.l c6 none 0 0 none 0 0) rfl rfl Y.un ad ad ad (fun h' e=>⟨(Y.box.ak e aj).cells _ rfl,trivial⟩) ?_;intro p9 c9 h9 s9 k9 hp9;have b79:=b78.ak k9 hu2;have hu1:h.size∉aM usl.p:=fun hm=>by have:=(s.un.cr hm).2; omega
   have b29:=b28.ak k9 hu1;refine ⟨⟨b79.cells _ rfl,trivial⟩,?_⟩;have G:∀ i,i∈aM usl.p->B+4<=i:=fun i hi=>(Y.un.cr hi).1
   have bx9:=Y.box.ak k9 (fun hm=>by have:=G _ hm; omega);have ba9:=ba8.ak k9 (fun hm=>by have:=G _ hm; omega);have es9:=es8.rL Y.un k9;have E9:Ext h0 h9:=Ch.trans E8 k9 (fun i hi hl=>by have:=G _ hi; omega);have m9:=Y.maps.ak k9 (fun hm=>by have:=G _ hm; omega) (fun hm=>by have:=G _ hm; omega) (fun hm=>by have:=G _ hm; omega);have lb9:=Y.oT.bM k9 (fun i hi hm=>uV Y.un Y.oT bZ i hm hi);have se9:=Y.w9.rp Y.un k9 bZ bZ;have z9:=k9.size;refine ar bx9 rfl aj ?_;intro h10 Z U z10;have Z:O4 h10 (B+3) ⟨p9,usl.l+1,c9⟩ lb B (B+1) (B+2) (sp:Int):=Z;have es10:=es9.SC ad U;have ba10:=ba9.ak U (by simp; omega);have m10:=m9.ak U aj aj aj;have lb10:=lb9.bM U (fun i hi=>by have:=(lb9.cr hi).1; simp; omega);have se10:=se9.mG U aj;have un10:=s9.bM U (fun i hi=>by have:=(s9.cr hi).1; simp; omega);have E10:Ext h0 h10:=bR E9 U;have b210:=b29.ak U (by simp; omega);rw [aE];refine af Z ((sp:Int),()) rfl (an ?_);refine af b210 ((j.p,j.l,j.c),(O.p,O.l,O.c),(tc.p,tc.l,tc.c),(td.p,td.l,td.c),()) rfl (an ?_);refine aJ (JB (tb0.ak E10 aj) (v.ak E10)) ?_;rintro _ h11 ⟨rfl,V⟩;rw [Y8 hr];refine ⟨(((jT u.text:Nat):Int),()),rfl,an ?_⟩;have bx11:=Z.ak V aj;refine ⟨⟨bx11.cells _ rfl,trivial⟩,?_⟩;have hsl:=zp u.text;refine ar bx11 rfl aj ?_;intro h12 bx12 X z12;have hw1:IntKind.wrap .i64 ((sp:Int)+((jT u.text:Nat):Int))=((sp+jT u.text:Nat):Int):=by rw [wrap_i64 ad ad]; omega
   rw [hw1] at bx12;have bx12:O4 h12 (B+3) ⟨p9,usl.l+1,c9⟩ lb B (B+1) (B+2) ((sp+jT u.text:Nat):Int):=bx12;have hw:=iA n;rw [hw];have un11:=un10.ak V aj;have lb11:=lb10.ak V aj;obtain ⟨m',hm',hI⟩:=hk h12 el8 kl8 ⟨p9,usl.l+1,c9⟩ S2 (bR (E10.trans V) X) ((ba10.ak V aj).ak X (by simp; omega))
    ⟨bx12,(m10.ak V aj aj aj).ak X aj aj aj,lb11.bM X (fun i hi=>by have:=(lb11.cr hi).1; simp; omega),by
     have:=un11.bM X (fun i hi=>by have:=(un11.cr hi).1; simp; omega)
     rw [<- hS2,Hj];rw [<- hS2,zu ad,zu ad] at this;exact this,(se10.ext V).mG X aj⟩
    ((es10.ext V).SC ad X) (by unfold qW; rw [hb,hb2]; exact hb3) (fun k hk=>by rw [<- hS2]; unfold kW; rw [Y2 ad,Y2 ad]) (by rw [<- hS2]; unfold kW; rw [Y2 ad,Y8 rfl]; exact hw4) (by rw [<- hS2]; unfold kW; rw [Y8 rfl]; exact hw6)
   exact aH (cs:=Oq) (p13,(el8.p,el8.l,el8.c),(kl8.p,kl8.l,kl8.c),((n+1:Nat):Int),()) m' (by rw [ZD ad]; exact hJ) hm' rfl hI
def lQ (us:List bX):Nat:=(us.map fun u=>jT u.text).sum
structure MH (x:kz):Prop where
 len:x.ws.length<=2^30
 U1:∀ u,u∈x.ws->u.2.e.ai.length<=2^40
 sz:∀ u,u∈x.ws->∀ t,t∈u.2.e.ai->t.1.size<=maxLen
def Md (h0:Hp) (us:List bX) (v:Xab) (h':Hp):Prop:=Ext h0 h'/\match jo us with
 | .error f=>v=H9 f.nQ f.unit f.name
 | .ok P=>∃ B usl lb S,h0.size<=B/\v=.tuple #[ptr (B+3),.agg #[.int .i64 0,.int .i64 0,.string ⟨#[]⟩]]/\oH h' B P.w usl lb ((lQ us:Nat):Int) us.length (2*us.length) S /\
   (∀ n,(hn:n<us.length)->(S (2*n)).ws.map (·.2)=us[n].text.map (P.eS n)/\(S (2*n+1)).ws.map (·.2)=us[n].data.map (P.eS n))/\∀ k,k<2*us.length->MH (S k)
def NQ {ms:List cK} (ok:EqsOk ms) (het:∀ e,e∈ms->e.x.ai.length<=2^20) {x:ct} (hl:x.ai.length<=2^20) (hs:∀ t,t∈x.ai->t.1.size<=maxLen):(de (cw ms) x).ai.length<=2^40/\∀ t,t∈(de (cw ms) x).ai->t.1.size<=maxLen:=by
 have G:∀ s y,cw ms s=some y->∃ e,e∈ms/\y=e.x:=by
  intro s y hy;unfold cw at hy;split at hy
  ·next V =>
   obtain ⟨e,j,_,hx⟩:=lO ((ei ms s).1 V);exact ⟨e,j,by cases hy; exact hx⟩
  ·cases hy
 refine ⟨?_,fun t J=>?_⟩
 ·have O:=eX (cw ms) x;have h1:((de (cw ms) x).ai.map (·.1)).Nodup:=Z3.2 (O.1.imp fun h=>jD h);have h2:=jO _ ((x.ai.flatMap (rh (cw ms))).map (·.1)) h1 (fun s hs=>by
   obtain ⟨t,J,rfl⟩:=Za.1 hs;obtain ⟨p,U,e⟩:=DP J;exact Za.2 ⟨p,U,e⟩)
  rw [Y0,Y0] at h2;have h3:=pR (of:=cw ms) (B:=2^20) bZ (fun s y hy=>by
   obtain ⟨e,j,rfl⟩:=G s y hy;exact het e j) x.ai
  exact ZW h2 (ZW h3 (ZW (ag9 _ hl) bZ))
 ·rcases rW J with ⟨p,U,j,_⟩ | ⟨p,y,u,_,hy,hu,j⟩
  ·rw [<- j]; exact hs p U
  ·obtain ⟨e,hm,rfl⟩:=G _ _ hy;rw [<- j]; exact ok.ts e hm u hu
def W6 {x:ct} (g:Good x) (h:x.ai.length<=2^20):Ex x :=
 ⟨g.nf,g.num,h,fun t j=>by
  have:=He (g.Mw t j)
  have u:2000<=maxLen:=bZ
  omega⟩
def Gj.CI {us:List bX} (s:Gj us) (r:FW us) {u:bX} (hu:u∈us) {x:ct} (hx:x∈cv u):Ex x :=
 W6 (Ax (r.right u hu) (s.num u hu) x hx) (s.len hu hx)
def EC {us:List bX} (s:Gj us) (r:FW us) {w:LW} (lb:Pc w) {u:bX} (hu:u∈us) {n:Nat} (hb:qW w n u=none) {l:List cE} (hl:l=u.text\/l=u.data) {ws:List (cz × cE)} (hw:ws.map (·.2)=l.map (w.eS n)):H7 ws/\ws.length<=2^20:=by
 have j:=BE hb;have h2:=(r.bh hu).2;refine ⟨fun y hy=>?_,?_⟩
 ·have h1:y.2∈l.map (w.eS n):=by rw [<- hw]; exact Zm hy
  obtain ⟨x,hx,O⟩:=Za.1 h1;have G:w.bad n x.e=none:=by
   rcases hl with rfl | rfl
   ·exact j.1 x hx
   ·exact j.2.1 x hx
  have J:x.e∈cv u:=by
   unfold cv;simp only [List.mem_append];rcases hl with rfl | rfl
   ·exact .inl (.inl (Zm hx))
   ·exact .inl (.inr (Zm hx))
  have g:=s.CI r hu J;have hy:y.2.e=w.lin n x.e:=by rw [<- O]; rfl
  rw [hy];exact ⟨ZW (y5 G) g.len,lM g.num,NE lb G⟩
 ·have:=Zl List.length hw
  rw [Y0,Y0] at this;rcases hl with rfl | rfl <;> omega
def Lx {D:List (Xaa × ct)} {es:List cK} (h:es.map fk=D) {i:Nat} (hi:i<es.length) (h1:kq (dp es) es[i].name) (h2:∀ j,(u:j<i)->¬ kq (dp es) es[j].name):mT D=some i:=by
 classical
 have J:dp (eU D)=dp es:=AT (by rw [mI,h]);have hl:D.length=es.length:=by rw [<- h,Y0]
 have hn:∀ j,(u:j<es.length)->(D[j]'ad).1=es[j].name:=by
  intro j u;subst h;rw [Zb] <;> rfl
 unfold mT;rw [Zs];refine ⟨ad,?_,fun j u=>?_⟩
 ·refine Y6 ?_;rw [J,hn i hi];exact h1
 ·intro G;have G:=Y5 G;rw [J,hn j ad] at G;exact h2 j u G
def La {D:List (Xaa × ct)} {es:List cK} (h:es.map fk=D) (h2:∀ v,¬ kq (dp es) v):mT D=none:=by
 have j:dp (eU D)=dp es:=AT (by rw [mI,h]);unfold mT;rw [ZB];intro x hx;rw [decide_eq_false_iff_not,j];exact h2 _
def Nh {D:List (Xaa × ct)} {es ms:List cK} (h:es.map fk=D) (hm:ms.map (fun m=>(m.name,m.x))=es.map (fun e=>(e.name,eR es e.name))):cw ms=cw (eU (mu D)):=by
 refine FC ?_;rw [mI];show ms.map (fun m=>(m.name,m.x))=_;rw [hm];unfold mu;have hs:eR (eU D)=eR es:=IM (by rw [mI,h]);rw [hs,<- h,Zv] <;> rfl
def PJ {J0 J1:List Xab->Hp->Prop} {h0 h:Hp} {A B:Nat} {w:LW} {usl lb:cz} {S:Nat->kz} {us:List bX} {Y Z:cz}
  (hA:h0.size<=A) (hAB:A<B) (e0:Ext h0 h) (ba:bF h A 54 [.int .i64 0,.int .i64 0,.string ⟨#[]⟩]) (s:oH h B w usl lb ((lQ us:Nat):Int) us.length (2*us.length) S)
  (es0:Cu h (B+4) Y Z (vG w us) ((ek 0 us).map jP)) (r:FW us) (sm:Gj us) (i0:WI w (bQ 0 us) ((ek 0 us).map jP)) (hb:fK w 0 us=none)
  (hS:∀ n,(hn:n<us.length)->(S (2*n)).ws.map (·.2)=us[n].text.map (w.eS n)/\(S (2*n+1)).ws.map (·.2)=us[n].data.map (w.eS n))
  (hlp:jo us=match mT (vG w us) with
    | some i=>.error ⟨24,((ek 0 us).map fun q=>(q.1,q.2.1)).getD i (0,dH) |>.1,((ek 0 us).map fun q=>(q.1,q.2.1)).getD i (0,dH) |>.2⟩
    | none=>.ok ⟨w,us,vG w us⟩) :
  UK ⟨A,0,none⟩ ⟨B+3,0,none⟩ Y.p Y.l Y.c Z.p Z.l Z.c [J0,J1] (Md h0 us) h:=by
 unfold UK aP bK fx bn aR;obtain ⟨⟨es,o,G⟩,y⟩:=es0;have eo:=Tu r sm i0 hb G;have hl:es.length=(ek 0 us).length:=by
  have:=Zl List.length G
  unfold vG at this;simpa using this
 have hl2:=r.eqs;refine aJ (Fk (c:=Y.c) (CD o) eo (fun i hi=>(o.out.cr hi).2) ad) ?_;rintro _ h1 ⟨hq,e1⟩;rcases hq with ⟨i,hi,hon,hmin,rfl⟩ | ⟨hno,p',l',c',ms,rfl,oms,hms⟩
 ·refine ⟨((none,0,0),(i:Int),(24:Int),()),rfl,an ?_⟩;refine bC rfl ?_;have y1:=y.ak e1 aj;have hkl:Z.l=(ek 0 us).length:=by have:=y.1; rwa [Y0,Y0] at this
  have hik:i<(ek 0 us).length:=ad
  obtain ⟨a,ha,hc⟩:=y1.cells (i:=i) (by rw [Y0,Y0]; exact hik);rw [Zb,Zb] at hc;generalize hq:(ek 0 us)[i]=q at hc;have hc:aI h1 (a.add (i*2)) 0 [.int .i64 (q.1:Int),.string q.2.1]:=hc;refine ay ⟨ad,ad⟩ (aw ha ?_);rw [show Int.toNat (i:Int)=i from ad];refine az ((q.1:Int),()) (eM 1 _ 0 hc) (an ?_);refine ay ⟨ad,ad⟩ (aw ha ?_);have hc1:aI h1 ((a.add (i*2)).add 1) 0 [.string q.2.1]:=iY _ 1 0 (gP 1 _ 0 hc);refine az (q.2.1,()) hc1 (an ?_);refine ⟨⟨hc1,eM 1 _ 0 hc,trivial⟩,?_⟩;refine ar (ba.ak e1 aj) rfl aj ?_;intro h2 b2 k2 z2;have b2:bF h2 A 54 [.int .i64 24,.int .i64 (q.1:Int),.string q.2.1]:=b2;refine af b2 ((24:Int),(q.1:Int),q.2.1,()) rfl ?_;refine ⟨bR (e0.trans e1) k2,?_⟩;rw [hlp,Lx G hi hon hmin];have hg:((ek 0 us).map fun q=>(q.1,q.2.1)).getD i (0,dH)=(q.1,q.2.1):=by
   rw [ZV,ZO,Y1 hik,hq] <;> rfl
  simp only [hg] <;> rfl
 ·refine ⟨((p',l',c'),(0:Int),(0:Int),()),rfl,an ?_⟩;refine bP rfl ?_;obtain ⟨k1,k2,k3,k4⟩:=KH eo hno hms ad;have hmany:=r.many;have O:∀ j,j<2*us.length->H7 (S j).ws/\(S j).ws.length<=2^20:=by
   intro j hj;have hn:j / 2<us.length:=ad
   have V:=jI us 0 hb (j / 2) hn;rw [ZJ] at V;have J:=hS (j / 2) hn
   by_cases h2:j % 2=0
   ·have:j=2*(j / 2):=ad
    rw [this];exact EC sm r (r.JZ i0) (Y9 hn) V (.inl rfl) J.1
   ·have:j=2*(j / 2)+1:=ad
    rw [this];exact EC sm r (r.JZ i0) (Y9 hn) V (.inr rfl) J.2
  refine Qw hA hAB (e0.trans e1) (ba.ak e1 aj) (s.ext e1) ⟨oms,k1,k2,k3,k4⟩ ad O ?_
  ·intro h' S' E' s' d;refine ⟨E',?_⟩;rw [hlp,La G hno];refine ⟨B,usl,lb,S',ad,rfl,s',fun n hn=>?_,fun k hk=>?_⟩
   rotate_left
   ·have X:=(d k).2;rw [Y8 hk] at X;obtain ⟨q1,q2⟩:=O k hk;have hlen:(S' k).ws.length=(S k).ws.length:=by
     have:=Zl List.length X
     rwa [Y0,Y0] at this
    have U:∀ u,u∈(S' k).ws->∃ v,v∈(S k).ws/\u.2=qG (cw ms) v.2:=by
     intro u hu;have h1:u.2∈(S k).ws.map (fun u=>qG (cw ms) u.2):=by rw [<- X]; exact Zm hu
     obtain ⟨v,hv,he⟩:=Za.1 h1;exact ⟨v,hv,he.symm⟩
    refine ⟨ad,fun u hu=>?_,fun u hu=>?_⟩
    ·obtain ⟨v,hv,he⟩:=U u hu;rw [he];exact (NQ k1 k2 (q1 v hv).1 (q1 v hv).2.2).1
    ·obtain ⟨v,hv,he⟩:=U u hu;rw [he];exact (NQ k1 k2 (q1 v hv).1 (q1 v hv).2.2).2
   have J:=hS n hn;have hlo:=Nh G hms;have X:∀ (k:Nat) (l:List cE),k<2*us.length->(S k).ws.map (·.2)=l.map (w.eS n)->(S' k).ws.map (·.2)=l.map ((⟨w,us,vG w us⟩:LP).eS n):=by
    intro k l hk hl
    have:=(d k).2
    rw [Y8 hk] at this;rw [this,show (S k).ws.map (fun u=>qG (cw ms) u.2)=((S k).ws.map (·.2)).map (qG (cw ms)) by rw [Zv]; rfl,hl,Zv,hlo] <;> rfl
   exact ⟨X _ _ ad J.1,X _ _ ad J.2⟩
def WX (a1 a7:Xax) (p2 G:Xac) (u cc00:Nat):T :=
   (T.loop [(false,[.pointer 0]),dh,dh,aR] [.pointer p2,bj,bj,.int .i64 (0:Int)] <| fun (Z:Xac) (J:Xac) (O:Nat) (U:Nat) (V:Xac) (X:Nat) (Y:Nat) (j:Int) =>
   bH j u
   (T.need (fx j u) <|
   T.bG G <| fun (a21:Xax) =>
   T.ah (a21.add (aP j 4)) [.slice 71,.slice 71,.slice 100,.slice 9] <| fun (p22:Xac) (l23:Nat) (l24:Nat) (p25:Xac) (l26:Nat) (l27:Nat) (p28:Xac) (l29:Nat) (l30:Nat) (p31:Xac) (l32:Nat) (l33:Nat) =>
   Tz a1 a7 Z J O U V X Y j p22 l23 l24 p25 l26 l27 p28 l29 l30 p31 l32 l33)
   (UK a1 a7 J O U V X Y))
def NB (w:LW) (us:List bX) (u:bX):vG w (us++[u])=vG w us++u.bh.map fun e=>(w.word (us.length,e.1),w.lin us.length e.2):=by
 unfold vG;rw [nT,Ze,Zv,ZJ] <;> rfl
def Kl (us:List bX) (u:bX):(ek 0 (us++[u])).map jP=(ek 0 us).map jP++u.bh.map fun e=>(us.length,e.1):=by
 rw [nT,Ze,Zv,ZJ] <;> rfl
def G6 (us:List bX) (u:bX):lQ (us++[u])=lQ us+jT u.text:=by
 unfold lQ
 simp
theorem FR:∀ us:List bX,lQ us<=oM us
 | []=>by simp [lQ,oM]
 | u::us=>by
  have h1:=FR us;have h2:=zp u.text;unfold lQ oM at *;simp only [List.map_cons,List.sum_cons];omega
def GX (us:List bX) (n:Nat):lQ (us.take n)<=lQ us:=by
 have h:us=us.take n++us.drop n:=(ZL n us).symm
 conv=>rhs; rw [h]
 unfold lQ;rw [Ze,cp9];omega
def Mt (us:List bX) (n:Nat):(ek 0 (us.take n)).length<=(ek 0 us).length:=by
 have e:∀ (a b:List bX) (k:Nat),ek k (a++b)=ek k a++ek (k+a.length) b:=by
  intro a
  induction a with
  | nil=>intro b k; simp [ek]
  | cons x a j =>
   intro b k;rw [bn9,ek,ek,j,Zr,ZP,show k+1+a.length=k+(a.length+1) from ad]
 have h:=e (us.take n) (us.drop n) 0;rw [ZL] at h;rw [h,Y4];omega
def PF {J0:List Xab->Hp->Prop} {h0 h:Hp} {A B:Nat} {w:LW} {lb:cz} {us:List bX} {pp:Xac} {ll cc:Nat}
  (pw:fU h0) (tb0:AW h0) (hA:h0.size<=A) (hAB:A<B) (e0:Ext h0 h) (ba:bF h A 54 [.int .i64 0,.int .i64 0,.string ⟨#[]⟩]) (s:DY h B mj lb 0 w)
  (v:uH h0 pp ll us) (r:FW us) (sm:Gj us) (i0:WI w (bQ 0 us) ((ek 0 us).map jP))
  (X:jo us=match fK w 0 us with
   | some q=>.error ⟨23,q.1,q.2⟩
   | none=>match mT (vG w us) with
    | some i=>.error ⟨24,((ek 0 us).map fun q=>(q.1,q.2.1)).getD i (0,dH) |>.1,((ek 0 us).map fun q=>(q.1,q.2.1)).getD i (0,dH) |>.2⟩
    | none=>.ok ⟨w,us,vG w us⟩) :
  WX ⟨A,0,none⟩ ⟨B+3,0,none⟩ none pp ll cc [J0] (Md h0 us) h:=by
 unfold WX bH aP fx bj aR dh;have hll:=v.len;have hmany:=r.many;have hlwb:=r.JZ i0;have s0:oH h B w mj lb ((0:Nat):Int) 0 (2*0) (fun _=>Wq):=⟨s.box,s.maps,s.oT,SL.nil _ _ _ _,lf.nil _ _ _⟩
 refine aX (cs:=Oq) (fun y m' h'=>∃ (n:Nat) (usl el kl:cz) (S:Nat->kz),y.1=none/\y.2.1=(el.p,el.l,el.c)/\y.2.2.1=(kl.p,kl.l,kl.c)/\y.2.2.2.1=(n:Int)/\n<=us.length/\m'=us.length-n/\Ext h0 h'/\bF h' A 54 [.int .i64 0,.int .i64 0,.string ⟨#[]⟩]/\oH h' B w usl lb ((lQ (us.take n):Nat):Int) n (2*n) S /\
   Cu h' (B+4) el kl (vG w (us.take n)) ((ek 0 (us.take n)).map jP)/\fK w 0 us=fK w n (us.drop n)/\∀ j,(hj:j<n)->(hx:j<us.length)->(S (2*j)).ws.map (·.2)=us[j].text.map (w.eS j)/\(S (2*j+1)).ws.map (·.2)=us[j].data.map (w.eS j))
  (none,(none,0,0),(none,0,0),(0:Int),()) us.length rfl
  ⟨0,mj,mj,mj,fun _=>Wq,rfl,rfl,rfl,rfl,ad,ad,e0,ba,by simpa [lQ] using s0,⟨⟨[],⟨SL.nil _ _ _ _,aj,List.Pairwise.nil,aj⟩,rfl⟩,SL.nil _ _ _ _⟩,rfl,by intro j hj; omega⟩ ?_
 clear e0 ba s s0;rintro ⟨p13,⟨p14,l15,l16⟩,⟨p17,l18,l19⟩,n20,⟨⟩⟩ m' h1 ⟨n,usl,el,kl,S,hy1,hy2,hy3,hy4,hnl,rfl,e1,ba,s,Y,G,hS⟩;simp only [Prod.mk.injEq] at hy1 hy2 hy3 hy4;obtain ⟨rfl,rfl,rfl⟩:=hy2;obtain ⟨rfl,rfl,rfl⟩:=hy3;subst hy1 hy4;refine an ?_;refine aQ (fun q=>?_) (fun q=>?_)
 ·have U:n<us.length:=ad
  obtain ⟨a,ta,tb,tc,td,ha,hc,hu⟩:=v.cells n U;have J:=Y9 U;have Z:us.take (n+1)=us.take n++[us[n]]:=Y3 U;have htl:(us.take n).length=n:=by rw [Zp]; omega
  rw [Aj w us n U] at G;have hre:=r.bh J;have hrr:=r.right _ J;have O:=fun x hx=>sm.CI r J (x:=x) hx
  have hsu:=GX us n;have hsu2:=FR us;have hit:=sm.items;have hek:=Mt us n;have hek2:=r.eqs;generalize hux:us[n]=u at hc hu Z G hre hrr O;refine ay ⟨ad,ad⟩ (aw ha ?_);rw [show Int.toNat (n:Int)=n from ad];refine az ((ta.p,ta.l,ta.c),(tb.p,tb.l,tb.c),(tc.p,tc.l,tc.c),(td.p,td.l,td.c),()) (aT e1 aj _ _ hc) (an ?_);refine Pr rfl rfl pw tb0 hA hAB e1 ba s hlwb Y hu O hrr ad ad ad (by unfold vG; rw [Y0]; omega) (by rw [Y0]; omega) ad ad ?_ ?_
  ·intro h' q E hq;refine ⟨E,?_⟩;rw [hq] at G;rw [X,G]
  ·intro h' el' kl' usl' S' E ba' s' es' hb V h1 h2;rw [hb] at G;refine ⟨us.length-(n+1),ad,n+1,usl',el',kl',S',rfl,rfl,rfl,rfl,ad,rfl,E,ba',?_,?_,G,fun j hj hx=>?_⟩
   ·rw [Z,G6];exact s'
   ·rw [Z,NB,Kl,htl];exact es'
   ·by_cases hjn:j=n
    ·subst hjn;rw [hux];exact ⟨h1,h2⟩
    ·rw [V _ ad,V _ ad];exact hS j ad hx
 ·have hn:n=us.length:=ad
  subst hn;rw [ar9 (Zh _)] at G;rw [Zy (Zh _)] at s Y;have G:fK w 0 us=none:=G;rw [G] at X;exact PJ hA hAB e1 ba s Y r sm i0 G (fun n hn=>hS n hn hn) X
def IH {h:Hp} (pw:fU h) (tb0:AW h) {p:Xac} {l c:Nat} {us:List bX} (v:uH h p l us) (sm:Gj us):HC Tryz.prog 18 #[.slice p l c] h (Md h us):=by
 refine bd (args:=[.slice p l c]) mixed Tryz.func18 ax (zz p l c) ?_;unfold yd bf bk bH aP cH gS bK br bU bt aG bn bj bY aR cn dh;have hll:=v.len;have hmany:=v.many;refine bm ?_;intro h1 b1 e1 z1;refine av (fun q=>?_) (fun q=>?_)
 ·have q:l=0:=by
   have:=Y5 q
   omega
  refine ar b1 rfl aj ?_;intro h2 J k2 z2;have J:bF h2 h.size 54 [.int .i64 25,.int .i64 0,.string ⟨#[]⟩]:=J;refine af J ((25:Int),(0:Int),(⟨#[]⟩:Xaa),()) rfl ?_;refine ⟨bR e1 k2,?_⟩;unfold jo;rw [Y8 ad] <;> rfl
 have V:¬ us.length=0:=by
  have:=Zc q
  omega
 refine av (fun q=>?_) (fun q=>?_)
 ·have q:=Y5 q;refine ar b1 rfl aj ?_;intro h2 J k2 z2;have J:bF h2 h.size 54 [.int .i64 4,.int .i64 0,.string ⟨#[]⟩]:=J;refine af J ((4:Int),(0:Int),(⟨#[]⟩:Xaa),()) rfl ?_;refine ⟨bR e1 k2,?_⟩;unfold jo;rw [Y2 V,Y8 ad] <;> rfl
 have O:¬ 64<us.length:=by
  have:=Zc q
  omega
 have hlp1:∀ n,us.findIdx? (fun u=>decide (dL u≠0))=some n->jo us=.error ⟨31,n,dH⟩:=by
  intro n hn;unfold jo;rw [Y2 V,Y2 O,hn]
 refine aX (cs:=[(false,[.pointer 0]),(false,[.int .i64])]) (fun y m' h'=>∃ n:Nat,y.1=none/\y.2.1=(n:Int)/\n<=us.length/\m'=us.length-n/\Ext h h'/\bF h' h.size 54 [.int .i64 0,.int .i64 0,.string ⟨#[]⟩]/\∀ j,(X:j<n)->(hx:j<us.length)->dL us[j]=0) (none,(0:Int),()) us.length rfl
  ⟨0,rfl,rfl,ad,ad,e1,b1,by intro j X; omega⟩ ?_
 clear e1 b1;rintro ⟨p2,n3,⟨⟩⟩ m' h2 ⟨n,hy1,hy2,hnl,rfl,e2,J,Y⟩;simp only at hy1 hy2;subst hy1 hy2;refine an ?_;refine aQ (fun q=>?_) (fun q=>?_)
 ·have hlt:n<us.length:=ad
  obtain ⟨a,Z,tb,tc,td,ha,hc,hu⟩:=v.cells n hlt;refine ay ⟨ad,ad⟩ (aw ha ?_);rw [show Int.toNat (n:Int)=n from ad];refine az ((Z.p,Z.l,Z.c),(tb.p,tb.l,tb.c),(tc.p,tc.l,tc.c),(td.p,td.l,td.c),()) (aT e2 aj _ _ hc) (an ?_);refine bm ?_;intro h3 b3' e3 z3;refine ar b3' rfl aj ?_;intro h4 b4 k4 z4;have b4:bF h4 h2.size 47 [Z.v,tb.v,tc.v,td.v]:=b4;have e24:Ext h2 h4:=bR e3 k4;have e04:=e2.trans e24;refine af b4 ((Z.p,Z.l,Z.c),(tb.p,tb.l,tb.c),(tc.p,tc.l,tc.c),(td.p,td.l,td.c),()) rfl (an ?_);refine aJ (vK (tb0.ak e04 aj) (hu.ak e04)) ?_;rintro _ h5 ⟨rfl,e5⟩;refine ⟨(((dL us[n]:Nat):Int),()),rfl,an ?_⟩;have b5:=J.ak (e24.trans e5) aj;have e05:=e04.trans e5;refine av (fun q=>?_) (fun q=>?_)
  ·have hne:dL us[n]≠0:=by
    intro h0;rw [h0] at q;exact absurd q bZ
   refine ar b5 rfl aj ?_;intro h6 b6 k6 z6;have b6:bF h6 h.size 54 [.int .i64 31,.int .i64 (n:Int),.string ⟨#[]⟩]:=b6;refine af b6 ((31:Int),(n:Int),(⟨#[]⟩:Xaa),()) rfl ?_;refine ⟨bR e05 k6,?_⟩;rw [hlp1 n (by
    rw [Zs];exact ⟨hlt,Y6 hne,fun j X=>by rw [Y j X ad]; decide⟩)]
   rfl
  ·have hz:dL us[n]=0:=by
    have hb:(((dL us[n]:Nat):Int) != 0)=false:=q
    by_cases h0:dL us[n]=0
    ·exact h0
    ·have:(((dL us[n]:Nat):Int) != 0)=true:=by
      rw [bne_iff_ne];omega
     rw [this] at hb;cases hb
   have hw:=iA n;rw [hw];refine aH (cs:=[(false,[.pointer 0]),(false,[.int .i64])]) (none,((n+1:Nat):Int),()) (us.length-(n+1)) rfl ad rfl ⟨n+1,rfl,rfl,ad,rfl,e05,b5,fun j X hx=>?_⟩
   by_cases hjn:j=n
   ·subst hjn; exact hz
   ·exact Y j ad hx
 ·have hn:n=us.length:=ad
  subst hn;have r:FW us:=⟨fun u hu=>by
   obtain ⟨j,X,rfl⟩:=Zu hu;exact Y j X X,ad⟩
  have hfi:us.findIdx? (fun u=>decide (dL u≠0))=none:=by
   rw [ZB];intro u hu;rw [r.right u hu];decide
  have q2:=J.lt;refine LY (kv:=Pd) (en:=eI) ?_;intro h3 m3 e3 z3;refine LY (kv:=Pd) (en:=eI) ?_;intro h4 m4 e4 z4;refine yg (en:=eI) ?_;intro h5 m5 e5 z5;refine bm ?_;intro h6 b6 e6 z6;have e26:=((e3.trans e4).trans e5).trans e6;have z4':h4.size=h2.size+2:=ad
  have z5':h5.size=h2.size+3:=ad
  rw [z3] at m4;rw [z4'] at m5;rw [z5',z3,z4'] at b6;rw [z5'];have p6:DY h6 h2.size mj mj 0 R5:=⟨b6,⟨((m3.ak e4 aj).ak e5 aj).ak e6 aj,(m4.ak e5 aj).ak e6 aj,m5.ak e6 aj⟩,SL.nil _ _ _ _⟩
  have v2:=v.ak e2;have hit:=sm.items;refine aJ (Gy (c:=c) rfl e26 p6 v2 (by show 0+oM us<=_; omega) ad rfl) ?_;rintro _ h7 ⟨rfl,lb7,p7,e7⟩;refine ⟨(),rfl,an ?_⟩;refine aJ (Jr (c:=c) rfl e7 p7 v2 ad) ?_;rintro _ h8 ⟨e8,hq⟩;have b28:=J.ak e8 aj;have z8:=e8.size;have w0:=Sa r.right;cases hM:kH 0 us (mW 0 us R5) with
  | error q =>
   rw [hM] at hq;subst hq;refine ⟨((22:Int),(q.1:Int),q.2,true,()),rfl,an ?_⟩;refine bm ?_;intro h9 b9' e9 z9;refine ar b9' rfl aj ?_;intro h10 U k10 z10;have U:bF h10 h8.size 54 [.int .i64 22,.int .i64 (q.1:Int),.string q.2]:=U;have G:Ext h8 h10:=bR e9 k10;refine bC rfl ?_;refine af U ((22:Int),(q.1:Int),q.2,()) rfl ?_;refine ⟨⟨U.cells _ rfl,trivial⟩,?_⟩;refine ar (b28.ak G aj) rfl aj ?_;intro h11 b11 k11 z11;have b11:bF h11 h.size 54 [.int .i64 22,.int .i64 (q.1:Int),.string q.2]:=b11;refine af b11 ((22:Int),(q.1:Int),q.2,()) rfl ?_;refine ⟨bR ((e2.trans e8).trans G) k11,?_⟩;unfold jo;rw [Y2 V,Y2 O,hfi];simp only [hM] <;> rfl
  | ok w =>
   rw [hM] at hq;obtain ⟨rfl,p8⟩:=hq;refine ⟨((0:Int),(0:Int),(⟨#[]⟩:Xaa),false,()),rfl,an ?_⟩;refine bm ?_;intro h9 b9' e9 z9;refine ar b9' rfl aj ?_;intro h10 U k10 z10;have G:Ext h8 h10:=bR e9 k10;refine bP rfl ?_;have e010:=(e2.trans e8).trans G;refine PF (cc:=c) pw tb0 (Zh _) q2 e010 (b28.ak G aj) (p8.ak G) v r sm (w0.meet hM) ?_;unfold jo;rw [Y2 V,Y2 O,hfi];simp only [hM];cases fK w 0 us with
   | some q=>rfl
   | none =>
    cases mT (vG w us) with
    | some i=>rfl
    | none=>rfl
structure G0 (h:Hp) (b:Nat) (s:cz) (ws:List (cz × cE)):Prop where
 out:SL h b 71 10 s.p s.l s.c (ws.map tp)
 fw:∀ u,u∈ws->SL h b 117 2 u.1.p u.1.l u.1.c (u.2.e.ai.map df)
def G0.vd {h:Hp} {b:Nat} {s:cz} {ws:List (cz × cE)} (o:G0 h b s ws):UR h s.p s.l ws :=
 ⟨by have:=o.out.1; rwa [Y0] at this,fun i hi=>by
  obtain ⟨a,j,hc⟩:=o.out.cells (i:=i) (by simpa using hi);rw [Zb] at hc;exact ⟨a,j,hc⟩⟩
def XT (G:Xac) (u l17:Nat):T :=
   T.loop [aR] [.int .i64 (0:Int)] <| fun (j:Int) =>
   bH j u
    (T.need (fx j u) <|
    T.bG G <| fun (J:Xax) =>
    T.ah ((J.add (aP j 10)).add 7) [.slice 117] <| fun (O:Xac) (U:Nat) (V:Nat) =>
    bK 42 [.slice O U V] false [(false,[.slice 117])] <| fun (X:Xac) (Y:Nat) (Z:Nat) =>
    T.need (fx j u) <|
    T.bG G <| fun (a26:Xax) =>
    T.aC ((a26.add (aP j 10)).add 7) [.slice X Y Z] <|
    T.again 0 [.int .i64 (bt (j+(1:Int)))])
    (T.ret (.slice G u l17))
def wK (h:Hp) (us:List cE) (v:Xab) (h':Hp):Prop:=Ext h h'/\∃ s ws,v=cz.v s/\G0 h' h.size s ws/\ws.map (·.2)=us
def Te {h0 h:Hp} {b0:Nat} {s:cz} {ws:List (cz × cE)} (e0:Ext h0 h) (o:SL h h0.size 71 10 s.p s.l s.c (ws.map tp)) (J:∀ u,u∈ws->SL h0 b0 117 2 u.1.p u.1.l u.1.c (u.2.e.ai.map df)) (hl:ws.length<=2^30) (ht:∀ u,u∈ws->u.2.e.ai.length<=2^40) :
  XT s.p s.l s.c [] (wK h0 (ws.map (·.2))) h:=by
 unfold XT bH aP bK bt fx aR;have hsl:s.l=ws.length:=by have:=o.1; rwa [Y0] at this
 have z0:=e0.size
 refine aX (cs:=[(false,[.int .i64])]) (fun y m' h'=>∃ (i:Nat) (vs:List (cz × cE)),y.1=(i:Int)/\i<=ws.length/\m'=ws.length-i/\Ext h0 h'/\SL h' h0.size 71 10 s.p s.l s.c (vs.map tp)/\vs.length=ws.length /\
   ∀ m,(hm:m<ws.length)->(X:m<vs.length)->vs[m].2=ws[m].2/\if m<i then SL h' h0.size 117 2 vs[m].1.p vs[m].1.l vs[m].1.c (vs[m].2.e.ai.map df) else vs[m]=ws[m]) ((0:Int),()) ws.length rfl
  ⟨0,ws,rfl,ad,ad,e0,o,rfl,fun m hm X=>⟨rfl,by rw [Y2 ad]⟩⟩ ?_
 clear e0 o z0;rintro ⟨n18,⟨⟩⟩ m' h1 ⟨i,vs,hi,hil,rfl,e1,o,Y,ef⟩;simp only at hi;subst hi;refine an ?_;have z1:=e1.size;refine aQ (fun q=>?_) (fun q=>?_)
 ·have V:i<ws.length:=ad
  have G:i<vs.length:=ad
  have hi:=(ef i V G).2;rw [Y2 ad] at hi;obtain ⟨a,ha,hc⟩:=o.cells (i:=i) (by simpa using G);rw [Zb,hi] at hc;have J:=J ws[i] (Y9 V);have ht:=ht ws[i] (Y9 V);generalize hu:ws[i]=u at J hc ht;refine ay ⟨ad,ad⟩ (aw ha ?_);rw [show Int.toNat (i:Int)=i from ad];refine az ((u.1.p,u.1.l,u.1.c),()) (eM 1 [_,_,_] 0 (iY _ 7 0 (gP 7 _ 0 hc))) (an ?_);refine aJ (Ga (c:=u.1.c) (wz (J.ak e1 aj)) ht) ?_;rintro _ h2 ⟨⟨p',l',c',rfl,s2⟩,e2⟩;refine ⟨((p',l',c'),()),rfl,an ?_⟩;refine ay ⟨ad,ad⟩ (aw ha ?_);have o2:=o.ak e2 aj;refine SL.part (P:=Tryz.prog) o2 (i:=i) (by rw [Y0]; exact G) (o:=7) aj (by simp [cO]) ha ?_;intro h3 o3 k3 z3;have Z:(vs.map tp).set i (lz ((vs.map tp)[i]'(by rw [Y0]; exact G)) 7 [.slice p' l' c'])=(vs.set i (⟨p',l',c'⟩,u.2)).map tp:=by
   rw [ca9,Zb,hi,hu] <;> rfl
  rw [Z] at o3;have hw:=iA i;rw [hw];refine aH (cs:=[(false,[.int .i64])]) (((i+1:Nat):Int),()) (ws.length-(i+1)) rfl ad rfl ?_;refine ⟨i+1,_,rfl,ad,rfl,Ch.trans (e1.trans e2) k3 (fun j hj hl=>by have:=(o2.cr hj).1; omega),o3,by rw [Z5]; exact Y,fun m hm X=>?_⟩
  by_cases hmi:m=i
  ·subst hmi;rw [Y8 ad,List.getElem_set_self,hu];exact ⟨rfl,(s2.bM k3 (fun j hj hm=>uV o2 s2 bZ j hm hj)).mono z1⟩
  ·have O:m<vs.length:=ad
   have:=ef m hm O
   rw [List.getElem_set_ne (Ne.symm hmi)];refine ⟨this.1,?_⟩;have this:=this.2
   by_cases U:m<i
   ·rw [Y8 U] at this;rw [Y8 ad]
    have:=this.ak e2 aj
    exact this.bM k3 (fun j hj hm=>uV o2 this bZ j hm hj)
   ·rw [Y2 U] at this;rw [Y2 ad];exact this
 ·have hi:i=ws.length:=ad
  subst hi;refine ⟨e1,s,vs,rfl,⟨o,fun u hu=>?_⟩,?_⟩
  ·obtain ⟨m,hm,rfl⟩:=Zu hu
   have:=(ef m ad hm).2
   rwa [Y8 ad] at this
  ·refine cm9 (by rw [Y0,Y0]; exact Y) fun m hm1 O=>?_
   rw [Y0] at hm1 O;rw [Zb,Zb];exact (ef m O hm1).1
section
variable {h:Hp} {B N M:Nat} {w:LW} {usl lb:cz} {sp:Int} {S:Nat->kz}
def LR (s:oH h B w usl lb sp N M S):we Tryz.prog 21 [ptr (B+3)] h (.int .i64 (N:Int)):=by
 refine eC mixed Tryz.func21 ax (nk (some ⟨B+3,0,none⟩)) ?_;unfold jg;refine aw rfl ?_;refine af s.box ((usl.p,usl.l,usl.c),()) rfl ?_;have j:usl.l=N:=by have:=s.un.1; rwa [jC] at this
 exact ⟨by rw [<- j],rfl⟩
def tC (S:Nat->kz) (N:Nat) (n k:Int):List cE:=if 0<=n/\n<N/\(k=0\/k=1) then (S (2*n.toNat+k.toNat)).ws.map (·.2) else []
def ph (h:Hp):wK h [] (.slice none 0 0) h:=⟨Ch.refl _ _,mj,[],rfl,⟨SL.nil _ _ _ _,aj⟩,rfl⟩
def LS (s:oH h B w usl lb sp N M S) (hM:2*N<=M) (hN:N<=2^30) (hs:∀ k,k<2*N->(S k).ws.length<=2^30/\∀ u,u∈(S k).ws->u.2.e.ai.length<=2^40) (n k:Int) (hn:-9223372036854775808<=n/\n<=9223372036854775807) :
  HC Tryz.prog 22 #[ptr (B+3),.int .i64 n,.int .i64 k] h (wK h (tC S N n k)):=by
 refine bd (args:=[ptr (B+3),.int .i64 n,.int .i64 k]) mixed Tryz.func22 ax (mU (some ⟨B+3,0,none⟩) n k) ?_;unfold ji bf bk bH aP bK bj aR;have hul:usl.l=N:=by have:=s.un.1; rwa [jC] at this
 have G:¬ (0<=n/\n<N/\(k=0\/k=1))->tC S N n k=[]:=fun h=>by unfold tC; rw [Y2 h]
 refine av (fun q=>?_) (fun q=>?_)
 ·have q:=Y5 q;rw [G ad];exact ph h
 have q1:=Zc q;refine aw rfl ?_;refine af s.box ((usl.p,usl.l,usl.c),()) rfl (an ?_);refine av (fun q=>?_) (fun q=>?_)
 ·have q:=Y5 q;rw [G ad];exact ph h
 have q2:=Zc q;refine av (fun q=>?_) (fun q=>?_)
 ·have q:=Y5 q;rw [G ad];exact ph h
 have q3:=Zc q;refine av (fun q=>?_) (fun q=>?_)
 ·have q:=Y5 q;rw [G ad];exact ph h
 have q4:=Zc q;have V:n.toNat<N:=ad
 obtain ⟨a,ha,hc⟩:=s.un.cells (i:=n.toNat) (by rw [jC]; exact V);rw [Cn] at hc;generalize hn':n.toNat=m at hc V;have O:∀ j,j<2->∃ J:cz,J=(S (2*m+j)).s/\UR h J.p J.l (S (2*m+j)).ws:=by
  intro j hj;have hs:=s.w9.sec (2*m+j) ad;exact ⟨_,rfl,G0.vd (b:=B+4) ⟨hs.out,hs.fw⟩⟩
 have hit:k=0\/k=1->tC S N n k=(S (2*m+k.toNat)).ws.map (·.2):=fun hk=>by
  unfold tC;rw [Y8 ⟨ad,ad,hk⟩,hn']
 refine aw rfl ?_;refine af s.box ((usl.p,usl.l,usl.c),()) rfl (an ?_);refine ay ⟨ad,ad⟩ (aw ha ?_);obtain ⟨J,X,va⟩:=O 0 ad;obtain ⟨Y,Z,vb⟩:=O 1 ad;have hc:aI h (a.add (m*4)) 0 [J.v,Y.v,mj.v,mj.v]:=by rw [X,Z]; exact hc
 refine az ((J.p,J.l,J.c),()) (eM 1 _ 0 hc) (an ?_);have fin:∀ (j:Nat) (t:cz),j<2->t=(S (2*m+j)).s->UR h t.p t.l (S (2*m+j)).ws->(T.call Tryz.prog 41 [.slice t.p t.l t.c] false [(false,[.slice 71])] fun p l c=>XT p l c) [] (wK h ((S (2*m+j)).ws.map (·.2))) h:=by
  intro j t hj ht vt;have U:=hs (2*m+j) ad;have se:=s.w9.sec (2*m+j) ad;refine aJ (Cq (c:=t.c) vt U.1) ?_;rintro _ h1 ⟨⟨p',c',rfl,s1⟩,e1⟩;refine ⟨((p',t.l,c'),()),rfl,an ?_⟩;exact Te (s:=⟨p',t.l,c'⟩) e1 s1 se.fw U.1 U.2
 refine av (fun q=>?_) (fun q=>?_)
 ·have hk:k=1:=by simpa using q
  rw [hit (.inr hk),hk];refine aw rfl ?_;refine af s.box ((usl.p,usl.l,usl.c),()) rfl (an ?_);refine ay ⟨ad,ad⟩ (aw ha ?_);refine az ((Y.p,Y.l,Y.c),()) (eM 1 [_,_,_] 0 (iY _ 1 0 (gP 1 _ 0 hc))) (an ?_);exact fin 1 Y ad Z vb
 ·have hk:k=0:=by
   have:¬ k=1:=by
    intro h;rw [h] at q;exact absurd q bZ
   omega
  rw [hit (.inl hk),hk];exact fin 0 J ad X va
def TP {h:Hp} {b:Nat} {e:TypeId} {sz:Nat} {p:Xac} {l c:Nat} {xs:List (List Xab)} (s:SL h b e sz p l c xs):(p=none/\xs=[])\/∃ a,p=some a/\aI h a 0 xs.flatten:=by
 cases p with
 | none=>exact .inl ⟨rfl,s.2.2.2⟩
 | some a =>
  refine .inr ⟨a,rfl,?_⟩
  have:=fR (h:=h) (a:=a) (sz:=sz) xs 0 s.2.1 (fun i hi=>by
   obtain ⟨a',j,hc⟩:=s.cells hi;cases j;rw [ZJ];exact hc)
  rwa [ck9] at this
def Hs (j:List Lb):(j.map AB).flatten.all cO=true:=by
 rw [Zx];intro v hv;obtain ⟨x,hx,hv⟩:=by9.1 hv;obtain ⟨t,_,rfl⟩:=Za.1 hx;simp only [AB,List.mem_cons,List.not_mem_nil,or_false] at hv;rcases hv with rfl | rfl | rfl | rfl <;> rfl
def JE (j:List Lb):∀ y,y∈j.map AB->y.length=4:=by
 intro y hy;obtain ⟨u,_,rfl⟩:=Za.1 hy;rfl
def J8 {h:Hp} {b:Nat} {p:Xac} {l c:Nat} {j:List Lb} (s:SL h b 112 4 p l c (j.map AB)) (hl:j.length<=2^30) :
  HC Tryz.prog 68 #[.slice p l c] h fun w h'=>(∃ p' c',w=.slice p' l c'/\SL h' h.size 112 4 p' l c' (j.map AB))/\Ext h h':=by
 refine bd (args:=[.slice p l c]) mixed Tryz.func68 ax (fv p l c) ?_;unfold dB br bj;have u:l=j.length:=by have:=s.1; rwa [Y0] at this
 cases p with
 | none =>
  refine bC rfl ?_;have h2:j=[]:=by simpa using s.2.2.2
  subst h2;subst u;exact ⟨⟨none,0,rfl,SL.nil _ _ _ _⟩,Ch.refl _ _⟩
 | some a =>
  refine bP rfl ?_;refine lU (e:=112) (z:=.agg #[.int .i64 0,.int .i64 0,.int .i64 0,.string ⟨#[]⟩]) (sz:=4) (by':=40) Sd Vw rfl (TP s) (by simpa using u) (JE j) (Hs j) ad ad ?_;intro p' c' h' s' e';exact ⟨⟨p',c',rfl,s'⟩,e'⟩
def sA (s:oH h B w usl lb sp N M S) (hl:w.lb.length<=2^30):HC Tryz.prog 39 #[ptr (B+3)] h fun v h'=>Ext h h'/\∃ p l c,v=.slice p l c/\SL h' h.size 112 4 p l c (w.lb.map AB):=by
 refine bd (args:=[ptr (B+3)]) mixed Tryz.func39 ax (mi (some ⟨B+3,0,none⟩)) ?_;unfold iG bK;refine aw rfl ?_;rw [aE];refine af s.box ((lb.p,lb.l,lb.c),()) rfl (an ?_);refine aJ (J8 (c:=lb.c) s.oT hl) ?_;rintro _ h1 ⟨⟨p',c',rfl,s1⟩,e1⟩;exact ⟨((p',lb.l,c'),()),rfl,e1,p',lb.l,c',rfl,s1⟩
end
def S6:Xab:=.tuple #[.pointer none,.pointer none,.bool false,.bool true]
def Ow (us:List bX) (P:LP) (F:bX->List cE) (tw:List (cz × List (cz × cE))):Prop :=
 tw.length=us.length/\∀ n u x,us[n]?=some u->tw[n]?=some x->x.2.map (·.2)=(F u).map (P.eS n)
structure WO (h0 h':Hp) (us:List bX) (su:cz) (P:LP) (B:Nat) (usl lb:cz) (S:Nat->kz) (g b':Nat) (lb2 st sd:cz) (tw dw:List (cz × List (cz × cE))):Prop where
 le:h0.size<=B
 pg:oH h' B P.w usl lb ((lQ us:Nat):Int) us.length (2*us.length) S
 QO:∀ n,(hn:n<us.length)->(S (2*n)).ws.map (·.2)=us[n].text.map (P.eS n)/\(S (2*n+1)).ws.map (·.2)=us[n].data.map (P.eS n)
 sz:∀ k,k<2*us.length->MH (S k)
 pr:DU h' g su lb2 st sd (bQ 0 us)
 tx:uR h' b' st tw
 dx:uR h' b' sd dw
 ti:Ow us P (·.text) tw
 di:Ow us P (·.data) dw
def Yh (h0:Hp) (us:List bX) (su:cz) (v:Xab) (h':Hp):Prop:=Ext h0 h' /\
 if mS us=true then v=S6 else match jo us with
 | .error _=>v=S6
 | .ok P=>∃ B usl lb S g b' lb2 st sd tw dw,v=.tuple #[ptr (B+3),ptr g,.bool true,.bool true]/\WO h0 h' us su P B usl lb S g b' lb2 st sd tw dw
def NR {us:List bX} {P:LP} (J:ON us (.ok P)) (sm:Gj us) {ms:List cK} (hm:ms.map fk=(dR us (bQ 0 us) us).map fun y=>(y.1,eR (eU (dR us (bQ 0 us) us)) y.1)) {F:bX->List cE} (O:∀ u x,x∈F u->x.e∈cv u)
  {tw:List (cz × List (cz × cE))} (t:yi us (bQ 0 us) ms F us.length tw):Ow us P F tw:=by
 obtain ⟨z1,Y,Z,U,V,b1,X,f1⟩:=J;refine ⟨t.1,fun n u x hu hx=>?_⟩;rw [t.2 n u x hu hx];refine ZM fun y hy=>?_
 have hn:=(Zj.1 hu).1;have j:=O u y hy;have G:P.w.bad n y.e=none:=by
  have h1:=jI us 0 b1 n hn;rw [ZJ,(Zj.1 hu).2,sq,ZN] at h1;exact h1 _ j
 have e1:=V.put b1 X hn G (sm.num u (ZR hu) _ j).1 hm;unfold LP.eS wE;rw [U,e1]
def Vf {h:Hp} (pw:fU h) (tb0:AW h) {su:cz} {us:List bX} (v:uH h su.p su.l us) (sm:Gj us):HC Tryz.prog 12 #[.slice su.p su.l su.c] h (Yh h us su):=by
 refine bd (args:=[.slice su.p su.l su.c]) mixed Tryz.func12 ax (rF su.p su.l su.c) ?_;unfold mC aY bK bn bY;refine aK (Ln (c:=su.c) v) ?_;refine av (fun q=>?_) (fun q=>?_)
 ·refine ⟨Ch.refl _ _,?_⟩;rw [Y8 q] <;> rfl
 ·have hq:∀ (w:Xab) (h':Hp),(Ext h h'/\match jo us with
    | .error _=>w=S6
    | .ok P=>∃ B usl lb S g b' lb2 st sd tw dw,w=.tuple #[ptr (B+3),ptr g,.bool true,.bool true]/\WO h h' us su P B usl lb S g b' lb2 st sd tw dw)->Yh h us su w h':=by
   intro w h' hh;refine ⟨hh.1,?_⟩;rw [Y2 (by rw [q]; simp)];exact hh.2
  have ag:=py sm.num;refine aJ (IH (c:=su.c) pw tb0 v sm) ?_;rintro _ h1 ⟨e1,hl⟩;have v1:=v.ak e1;cases hlp:jo us with
  | error f =>
   rw [hlp] at hl ag hq;have hl:_=H9 f.nQ f.unit f.name:=hl;subst hl;obtain ⟨hne,X⟩:=ag;refine ⟨(none,(f.nQ:Int),(f.unit:Int),f.name,()),rfl,an ?_⟩;refine bm ?_;intro h2 b2 e2 z2;refine ar b2 rfl aj ?_;intro h3 Y k3 z3;have Y:bF h3 h1.size 54 [.int .i64 (f.nQ:Int),.int .i64 (f.unit:Int),.string f.name]:=Y;have U:Ext h1 h3:=bR e2 k3;have hC:(eG us).nQ=0->MU us (QM us):=by
    intro Z;rcases X with X | ⟨_,⟨h64,w,A,hb⟩,_⟩
    ·rw [X] at Z;exact absurd Z hne
    ·exact Fq sm h64 A hb
   refine aJ (Bo (v1.ak U) hC) ?_;rintro w4 h4 ⟨e4,V⟩;have hw:w4=Value.tuple #[.pointer none,O5 f]:=by
    unfold Co at V;rcases X with X | ⟨Z,_,i,x,hx,hi,rfl⟩
    ·rw [Y8 (by rw [X]; exact hne),X] at V;exact V
    ·rw [Y2 ad] at V;rcases V with ⟨i',x',j,hi',hw⟩ | ⟨_,_,_,_,_,_,_,_,j,_⟩
     ·rw [hx] at j;cases j;rw [hi] at hi';cases hi';exact hw
     ·rw [hx] at j;cases j
   subst hw;refine ⟨(none,(f.nQ:Int),(f.unit:Int),f.name,()),rfl,an ?_⟩;refine bm ?_;intro h5 b5 e5 z5;refine ar b5 rfl aj ?_;intro h6 O k6 z6;have O:bF h6 h4.size 75 [.int .i64 (f.nQ:Int),.int .i64 (f.unit:Int),.string f.name]:=O;have G:Ext h4 h6:=bR e5 k6;have J:=Y.ak (e4.trans G) aj;have e06:=((e1.trans U).trans e4).trans G;refine af J ((f.nQ:Int),()) rfl (an ?_);refine af O ((f.nQ:Int),()) rfl (an ?_);refine bC aj ?_;rw [aE,aE];refine af J ((f.unit:Int),()) rfl (an ?_);refine af O ((f.unit:Int),()) rfl (an ?_);refine bC aj ?_;rw [aE,aE];refine af J (f.name,()) rfl (an ?_);refine af O (f.name,()) rfl (an ?_);refine bC aj ?_;refine af O ((f.nQ:Int),()) rfl (an ?_);have Z:((f.nQ:Int)==(0:Int))=false:=by
    have:¬ (f.nQ:Int)=0:=ad
    simpa using this
   rw [Z];refine bC rfl ?_;exact hq _ _ ⟨e06,rfl⟩
  | ok P =>
   rw [hlp] at hl ag hq;obtain ⟨B,usl,lb,S,hB,hv,pg,QO,Z⟩:=hl;subst hv;have ag':=ag;obtain ⟨z1,h64,u1,d1,A1,b1,c1,f1⟩:=ag;refine ⟨(some ⟨B+3,0,none⟩,(0:Int),(0:Int),(⟨#[]⟩:Xaa),()),rfl,an ?_⟩;refine bm ?_;intro h2 b2 e2 z2;refine ar b2 rfl aj ?_;intro h3 Y k3 z3;have Y:bF h3 h1.size 54 [.int .i64 0,.int .i64 0,.string ⟨#[]⟩]:=Y;have U:Ext h1 h3:=bR e2 k3;refine aJ (Bo (v1.ak U) (fun _=>Fq sm h64 A1 b1)) ?_;rintro _ h4 ⟨e4,V⟩;unfold Co at V;rw [Y2 ad] at V;rcases V with ⟨i',x',j,_⟩ | ⟨g,b',lb2,st,sd,tw,dw,ms,_,hw,hms,pr,tx,dx,ti,di⟩
   ·rw [f1] at j;cases j
   subst hw;refine ⟨(some ⟨g,0,none⟩,(0:Int),(0:Int),(⟨#[]⟩:Xaa),()),rfl,an ?_⟩;refine bm ?_;intro h5 b5 e5 z5;refine ar b5 rfl aj ?_;intro h6 O k6 z6;have O:bF h6 h4.size 75 [.int .i64 0,.int .i64 0,.string ⟨#[]⟩]:=O;have G:Ext h4 h6:=bR e5 k6;have J:=Y.ak (e4.trans G) aj;have e16:=(U.trans e4).trans G;refine af J ((0:Int),()) rfl (an ?_);refine af O ((0:Int),()) rfl (an ?_);refine bC rfl ?_;rw [aE,aE];refine af J ((0:Int),()) rfl (an ?_);refine af O ((0:Int),()) rfl (an ?_);refine bC rfl ?_;rw [aE,aE];refine af J ((⟨#[]⟩:Xaa),()) rfl (an ?_);refine af O ((⟨#[]⟩:Xaa),()) rfl (an ?_);refine bC aj ?_;refine af O ((0:Int),()) rfl (an ?_);refine bC rfl ?_;refine hq _ _ ⟨e1.trans e16,B,usl,lb,S,g,b',lb2,st,sd,tw,dw,rfl,hB,pg.ext e16,QO,Z,pr.ak G,tx.ext G,dx.ext G,?_,?_⟩
   ·exact NR ag' sm hms (fun u x hx=>Zq _ (Zq _ (Zm hx))) ti
   ·exact NR ag' sm hms (fun u x hx=>Zq _ (ZE _ (Zm hx))) di
end Go.Sx.Lk
namespace Go.Sx.Pn
open Go.Proofs Go.Sx.Ob Go.Sx.Lk
variable {ga:Nat} {pv:Xab}
structure O9 (h:Hp) (p:Xac) (l:Nat) (rs:List Int):Prop where
 len:l=rs.length
 many:rs.length<=2^60
 cells:∀ i,(hi:i<rs.length)->∃ a,p=some a/\aI h (a.add (i*1)) 0 [.int .i64 rs[i]]
def O9.ak {h h':Hp} {p:Xac} {l:Nat} {rs:List Int} (v:O9 h p l rs) (e:Ext h h'):O9 h' p l rs :=
 ⟨v.len,v.many,fun i hi=>by
  obtain ⟨a,j,hc⟩:=v.cells i hi;exact ⟨a,j,aT e aj _ _ hc⟩⟩
def zo {h:Hp} {p:Xac} {l c:Nat} {rs:List Int} (v:O9 h p l rs) (n:Int):HC Tryz.prog 43 #[.slice p l c,.int .i64 n] h fun w h'=>h'=h/\∃ m:Int,w=.int .i64 m/\(0<=m↔n∈rs):=by
 refine bd (args:=[.slice p l c,.int .i64 n]) mixed Tryz.func43 ax (kx p l c n) ?_;unfold gp bf bk bH aP aR;have hl:=v.len;have hm:=v.many;refine aX (cs:=[(false,[.int .i64]),(false,[.int .i64])]) (fun y k h'=>∃ i:Nat,y.2.1=(i:Int)/\k=rs.length-i/\i<=rs.length/\h'=h/\n∉rs.take i) ((0:Int),(0:Int),()) rs.length rfl ⟨0,rfl,rfl,ad,rfl,aj⟩ ?_;rintro ⟨u,O,⟨⟩⟩ k h1 ⟨i,hi,rfl,G,rfl,hn⟩;simp only at hi;subst hi;refine an ?_;refine aQ (fun q=>?_) (fun q=>?_)
 ·have j:i<rs.length:=ad
  obtain ⟨a,J,hc⟩:=v.cells i j;refine ay ⟨ad,ad⟩ (aw J ?_);rw [show Int.toNat (i:Int)=i from ad];refine az (rs[i],()) hc (an ?_);refine av (fun r=>?_) (fun r=>?_)
  ·refine ⟨rfl,(i:Int),rfl,fun _=>?_,fun _=>ad⟩;rw [eq_of_beq r];exact Y9 j
  ·have hw:=iA i;refine aH (cs:=[(false,[.int .i64]),(false,[.int .i64])]) (u,((i+1:Nat):Int),()) (rs.length-(i+1)) rfl ad (Zl (fun z=>[Value.int .i64 u,Value.int .i64 z]) hw) ⟨i+1,rfl,rfl,ad,rfl,fun hm=>?_⟩;rw [Y3 j] at hm;rcases Zk.1 hm with hm | hm
   ·exact hn hm
   ·rw [Zi.1 hm] at r;simp at r
 ·refine ⟨rfl,(-1:Int),rfl,fun h=>ad,fun hm=>absurd hm ?_⟩
  rwa [Zy ad] at hn
def Eg {h:Hp} {p:Xac} {l c:Nat} {rs:List Int} (v:O9 h p l rs) (n:Int):we Tryz.prog 23 [.slice p l c,.int .i64 n] h (.bool (decide (n∈rs))):=by
 refine eC mixed Tryz.func23 ax (jb p l c n) ?_;unfold fD cH;refine aJ (zo v n) ?_;rintro _ h1 ⟨rfl,m,rfl,hm⟩;refine ⟨(m,()),rfl,an ?_⟩;refine ⟨Zl Value.bool ?_,rfl⟩
 by_cases j:n∈rs
 ·rw [Y6 j,Y6 (hm.2 j)]
 ·rw [Y7 j,Y7 (fun u=>j (hm.1 u))]
def wL (n:Nat):Xaa:=⟨#[76]⟩++kQ n
def Ko:List Lb->Nat->List (Xaa × Xab)->List (Xaa × Xab)
 | [],_,D=>D
 | y::j,n,D=>Ko j (n+1) (jn D (wL n) (.bool ((y.s:Int)==0)))
def Bc (D:List (Xaa × Xab)):Prop:=∀ p,p∈D->∃ b,p.2=.bool b
def gB (D:List (Xaa × Xab)) (s:Xaa):Bool:=match look D s with
 | some (.bool b)=>b
 | _=>false
def Rf {D:List (Xaa × Xab)} (a:Bc D) (s:Xaa):(look D s).getD (.bool false)=.bool (gB D s):=by
 unfold gB;cases hl:look D s with
 | none=>rfl
 | some v =>
  unfold look at hl;obtain ⟨p,j,rfl⟩:=bk9.1 hl;obtain ⟨b,hb⟩:=a p (List.mem_of_find?_eq_some j);rw [hb]; rfl
def LK {D:List (Xaa × Xab)} (a:Bc D) (s:Xaa) (b:Bool):Bc (jn D s (.bool b)):=by
 intro p j;unfold jn at j;split at j
 ·obtain ⟨q,u,rfl⟩:=Za.1 j;split
  ·exact ⟨b,rfl⟩
  ·exact a q u
 ·rcases Zk.1 j with j | j
  ·exact a p j
  ·rw [Zi.1 j]; exact ⟨b,rfl⟩
theorem F9:∀ (j:List Lb) (n:Nat) (D:List (Xaa × Xab)),Bc D->Bc (Ko j n D)
 | [],_,_,a=>a
 | y::j,n,D,a=>F9 j (n+1) _ (LK a _ _)
theorem F8:∀ (j:List Lb) (y:Lb) (n:Nat) (D:List (Xaa × Xab)),Ko (j++[y]) n D=jn (Ko j n D) (wL (n+j.length)) (.bool ((y.s:Int)==0))
 | [],y,n,D=>rfl
 | z::j,y,n,D=>by
  rw [bn9,Ko,F8 j y (n+1),Ko,ZP,Nat.add_assoc,Nat.add_comm 1]
def Sg:Tryz.prog.underlying 58=some (.map 9 4):=ax
def RX:Tryz.prog.underlying 9=some .string:=ax
def Wi:(Tryz.prog.info? 4).bind (·.zero)=some (.bool false):=ax
def Eb {L:Lp} {K:Xab->Hp->Prop} {h:Hp} {g:Nat} {D:List (Xaa × Xab)} (m:dW h g D) (a:Bc D) (s:Xaa) {k:Bool->T} (hk:k (gB D s) L K h):T.eh Tryz.prog (Instr.lookup 58 (.map (some g)) (.string s) false) false [(false,[.bool])] k L K h:=by
 refine iB Sg RX Wi m s false _ ?_;refine ⟨(gB D s,()),?_,hk⟩;simp only [Bool.false_eq_true,if_false];rw [Rf a] <;> rfl
def Qz {h:Hp} {g:Nat} {D:List (Xaa × Xab)} (m:dW h g D) (a:Bc D) (b:bF h ga 60 [pv,.map (some g)]) (s:Xaa) (n:Int):HC Tryz.prog 47 #[.agg #[.string s,.int .u32 n],.pointer (some ⟨ga,0,none⟩)] h fun w h'=>w=.bool (gB D s)/\Ext h h':=by
 refine bd (args:=[.agg #[.string s,.int .u32 n],.pointer (some ⟨ga,0,none⟩)]) mixed Tryz.func47 ax (iZ s n ⟨ga,0,none⟩) ?_;unfold fC dN aG;refine bm ?_;intro h1 b1 e1 z1;rw [aE];refine az (some g,()) ((b.ak e1 aj).cells _ rfl) (an ?_);refine af b1 (s,()) rfl (an ?_);refine Eb (m.ak e1 aj) a s ?_;exact ⟨rfl,e1⟩
def Ka {h:Hp} {g:Nat} {D:List (Xaa × Xab)} (m:dW h g D) (a:Bc D) (b:bF h ga 60 [pv,.map (some g)]) {p:Xac} {l c:Nat} {ts:dc} (v:gW h p l ts) (hm:ts.length<=2^60) :
  HC Tryz.prog 70 #[.slice p l c,.func (.func 47) #[] #[.pointer (some ⟨ga,0,none⟩)]] h fun w h'=>Ext h h'/\∃ m:Int,w=.int .i64 m/\(0<=m↔ts.any (fun t=>gB D t.1)=true):=by
 refine bd (args:=[.slice p l c,.func (.func 47) #[] #[.pointer (some ⟨ga,0,none⟩)]]) mixed Tryz.func70 ax (eO p l c ⟨ga,0,none⟩) ?_;unfold dl bf bk bH aP aG aR cn;have hl:=v.1;refine aX (cs:=[(false,[.int .i64]),(false,[.int .i64])]) (fun y k h'=>∃ i:Nat,y.2.1=(i:Int)/\k=ts.length-i/\i<=ts.length/\Ext h h'/\(ts.take i).any (fun t=>gB D t.1)=false) ((0:Int),(0:Int),()) ts.length rfl ⟨0,rfl,rfl,ad,Ch.refl _ _,aj⟩ ?_;rintro ⟨G,U,⟨⟩⟩ k h1 ⟨i,hi,rfl,J,e1,hn⟩;simp only at hi;subst hi;refine an ?_;refine aQ (fun q=>?_) (fun q=>?_)
 ·have j:i<ts.length:=ad
  obtain ⟨aa,O,hc⟩:=v.2 i j;have u:ts.take (i+1)=ts.take i++[ts[i]]:=Y3 j;refine ay ⟨ad,ad⟩ (aw O ?_);rw [show Int.toNat (i:Int)=i from ad];refine az (ts[i].1,(ts[i].2:Int),()) (aT e1 aj _ _ hc) (an ?_);refine rc (cap:=[.pointer (some ⟨ga,0,none⟩)]) ax rfl (Qz (m.ak e1 aj) a (b.ak e1 aj) ts[i].1 (ts[i].2:Int)) ?_;rintro _ h2 ⟨rfl,e2⟩;refine ⟨(gB D ts[i].1,()),rfl,an ?_⟩;refine av (fun r=>?_) (fun r=>?_)
  ·refine ⟨e1.trans e2,(i:Int),rfl,fun _=>as9.2 ⟨ts[i],Y9 j,r⟩,fun _=>ad⟩
  ·have hw:=iA i;refine aH (cs:=[(false,[.int .i64]),(false,[.int .i64])]) (G,((i+1:Nat):Int),()) (ts.length-(i+1)) rfl ad (Zl (fun z=>[Value.int .i64 G,Value.int .i64 z]) hw) ⟨i+1,rfl,rfl,ad,e1.trans e2,?_⟩;rw [u,cq9,hn];simpa using r
 ·refine ⟨e1,(-1:Int),rfl,fun h=>ad,fun hm=>?_⟩;rw [Zy ad] at hn;rw [hn] at hm;cases hm
def Dd {h:Hp} {g:Nat} {D:List (Xaa × Xab)} (m:dW h g D) (a:Bc D) (b:bF h ga 60 [pv,.map (some g)]) {p:Xac} {l c:Nat} {ts:dc} (v:gW h p l ts) (hm:ts.length<=2^60) :
  HC Tryz.prog 46 #[.slice p l c,.func (.func 47) #[] #[.pointer (some ⟨ga,0,none⟩)]] h fun w h'=>w=.bool (ts.any fun t=>gB D t.1)/\Ext h h':=by
 refine bd (args:=[.slice p l c,.func (.func 47) #[] #[.pointer (some ⟨ga,0,none⟩)]]) mixed Tryz.func46 ax (ep p l c ⟨ga,0,none⟩) ?_;unfold da cH;refine aJ (Ka m a b v hm) ?_;rintro _ h1 ⟨e1,k,rfl,hk⟩;refine ⟨(k,()),rfl,an ?_⟩;refine ⟨Zl Value.bool ?_,e1⟩;rw [cb9,<- hk]
 simp
def zZ (nm:Nat->Xaa) (h:Hp):Prop:=∃ by_ e f,h[0]?=some (.cells (jc nm by_).toArray e f)
def zZ.ak {nm:Nat->Xaa} {ws:List Nat} {h h':Hp} (t:zZ nm h) (k:Ch ws h h') (hw:0∉ws):zZ nm h':=by
 obtain ⟨by_,e,f,j⟩:=t;exact ⟨by_,e,f,k.get j hw⟩
def zZ.O7 {nm:Nat->Xaa} {h:Hp} (t:zZ nm h):AW h:=by
 obtain ⟨by_,e,f,j⟩:=t;exact ⟨nm,by_,e,f,j⟩
def zZ.cells {nm:Nat->Xaa} {h:Hp} (t:zZ nm h) {k:Nat} (hk:k<43):∃ b:Int,aI h ((⟨0,0,none⟩:Xax).add (k*3)) 0 [.string (nm k),.int .u8 b,.int .i64 (jS.getD k 0:Nat)]:=by
 obtain ⟨by_,e,f,u⟩:=t;refine ⟨by_ k,?_⟩;have G:∀ j,j<3->(jc nm by_)[k*3+j]?=([.string (nm k),.int .u8 (by_ k),.int .i64 (jS.getD k 0:Nat)]:List Xab)[j]?:=by
  intro j J;unfold jc;rw [rz _ 3 aj _ _ _ J];simp [hk]
 rw [aE];refine ⟨?_,?_,?_,trivial⟩
 ·rw [aE,iN u]
  have:=G 0 ad
  simpa using this
 ·rw [aE,iN u]
  have:=G 1 ad
  simpa using this
 ·rw [aE,iN u]
  have:=G 2 ad
  simpa using this
def Pa (nm:Nat->Xaa) (op:Int):Xaa:=if cS op=0 then ⟨#[]⟩ else nm (op-1).toNat
def T5 {nm:Nat->Xaa} {h:Hp} (t:zZ nm h) (op:Int) (h1:-9223372036854775808<=op) (h2:op<=9223372036854775807) :
  HC Tryz.prog 44 #[.int .i64 op] h fun w h'=>∃ b:Int,w=.tuple #[.agg #[.string (Pa nm op),.int .u8 b,.int .i64 (cS op:Nat)],.bool (decide (cS op≠0))]/\Ext h h':=by
 refine bd (args:=[.int .i64 op]) mixed Tryz.func44 ax (ye op) ?_;unfold zx bt bn bY;refine bm ?_;intro g1 b1 e1 z1;have J:∀ (G:cS op=0),(∃ b:Int,(Value.tuple #[.agg #[.string ⟨#[]⟩,.int .u8 0,.int .i64 0],.bool false])=.tuple #[.agg #[.string (Pa nm op),.int .u8 b,.int .i64 (cS op:Nat)],.bool (decide (cS op≠0))]) :=
  fun G=>⟨0,by unfold Pa; rw [Y8 G,G]; rfl⟩
 refine av (fun q=>?_) (fun q=>?_)
 ·have q:=Y5 q;refine ar b1 rfl aj ?_;intro g2 j u z2;refine af j ((⟨#[]⟩:Xaa),(0:Int),(0:Int),()) rfl ?_;obtain ⟨b,e⟩:=J (by unfold cS; rw [Y8 q]);exact ⟨b,e,bR e1 u⟩
 refine av (fun r=>?_) (fun r=>?_)
 ·have r:=Y5 r;refine ar b1 rfl aj ?_;intro g2 j u z2;refine af j ((⟨#[]⟩:Xaa),(0:Int),(0:Int),()) rfl ?_;obtain ⟨b,e⟩:=J (by
   by_cases g:cS op=0
   ·exact g
   ·have:=Da op g
    omega)
  exact ⟨b,e,bR e1 u⟩
 ·have q:=Zc q;have r:=Zc r;rw [wrap_i64 ad ad];refine ay ⟨ad,ad⟩ ?_;obtain ⟨b,hc⟩:=(t.ak e1 aj).cells (k:=(op-1).toNat) ad;refine az (nm (op-1).toNat,b,((jS.getD (op-1).toNat 0:Nat):Int),()) hc (an ?_);refine ar b1 rfl aj ?_;intro g2 j u z2;refine af j (nm (op-1).toNat,b,((jS.getD (op-1).toNat 0:Nat):Int),()) rfl ?_;refine ⟨b,?_,bR e1 u⟩;have h3:cS op=jS.getD (op-1).toNat 0:=by unfold cS; rw [Y2 ad]
  have h4:cS op≠0:=by
   rw [h3]
   have:∀ k:Fin 43,jS.getD k.1 0≠0:=bZ
   exact this ⟨(op-1).toNat,ad⟩
  rw [Y6 h4,show Pa nm op=nm (op-1).toNat by unfold Pa; rw [Y2 h4],h3]
def rC (D:List (Xaa × Xab)) (x:ct):Bool:=match x.ai with
 | [t]=>((t.2:Int)==1) && ((x.num:Int)==0) && gB D t.1
 | _=>false
def yT (nm:Nat->Xaa) (D:List (Xaa × Xab)) (x:cE) (sec r:Int):Bool :=
 if r==1 then x.kind==2 && ((ByteArray.toList (Pa nm x.inst.op))==[({ toBitVec:=106#8 }),({ toBitVec:=114#8 })])
 else if r==2 then x.kind==2 && oJ x.inst.op && !rC D x.e
 else if r==3 then (x.kind==6 || (x.kind==2 && (((cS x.inst.op:Nat):Int)==10 || ((cS x.inst.op:Nat):Int)==11))) && x.e.ai.any fun t=>gB D t.1
 else if r==4 then x.kind==3 && sec==0 else false
def Jw {nm:Nat->Xaa} {h:Hp} (tn:zZ nm h) {g:Nat} {D:List (Xaa × Xab)} (m:dW h g D) (a:Bc D) {p0:Xac} {q:Xac} {l c:Nat} {x:cE} (v:iT h q l x) (sec r:Int) :
  HC Tryz.prog 24 #[.agg #[.pointer p0,.map (some g)],.agg (encI q l c x).toArray,.int .i64 sec,.int .i64 r] h fun w h'=>w=.bool (yT nm D x sec r)/\Ext h h':=by
 refine bd (args:=[.agg #[.pointer p0,.map (some g)],.agg (encI q l c x).toArray,.int .i64 sec,.int .i64 r]) mixed Tryz.func24 ax (kY p0 (some g) x.kind x.name x.inst.op x.inst.a x.inst.b x.inst.n x.inst.form q l c x.e.num x.n sec r) ?_;unfold gJ aY bK dN iP aG UA bI dP bY cn;refine bm ?_;intro h1 b1 e1 z1;refine bm ?_;intro h2 b2 e2 z2;have b2:bF h2 h1.size 71 (encI q l c x):=b2;rw [aE,aE,aE];refine af b2 (x.inst.op,()) rfl (an ?_);refine aJ (T5 ((tn.ak e1 aj).ak e2 aj) x.inst.op v.op.1 v.op.2) ?_;rintro _ h3 ⟨bb,rfl,e3⟩;refine ⟨(Pa nm x.inst.op,bb,((cS x.inst.op:Nat):Int),decide (cS x.inst.op≠0),()),rfl,an ?_⟩;refine bm ?_;intro h4 b4 e4 z4;refine ar b4 rfl aj ?_;intro h5 X k5 z5;have X:bF h5 h3.size 120 [.string (Pa nm x.inst.op),.int .u8 bb,.int .i64 (cS x.inst.op:Nat)]:=X;have e35:Ext h3 h5:=bR e4 k5;have O:=e3.trans e35;have j:=(e1.trans e2).trans O;have u:=b2.ak O aj;have Y:=(b1.ak e2 aj).ak O aj;have m':=m.ak j aj;have v':=v.ak j;have tb':=(tn.ak j aj).O7;refine af u (x.kind,()) rfl (an ?_);have cf:HC Tryz.prog 46 #[.slice q l c,.func (.func 47) #[] #[.pointer (some ⟨h.size,0,none⟩)]] h5 fun w h'=>w=.bool (x.e.ai.any fun t=>gB D t.1)/\Ext h5 h':=Dd m' a Y v'.lin.vw v'.lin.many
 cases Z:r==(1:Int) with
 | true =>
  refine bC rfl ?_;have U:yT nm D x sec r=(x.kind==2 && ((ByteArray.toList (Pa nm x.inst.op))==[({ toBitVec:=106#8 }),({ toBitVec:=114#8 })])):=by unfold yT; rw [Y8 Z]
  rw [U];cases k2:x.kind==(2:Int) with
  | true =>
   refine bC rfl ?_;refine af X (Pa nm x.inst.op,()) rfl (an ?_);exact ⟨by rw [Zt],j⟩
  | false=>exact bP rfl ⟨by rw [Bool.false_and],j⟩
 | false =>
 refine bP rfl ?_;cases r2:r==(2:Int) with
 | true =>
  refine bC rfl ?_;have U:yT nm D x sec r=(x.kind==2 && oJ x.inst.op && !rC D x.e):=by unfold yT; rw [Y2 (by rw [Z]; simp),Y8 r2]
  rw [U]
  have go:∀ (L:Lp) (al:Bool),al=rC D x.e ->
    (cond (x.kind==(2:Int)) (T.ah ((⟨h1.size,0,none⟩:Xax).add 2) [.int .i64] <| fun (n29:Int)=>T.call Tryz.prog 45 [.int .i64 n29] false [(false,[.bool])] <| fun (b30:Bool)=>cond b30 (T.ret (.bool (!al))) (T.ret (.bool false))) (T.ret (.bool false))) L (fun w h'=>w=Value.bool (x.kind==2 && oJ x.inst.op && !rC D x.e)/\Ext h h') h5:=by
   intro L al G;cases k2:x.kind==(2:Int) with
   | true =>
    refine bC rfl ?_;rw [aE];refine af u (x.inst.op,()) rfl (an ?_);refine aJ (Ae tb' x.inst.op v.op.1 v.op.2) ?_;rintro _ h6 ⟨rfl,e6⟩;refine ⟨(oJ x.inst.op,()),rfl,an ?_⟩;cases hs:oJ x.inst.op with
    | true=>exact bC rfl ⟨by rw [G]; rfl,j.trans e6⟩
    | false=>exact bP rfl ⟨rfl,j.trans e6⟩
   | false=>exact bP rfl ⟨rfl,j⟩
  have hl:=v'.lin.vw.1;have V:aI h5 ⟨h1.size,0+7,none⟩ 0 [.slice q l c]:=u.cells _ rfl;have c8:aI h5 ⟨h1.size,0+7+1,none⟩ 0 [.int .u32 (x.e.num:Int)]:=u.cells _ rfl;refine az ((q,l,c),()) V (an ?_);cases J:x.e.ai with
  | nil =>
   rw [J] at hl;refine bP (by rw [hl]; rfl) ?_;exact go _ false (by unfold rC; rw [J])
  | cons t ts =>
   cases ts with
   | cons t2 ts =>
    rw [J] at hl;refine bP (by
     rw [hl,ZP,ZP]
     have:¬ ((ts.length+1+1:Nat):Int)=1:=ad
     simpa using this) ?_
    exact go _ false (by unfold rC; rw [J])
   | nil =>
    rw [J] at hl;have G:rC D x.e=(((t.2:Int)==1) && ((x.e.num:Int)==0) && gB D t.1):=by unfold rC; rw [J]
    obtain ⟨aa,ha,hc⟩:=v'.lin.vw.2 0 (by rw [J]; simp);have hx0:x.e.ai[0]'(by rw [J]; simp)=t:=by simp [J]
    rw [hx0,ck9] at hc;have ha0:aa.add 0=aa:=by cases aa; rfl
    rw [ha0] at hc;have hc1:aI h5 (aa.add 1) 0 [.int .u32 (t.2:Int)]:=⟨by rw [add_add]; exact hc.2.1,trivial⟩
    have hc0:aI h5 aa 0 [.string t.1]:=⟨hc.1,trivial⟩
    refine bC (by rw [hl]; rfl) ?_;refine az ((q,l,c),()) V (an ?_);refine ay ⟨ad,by rw [hl]; simp⟩ (aw ha ?_);refine az ((t.2:Int),()) hc1 (an ?_);cases k1:((t.2:Int)==1) with
    | false =>
     refine bP rfl ?_;exact go _ false (by rw [G,k1]; rfl)
    | true =>
     refine bC rfl ?_;rw [aE];refine az ((x.e.num:Int),()) c8 (an ?_);cases k0:((x.e.num:Int)==0) with
     | false =>
      refine bP rfl ?_;exact go _ false (by rw [G,k1,k0]; rfl)
     | true =>
      refine bC rfl ?_;refine af Y (some g,()) rfl (an ?_);refine az ((q,l,c),()) V (an ?_);refine ay ⟨ad,by rw [hl]; simp⟩ (aw ha ?_);refine az (t.1,()) hc0 (an ?_);refine Eb m' a t.1 ?_;refine ⟨⟨V,c8,hc1,V,V,trivial⟩,?_⟩;exact go _ (gB D t.1) (by rw [G,k1,k0]; rfl)
 | false =>
 refine bP rfl ?_;cases r3:r==(3:Int) with
 | true =>
  refine bC rfl ?_;have U:yT nm D x sec r=((x.kind==6 || (x.kind==2 && (((cS x.inst.op:Nat):Int)==10 || ((cS x.inst.op:Nat):Int)==11))) && x.e.ai.any fun t=>gB D t.1):=by
   unfold yT; rw [Y2 (by rw [Z]; simp),Y2 (by rw [r2]; simp),Y8 r3]
  rw [U];have fin:∀ (L:Lp),(T.ah ((⟨h1.size,0,none⟩:Xax).add 7) [.slice 117] <| fun (p15:Xac) (l16:Nat) (l17:Nat)=>T.call Tryz.prog 46 [.slice p15 l16 l17,.func (Fn.func 47) #[] #[.pointer (some ⟨h.size,0,none⟩)]] false [(false,[.bool])] <| fun (b18:Bool)=>T.ret (.bool b18)) L (fun w h'=>w=Value.bool (x.e.ai.any fun t=>gB D t.1)/\Ext h h') h5:=by
   intro L;rw [aE];refine af u ((q,l,c),()) rfl (an ?_);refine aJ cf ?_;rintro _ h6 ⟨rfl,e6⟩;exact ⟨(x.e.ai.any (fun t=>gB D t.1),()),rfl,rfl,j.trans e6⟩
  refine af u (x.kind,()) rfl (an ?_);cases k6:x.kind==(6:Int) with
  | true =>
   refine bP (by rw [bne,k6]; rfl) ?_;rw [Bool.true_or,Zt];exact fin _
  | false =>
   refine bC (by rw [bne,k6]; rfl) ?_;rw [bl9];cases k2:x.kind==(2:Int) with
   | true =>
    refine bC rfl ?_;rw [Zt];rw [aE];refine af X (((cS x.inst.op:Nat):Int),()) rfl (an ?_);cases s1:((cS x.inst.op:Nat):Int)==10 with
    | true =>
     refine bC rfl ?_;rw [Bool.true_or,Zt];exact fin _
    | false =>
     refine bP rfl ?_;refine af X (((cS x.inst.op:Nat):Int),()) rfl (an ?_);cases s2:((cS x.inst.op:Nat):Int)==11 with
     | true =>
      refine bP rfl ?_;rw [Bool.or_true,Zt];exact fin _
     | false=>exact bC rfl ⟨rfl,j⟩
   | false=>exact bP rfl ⟨rfl,j⟩
 | false =>
 refine bP rfl ?_;cases r4:r==(4:Int) with
 | true =>
  refine bC rfl ?_;have U:yT nm D x sec r=(x.kind==3 && sec==0):=by
   unfold yT; rw [Y2 (by rw [Z]; simp),Y2 (by rw [r2]; simp),Y2 (by rw [r3]; simp),Y8 r4]
  rw [U];refine af u (x.kind,()) rfl (an ?_);cases k3:x.kind==(3:Int) with
  | true=>exact bC rfl ⟨by rw [Zt],j⟩
  | false=>exact bP rfl ⟨rfl,j⟩
 | false =>
  refine bP rfl ⟨?_,j⟩;unfold yT; rw [Y2 (by rw [Z]; simp),Y2 (by rw [r2]; simp),Y2 (by rw [r3]; simp),Y2 (by rw [r4]; simp)]
def J6 {h:Hp} (pw:fU h) {B N M:Nat} {w:LW} {usl lb:cz} {sp:Int} {S:Nat->kz} (pg:oH h B w usl lb sp N M S) (hl:w.lb.length<=2^30) :
  HC Tryz.prog 20 #[ptr (B+3)] h fun v h'=>Ext h h'/\∃ g,h.size<=g/\v=.agg #[ptr (B+3),.map (some g)]/\dW h' g (Ko w.lb 0 []):=by
 refine bd (args:=[ptr (B+3)]) mixed Tryz.func20 ax (AY (some ⟨B+3,0,none⟩)) ?_;unfold Am bf bk bH aP gS bK bU bY aR;refine bm ?_;intro h1 b1 e1 z1;show aS _ _ _ _;refine jJ _ ?_;intro h2 m2 e2 z2;refine ⟨(some h1.size,()),rfl,an ?_⟩;have O:=e1.trans e2;refine aJ (sA (pg.ext O) hl) ?_;rintro _ h3 ⟨Z,p,l,c,rfl,s3⟩;refine ⟨((p,l,c),()),rfl,an ?_⟩;have e03:=O.trans Z;have hll:l=w.lb.length:=by have:=s3.1; rwa [Y0] at this
 have q1:=e1.size;have q2:=e2.size;have q3:=Z.size;have b3:=(b1.ak e2 aj).ak Z aj;have bl:=fun i hi=>SL.cr s3 (i:=i) hi
 refine aX (cs:=[(false,[.int .i64])]) (fun y k h'=>∃ i:Nat,y.1=(i:Int)/\k=w.lb.length-i/\i<=w.lb.length/\Ch [h1.size] h3 h'/\dW h' h1.size (Ko (w.lb.take i) 0 [])) ((0:Int),()) w.lb.length rfl
  ⟨0,rfl,rfl,ad,Ch.refl _ _,m2.ak Z aj⟩ ?_
 rintro ⟨n6,⟨⟩⟩ k h4 ⟨i,hi,rfl,hle,U,m4⟩;simp only at hi;subst hi;refine an ?_;have V:Ext h h4:=Ch.trans e03 U fun j J hx=>by simp at J; omega
 have hw:=iA i;have q4:=U.size;refine aQ (fun q=>?_) (fun q=>?_)
 ·have X:i<w.lb.length:=ad
  have s4:=s3.bM U fun j J hm=>by
   rw [Zi.1 hm] at J
   have:=bl _ J
   omega
  obtain ⟨a,ha,hc⟩:=SL.cells s4 (i:=i) (by rw [Y0]; exact X);rw [Zb] at hc;have Y:w.lb.take (i+1)=w.lb.take i++[w.lb[i]]:=Y3 X;generalize w.lb[i]=y at hc Y;refine ay ⟨ad,ad⟩ (aw ha ?_);rw [show Int.toNat (i:Int)=i from ad];refine az ((y.u:Int),(y.s:Int),(y.i:Int),y.n,()) hc (an ?_);refine bm ?_;intro h5 b5 e5 z5;refine ar b5 rfl aj ?_;intro h6 b6 k6 z6;have b6:bF h6 h4.size 112 [.int .i64 (y.u:Int),.int .i64 (y.s:Int),.int .i64 (y.i:Int),.string y.n]:=b6;have G:Ext h4 h6:=bR e5 k6;rw [aE];refine af b6 ((y.s:Int),()) rfl (an ?_);refine aJ (zj ((pw.ak V aj).ak G aj) i ad) ?_;rintro _ h7 ⟨rfl,e7⟩;refine ⟨(kQ i,()),rfl,an ?_⟩;refine ⟨⟨(b6.ak e7 aj).cells _ rfl,trivial⟩,?_⟩;have hsz:=jw (n:=i) ad;have hml:2000<=maxLen:=bZ
  refine ay ad ?_;have m7:=(m4.ak G aj).ak e7 aj;show aS _ _ _ _;refine fp Sg RX m7 (s:=wL i) (by show (_++_:Xaa).size<=_; rw [au9]; show 1+_<=_; omega) _ _ ?_;intro h8 m8 k8 z8;refine aH (cs:=[(false,[.int .i64])]) (((i+1:Nat):Int),()) (w.lb.length-(i+1)) rfl ad (Zl (fun z=>[Value.int .i64 z]) hw) ⟨i+1,rfl,rfl,ad,?_,?_⟩
  ·exact Ch.trans (Ch.trans U (G.trans e7) aj) k8 (fun j J _=>J)
  ·rw [Y,F8,Zp,ac9 ad,ZJ];exact m8
 ·have hi:i=w.lb.length:=ad
  subst hi;rw [ZA] at m4;have b4:=b3.ak U (by simp; omega);refine ar b4 rfl aj ?_;intro h5 b5 k5 z5;refine af b5 (some ⟨B+3,0,none⟩,some h1.size,()) rfl ?_;exact ⟨bR V k5,h1.size,ad,rfl,m4.ak k5 (by simp; omega)⟩
structure Wh where
 u:Nat
 s:Nat
 i:Nat
 r:Nat
deriving DecidableEq
section
variable (nm:Nat->Xaa) (D:List (Xaa × Xab)) (I:Nat->Nat->List cE) (N:Nat) (p:Wh->Bool)
def Sq (u s i:Nat) (x:cE) (r:Nat):List Wh:=(List.range' r (5-r)).filterMap fun (r:Nat)=>if yT nm D x s r then some ⟨u,s,i,r⟩ else none
def Ph (u s:Nat):Nat->List cE->List Wh
 | _,[]=>[]
 | i,x::xs=>Sq nm D u s i x 1++Ph u s (i+1) xs
def XU (u s:Nat):List Wh:=Ph nm D u s 0 (I u s)
def Xm (u:Nat):List Wh:=((List.range 2)).flatMap fun s=>XU nm D I u s
def U7:List Wh:=(List.range N).flatMap fun u=>Xm nm D I u
def Kg (u:Nat):Option Wh:=(((List.range N).drop u).flatMap fun u=>Xm nm D I u).find? p
def PQ (u s:Nat):Option Wh:=((((List.range 2).drop s).flatMap fun s=>XU nm D I u s).find? p).or (Kg nm D I N p (u+1))
def Q3 (u s i:Nat):Option Wh:=((Ph nm D u s i ((I u s).drop i)).find? p).or (PQ nm D I N p u (s+1))
def SZ (u s i:Nat) (x:cE) (r:Nat):Option Wh:=((Sq nm D u s i x r).find? p).or (Q3 nm D I N p u s (i+1))
def W1:Kg nm D I N p 0=(U7 nm D I N).find? p:=rfl
def zk {n u:Nat} (h:u<n):(List.range n).drop u=u::(List.range n).drop (u+1):=by
 rw [Zg (by simpa using h)]
 simp
def V7 {u:Nat} (h:u<N):Kg nm D I N p u=PQ nm D I N p u 0:=by
 unfold Kg PQ;rw [zk h,ZG,bh9] <;> rfl
def VW {u:Nat} (h:N<=u):Kg nm D I N p u=none:=by
 unfold Kg;rw [ar9 (by simpa using h)] <;> rfl
def V2 {u s:Nat} (h:s<2):PQ nm D I N p u s=Q3 nm D I N p u s 0:=by
 unfold Q3 PQ;rw [zk h,ZG,bh9,Option.or_assoc] <;> rfl
def WS {u s:Nat} (h:2<=s):PQ nm D I N p u s=Kg nm D I N p (u+1):=by
 unfold PQ;rw [ar9 (by simpa using h)] <;> rfl
def WT {u s i:Nat} (h:i<(I u s).length):Q3 nm D I N p u s i=SZ nm D I N p u s i (I u s)[i] 1:=by
 unfold Q3 SZ;rw [Zg h,Ph,bh9,Option.or_assoc] <;> rfl
def WN {u s i:Nat} (h:(I u s).length<=i):Q3 nm D I N p u s i=PQ nm D I N p u (s+1):=by
 unfold Q3;rw [ar9 h] <;> rfl
def WD {u s i r:Nat} {x:cE} (h:5<=r):SZ nm D I N p u s i x r=Q3 nm D I N p u s (i+1):=by
 unfold SZ Sq;rw [show 5-r=0 from ad] <;> rfl
def Wl {u s i r:Nat} {x:cE} (h:r<5):SZ nm D I N p u s i x r=if yT nm D x s r && p ⟨u,s,i,r⟩ then some ⟨u,s,i,r⟩ else SZ nm D I N p u s i x (r+1):=by
 have h1:Sq nm D u s i x r=(if yT nm D x s r then [(⟨u,s,i,r⟩:Wh)] else [])++Sq nm D u s i x (r+1):=by
  unfold Sq;rw [show 5-r=(5-(r+1))+1 from ad,List.range'_succ,List.filterMap_cons];split
  ·next j =>
   split at j
   ·cases j
   ·next hn=>rw [Y2 hn]; rfl
  ·next b j =>
   split at j
   ·next hn=>rw [Y8 hn]; cases j; rfl
   ·cases j
 unfold SZ;rw [h1];cases J:yT nm D x s r with
 | false=>rfl
 | true =>
  simp only [if_true,Bool.true_and];cases G:p ⟨u,s,i,r⟩ with
  | true=>simp [G]
  | false=>simp [G]
end
def Lg:Option Wh->Xab
 | none=>.tuple #[.agg #[.int .i64 0,.int .i64 0,.int .i64 0,.int .i64 0],.bool false]
 | some q=>.tuple #[.agg #[.int .i64 (q.u:Int),.int .i64 (q.s:Int),.int .i64 (q.i:Int),.int .i64 (q.r:Int)],.bool true]
def DV (rs:List Int) (q:Wh):Bool:=decide ((q.r:Int)∈rs)
def Of {nm:Nat->Xaa} {h:Hp} (tn:zZ nm h) (pw:fU h) {B N M:Nat} {w:LW} {usl lb:cz} {sp:Int} {S:Nat->kz} (pg:oH h B w usl lb sp N M S) (hl:w.lb.length<=2^30) (hN:N<=2^30) {I:Nat->Nat->List cE}
  (QO:∀ h',Ext h h'->∀ n j:Nat,n<N->j<2->HC Tryz.prog 22 #[ptr (B+3),.int .i64 (n:Int),.int .i64 (j:Int)] h' fun v h''=>Ext h' h''/\∃ t:cz,v=t.v/\Dr h'' t.p t.l (I n j))
  {p:Xac} {l c:Nat} {rs:List Int} (v:O9 h p l rs) :
  HC Tryz.prog 10 #[ptr (B+3),.slice p l c] h fun v h'=>Ext h h'/\v=Lg (Kg nm (Ko w.lb 0 []) I N (DV rs) 0):=by
 refine bd (args:=[ptr (B+3),.slice p l c]) mixed Tryz.func10 ax (AS (some ⟨B+3,0,none⟩) p l c) ?_;unfold xN bf bk bH aP aY cH bK aG bn bj bY aR cn;refine bm ?_;intro h1 b1 e1 z1;refine bP rfl ?_;refine aJ (J6 (pw.ak e1 aj) (pg.ext e1) hl) ?_;rintro _ h2 ⟨e2,g,hg,rfl,m2⟩;refine ⟨(some ⟨B+3,0,none⟩,some g,()),rfl,an ?_⟩;refine bm ?_;intro h3 b3 e3 z3;refine ar b3 rfl aj ?_;intro h4 b4 k4 z4;have b4:bF h4 h2.size 60 [.pointer (some ⟨B+3,0,none⟩),.map (some g)]:=b4;have e24:Ext h2 h4:=bR e3 k4;have e14:=e2.trans e24;have V:=e1.trans e14;have m4:=m2.ak e24 aj;have b14:=b1.ak e14 aj;have aD:=F9 w.lb 0 [] (by intro p hp; simp at hp);have q1:=e1.size;generalize Ko w.lb 0 []=D at m4 aD;clear m2 b3;refine ka (LR (pg.ext V)) ?_
 have Z:∀ (L:Lp) (h':Hp) (q:Wh),Ext h4 h'->Kg nm D I N (DV rs) 0=some q->(T.aC (⟨h.size,0,none⟩:Xax) [.int .i64 (q.u:Int),.int .i64 (q.s:Int),.int .i64 (q.i:Int),.int .i64 (q.r:Int)] <|
   T.ah (⟨h.size,0,none⟩:Xax) [.int .i64,.int .i64,.int .i64,.int .i64] <| fun (n48:Int) (n49:Int) (n50:Int) (n51:Int)=>T.ret (.tuple #[.agg #[.int .i64 n48,.int .i64 n49,.int .i64 n50,.int .i64 n51],.bool true])) L (fun v h'=>Ext h h'/\v=Lg (Kg nm D I N (DV rs) 0)) h':=by
  intro L h' q e hq;refine ar (b14.ak e aj) rfl aj ?_;intro h6 b6 k6 z6;refine af b6 ((q.u:Int),(q.s:Int),(q.i:Int),(q.r:Int),()) rfl ?_;exact ⟨bR (V.trans e) k6,by rw [hq]; rfl⟩
 refine aX (cs:=[(false,[.bool]),(false,[.int .i64])]) (fun y k h'=>∃ n:Nat,y.2.1=(n:Int)/\k=N-n/\n<=N/\Ext h4 h'/\Kg nm D I N (DV rs) n=Kg nm D I N (DV rs) 0) (false,(0:Int),()) N rfl ⟨0,rfl,rfl,ad,Ch.refl _ _,rfl⟩ ?_;rintro ⟨b7,n8,⟨⟩⟩ k h5 ⟨n,hi,rfl,hle,e5,G⟩;simp only at hi;subst hi;refine an ?_;generalize hfin:Kg nm D I N (DV rs) 0=R at G Z;refine aQ (fun q=>?_) (fun q=>?_)
 ·have hn:n<N:=ad
  rw [V7 _ _ _ _ _ hn] at G;refine aX (cs:=[(false,[.bool]),(false,[.int .i64])]) (fun y k h'=>∃ s:Nat,y.2.1=(s:Int)/\k=2-s/\s<=2/\Ext h4 h'/\PQ nm D I N (DV rs) n s=R) (b7,(0:Int),()) 2 rfl ⟨0,rfl,rfl,ad,e5,G⟩ ?_;clear G e5 h5;rintro ⟨b9,n10,⟨⟩⟩ k h5 ⟨s,hi,rfl,hsl,e5,G⟩;simp only at hi;subst hi;refine an ?_;refine aQ (fun q=>?_) (fun q=>?_)
  ·have hs:s<2:=ad
   rw [V2 _ _ _ _ _ hs] at G;refine aJ (QO h5 (V.trans e5) n s hn hs) ?_;rintro _ h6 ⟨e6,t,rfl,vt⟩;refine ⟨((t.p,t.l,t.c),()),rfl,an ?_⟩;have e46:=e5.trans e6;have htl:=vt.len;have htm:=vt.many;refine aX (cs:=[(false,[.bool]),(false,[.int .i64])]) (fun y k h'=>∃ i:Nat,y.2.1=(i:Int)/\k=(I n s).length-i/\i<=(I n s).length/\Ext h6 h'/\Q3 nm D I N (DV rs) n s i=R) (b9,(0:Int),()) (I n s).length rfl ⟨0,rfl,rfl,ad,Ch.refl _ _,G⟩ ?_;clear G;rintro ⟨X,n15,⟨⟩⟩ k h7 ⟨i,hi,rfl,hil,e7,G⟩;simp only at hi;subst hi;refine an ?_;refine aQ (fun q=>?_) (fun q=>?_)
   ·have Y:i<(I n s).length:=ad
    rw [WT _ _ _ _ _ Y] at G;obtain ⟨aa,qq,mm,cc,ha,hc,hv⟩:=vt.cells i Y;generalize (I n s)[i]=x at G hc hv;refine ay ⟨ad,ad⟩ (aw ha ?_);rw [show Int.toNat (i:Int)=i from ad];refine az (x.kind,x.name,x.inst.op,x.inst.a,x.inst.b,x.inst.n,x.inst.form,(qq,mm,cc),(x.e.num:Int),x.n,()) (aT e7 aj _ _ hc) (an ?_);refine bm ?_;intro h8 b8 e8 z8;refine ar b8 rfl aj ?_;intro h9 b9' k9 z9;have b9':bF h9 h7.size 71 (encI qq mm cc x):=b9';have e79:Ext h7 h9:=bR e8 k9;have e49:=(e46.trans e7).trans e79;have hv9:=(hv.ak e7).ak e79;refine aX (cs:=[(false,[.bool]),(false,[.int .i64])]) (fun y k h'=>∃ r:Nat,y.2.1=(r:Int)/\k=5-r/\1<=r/\r<=5/\Ext h9 h'/\SZ nm D I N (DV rs) n s i x r=R) (X,(1:Int),()) 4 rfl ⟨1,rfl,rfl,ad,ad,Ch.refl _ _,G⟩ ?_;clear G;rintro ⟨O,n31,⟨⟩⟩ k h10 ⟨r,hi,rfl,hr1,hr5,U,G⟩;simp only at hi;subst hi;refine an ?_;have J:=e49.trans U;have e010:=V.trans J;have hwr:=iA r;refine aQ (fun q=>?_) (fun q=>?_)
    ·have hr:r<5:=ad
     rw [Wl _ _ _ _ _ hr] at G;refine aK (Eg (v.ak e010) (r:Int)) ?_;cases Y:decide ((r:Int)∈rs) with
     | false =>
      refine bP rfl ?_;rw [show DV rs ⟨n,s,i,r⟩=false from Y,bz9] at G;exact aH (cs:=[(false,[.bool]),(false,[.int .i64])]) (O,((r+1:Nat):Int),()) (5-(r+1)) rfl ad (Zl (fun z=>[Value.bool O,Value.int .i64 z]) hwr) ⟨r+1,rfl,rfl,ad,ad,U,by simpa using G⟩
     | true =>
      refine bC rfl ?_;rw [show DV rs ⟨n,s,i,r⟩=true from Y,af9] at G;refine af (b4.ak J aj) (some ⟨B+3,0,none⟩,some g,()) rfl (an ?_);refine af (b9'.ak U aj) (x.kind,x.name,x.inst.op,x.inst.a,x.inst.b,x.inst.n,x.inst.form,(qq,mm,cc),(x.e.num:Int),x.n,()) rfl (an ?_);refine aJ (Jw (tn.ak e010 aj) (m4.ak J aj) aD (p0:=some ⟨B+3,0,none⟩) (hv9.ak U) (s:Int) (r:Int)) ?_;rintro _ h11 ⟨rfl,e11⟩;refine ⟨(yT nm D x s r,()),rfl,an ?_⟩;cases hrs:yT nm D x s r with
      | true =>
       rw [hrs] at G;refine bC rfl ?_;exact Z _ h11 ⟨n,s,i,r⟩ (J.trans e11) (by rw [<- G]; rfl)
      | false =>
       rw [hrs] at G;refine bP rfl ?_;exact aH (cs:=[(false,[.bool]),(false,[.int .i64])]) (O,((r+1:Nat):Int),()) (5-(r+1)) rfl ad (Zl (fun z=>[Value.bool O,Value.int .i64 z]) hwr) ⟨r+1,rfl,rfl,ad,ad,U.trans e11,by simpa using G⟩
    ·rw [WD _ _ _ _ _ ad] at G;have hw:=iA i;exact aH (cs:=[(false,[.bool]),(false,[.int .i64])]) (O,((i+1:Nat):Int),()) ((I n s).length-(i+1)) rfl ad (Zl (fun z=>[Value.bool O,Value.int .i64 z]) hw) ⟨i+1,rfl,rfl,ad,(e7.trans e79).trans U,G⟩
   ·rw [WN _ _ _ _ _ ad] at G;have hw:=iA s;exact aH (cs:=[(false,[.bool]),(false,[.int .i64])]) (X,((s+1:Nat):Int),()) (2-(s+1)) rfl ad (Zl (fun z=>[Value.bool X,Value.int .i64 z]) hw) ⟨s+1,rfl,rfl,ad,e46.trans e7,G⟩
  ·rw [WS _ _ _ _ _ ad] at G;have hw:=iA n;exact aH (cs:=[(false,[.bool]),(false,[.int .i64])]) (b9,((n+1:Nat):Int),()) (N-(n+1)) rfl ad (Zl (fun z=>[Value.bool b9,Value.int .i64 z]) hw) ⟨n+1,rfl,rfl,ad,e5,G⟩
 ·rw [VW _ _ _ _ _ ad] at G;refine ar (b14.ak e5 aj) rfl aj ?_;intro h6 b6 k6 z6;refine af b6 ((0:Int),(0:Int),(0:Int),(0:Int),()) rfl ?_;exact ⟨bR (V.trans e5) k6,by rw [<- G]; rfl⟩
end Go.Sx.Pn
namespace Go.Sx.Lk
open Go.Proofs Go.Sx.Ob
def G0.vw {h:Hp} {b:Nat} {s:cz} {ws:List (cz × cE)} (o:G0 h b s ws) (hl:ws.length<=2^60) (hx:∀ x,x∈ws.map (·.2)->x.name.size<=maxLen/\Sm x.inst.op/\x.e.ai.length<=2^60/\∀ t,t∈x.e.ai->t.1.size<=maxLen):Dr h s.p s.l (ws.map (·.2)) :=
 ⟨by have:=o.out.1; rw [Y0] at this ⊢; exact this,by rw [Y0]; exact hl,fun i hi=>by
  rw [Y0] at hi;obtain ⟨a,j,hc⟩:=o.out.cells (i:=i) (by simpa using hi);rw [Zb] at hc;rw [Zb];have h1:=hx ws[i].2 (Zm (Y9 hi));exact ⟨a,_,_,_,j,hc,⟨wz (o.fw _ (Y9 hi)),h1.2.2.1,h1.2.2.2⟩,h1.1,h1.2.1⟩⟩
section
variable {h0 h h':Hp} {us:List bX} {su:cz} {P:LP} {B:Nat} {usl lb:cz} {S:Nat->kz} {g b':Nat} {lb2 st sd:cz} {tw dw:List (cz × List (cz × cE))}
structure One (h0 h':Hp) (us:List bX) (P:LP) (B:Nat) (usl lb:cz) (S:Nat->kz):Prop where
 le:h0.size<=B
 pg:oH h' B P.w usl lb ((lQ us:Nat):Int) us.length (2*us.length) S
 QO:∀ n,(hn:n<us.length)->(S (2*n)).ws.map (·.2)=us[n].text.map (P.eS n)/\(S (2*n+1)).ws.map (·.2)=us[n].data.map (P.eS n)
 sz:∀ k,k<2*us.length->MH (S k)
def One.ext (b:One h0 h us P B usl lb S) (e:Ext h h'):One h0 h' us P B usl lb S:=⟨b.le,b.pg.ext e,b.QO,b.sz⟩
def wc (u:bX) (j:Nat):List cE:=if j=0 then u.text else u.data
def One.sec (b:One h0 h us P B usl lb S) {n j:Nat} (hn:n<us.length) (u:j<2):(S (2*n+j)).ws.map (·.2)=(wc us[n] j).map (P.eS n):=by
 unfold wc
 by_cases h:j=0
 ·rw [Y8 h,h]; exact (b.QO n hn).1
 ·rw [Y2 h,show j=1 from ad]; exact (b.QO n hn).2
def One.item (b:One h0 h us P B usl lb S) {n j:Nat} (hn:n<us.length) (u:j<2):tC S us.length (n:Int) (j:Int)=(wc us[n] j).map (P.eS n):=by
 unfold tC;rw [Y8 ⟨ad,ad,ad⟩];rw [show ((n:Int)).toNat=n from ad,show ((j:Int)).toNat=j from ad];exact b.sec hn u
def One.ok (b:One h0 h us P B usl lb S) {hv:Hp} {p:Xac} {l:Nat} (v:uH hv p l us) {n j:Nat} (hn:n<us.length) (J:j<2):∀ x,x∈(wc us[n] j).map (P.eS n)->x.name.size<=maxLen/\Sm x.inst.op/\x.e.ai.length<=2^60/\∀ t,t∈x.e.ai->t.1.size<=maxLen:=by
 intro x hx;obtain ⟨y,hy,rfl⟩:=Za.1 hx;have u:=b.sz (2*n+j) ad;rw [<- b.sec hn J] at hx;obtain ⟨w,hw,O⟩:=Za.1 hx;have h1:=u.U1 w hw;have h2:=u.sz w hw;rw [O] at h1 h2;obtain ⟨a,sa,sb,sc,U,X,hc,G⟩:=v.cells n hn;have hi:iT hv none 0 y\/(y.name.size<=maxLen/\Sm y.inst.op):=by
  right
  have key:∀ {q:Xac} {m:Nat} {xs:List cE},Dr hv q m xs->y∈xs->y.name.size<=maxLen/\Sm y.inst.op:=by
   intro q m xs V hm;obtain ⟨i,hi,rfl⟩:=Zu hm;obtain ⟨_,_,_,_,_,_,it⟩:=V.cells i hi;exact ⟨it.name,it.op⟩
  unfold wc at hy
  by_cases h:j=0
  ·rw [Y8 h] at hy; exact key G.text hy
  ·rw [Y2 h] at hy; exact key G.data hy
 have hi:y.name.size<=maxLen/\Sm y.inst.op:=hi.elim (fun it=>⟨it.name,it.op⟩) id;exact ⟨hi.1,hi.2,ad,h2⟩
def One.many (b:One h0 h us P B usl lb S) {n j:Nat} (hn:n<us.length) (u:j<2):(wc us[n] j).length<=2^30:=by
 have h1:=(b.sz (2*n+j) ad).len;have h2:=Zl List.length (b.sec hn u);rw [Y0,Y0] at h2;omega
def One.out (b:One h0 h us P B usl lb S) (J:us.length<=2^20) {hv:Hp} {p:Xac} {l:Nat} (v:uH hv p l us) {n j:Nat} (hn:n<us.length) (G:j<2) :
  HC Tryz.prog 22 #[ptr (B+3),.int .i64 (n:Int),.int .i64 (j:Int)] h fun w h'=>Ext h h'/\∃ t ws,w=cz.v t/\G0 h' h.size t ws/\ws.map (·.2)=(wc us[n] j).map (P.eS n)/\Dr h' t.p t.l ((wc us[n] j).map (P.eS n)):=by
 have hit:=LS b.pg (Zh _) ad (fun k hk=>⟨(b.sz k hk).len,(b.sz k hk).U1⟩) n j ad;rw [b.item hn G] at hit;refine HC.mono hit fun w h' O=>?_
 obtain ⟨e,t,ws,hw,o,hm⟩:=O;refine ⟨e,t,ws,hw,o,hm,?_⟩;have U:=b.many hn G;have u:ws.length<=2^60:=by
  have:=Zl List.length hm
  rw [Y0,Y0] at this;omega
 have:=o.vw u (by rw [hm]; exact b.ok v hn G)
 rwa [hm] at this
end
end Go.Sx.Lk
namespace Go.Sx.Pn
open Go.Proofs Go.Sx.Ob Go.Sx.Lk
def f1:Option Wh->Int | none=>0 | some q=>q.u
def f2:Option Wh->Int | none=>0 | some q=>q.s
def f3:Option Wh->Int | none=>0 | some q=>q.i
def f4:Option Wh->Int | none=>0 | some q=>q.r
def Qe (o:Option Wh):Lg o=.tuple #[.agg #[.int .i64 (f1 o),.int .i64 (f2 o),.int .i64 (f3 o),.int .i64 (f4 o)],.bool o.isSome]:=by cases o <;> rfl
def VM:Tryz.prog.underlying 25=some (.struct (yk Tryz.prog 25)):=ax
def Vb (a b c d a' b' c' d':Int):(yk Tryz.prog 25).all (Gd #[.int .i64 a,.int .i64 b,.int .i64 c,.int .i64 d] #[.int .i64 a',.int .i64 b',.int .i64 c',.int .i64 d'])=(a==a' && (b==b' && (c==c' && (d==d' && true)))):=by
 rw [<- ad9]
 kernel_rfl
def Sn (x y:Operand) (a b c d a' b' c' d':Int) (h:Hp) (K:Xab->Hp->Prop) (hk:K (.bool (a==a' && (b==b' && (c==c' && d==d')))) h) :
  aS Tryz.prog (Sx.jv (BinOp.eql) 25 x y (.agg #[.int .i64 a,.int .i64 b,.int .i64 c,.int .i64 d]) (.agg #[.int .i64 a',.int .i64 b',.int .i64 c',.int .i64 d'])) h K:=by
 refine zL VM ax ax ax K ?_;rw [Vb,af9];exact hk
def V0:Tryz.prog.underlying 31=some (.slice 3):=ax
def WH:(Tryz.prog.info? 3).map (fun i=>(i.zero,i.size,i.bytes))=some (some (.int .i64 0),1,8):=ax
def M7 (h:Hp):Prop:=∀ h',Ext h h'->HC Tryz.prog 11 #[] h' fun v h''=>v=.bool true/\Ext h' h''
def An {L:Lp} {h h1:Hp} (j:M7 h) (e1:Ext h h1):(T.call Tryz.prog 11 [] false [(false,[.bool])] fun (u:Bool)=>T.ret (.bool u)) L (fun w h'=>w=.bool true/\Ext h h') h1:=by
 refine aJ (j h1 e1) ?_;rintro _ h2 ⟨rfl,e2⟩;exact ⟨(true,()),rfl,rfl,e1.trans e2⟩
def M5 {h0 h:Hp} {us:List bX} {P:LP} {B:Nat} {usl lb:cz} {S:Nat->kz} (b:One h0 h us P B usl lb S) (u:us.length<=2^20) {hv:Hp} {p:Xac} {l:Nat} (v:uH hv p l us):∀ h',Ext h h'->∀ n j:Nat,n<us.length->j<2->HC Tryz.prog 22 #[ptr (B+3),.int .i64 (n:Int),.int .i64 (j:Int)] h' fun v h''=>Ext h' h''/\∃ t:cz,v=t.v/\Dr h'' t.p t.l (if hn:n<us.length then (wc us[n] j).map (P.eS n) else []):=by
 intro h' e n j hn G;refine HC.mono ((b.ext e).out u v hn G) fun w h'' J=>?_
 obtain ⟨e',t,ws,hw,o,hm,O⟩:=J;refine ⟨e',t,hw,?_⟩;rw [dif_pos hn];exact O
def GI (nm:Nat->Xaa) (D:List (Xaa × Xab)) (I:Nat->Nat->List cE) (u:Nat):Xm nm D I u=Ph nm D u 0 0 (I u 0)++Ph nm D u 1 0 (I u 1):=by
 unfold Xm XU;rw [show List.range 2=[0,1] from rfl]
 simp
theorem vM {α β:Type} {f g:α->List β}:∀ {l:List α},(∀ x,x∈l->f x=g x)->l.flatMap f=l.flatMap g
 | [],_=>rfl
 | x::l,h=>by
  rw [ZG,ZG,h x aj,vM fun y hy=>h y (Zd _ hy)]
def UO (D:List (Xaa × Xab)) (x:cE) (hk:x.kind=2) (j:x.inst.op=8) (N:Nat):Sq kT D N 0 0 x 1=[⟨N,0,0,1⟩]:=by
 have h1:yT kT D x (0:Nat) (1:Nat)=true:=by
  unfold yT;rw [Y8 (by rfl),hk,j];decide +kernel
 have h2:yT kT D x (0:Nat) (2:Nat)=false:=by
  unfold yT;rw [Y2 bZ,Y8 (by rfl),j,show oJ 8=false by decide +kernel]
  simp
 have h3:yT kT D x (0:Nat) (3:Nat)=false:=by
  unfold yT;rw [Y2 bZ,Y2 bZ,Y8 (by rfl),hk,j,show cS 8=2 by decide +kernel]
  simp
 have h4:yT kT D x (0:Nat) (4:Nat)=false:=by
  unfold yT;rw [Y2 bZ,Y2 bZ,Y2 bZ,Y8 (by rfl),hk] <;> rfl
 unfold Sq;rw [show List.range' 1 (5-1)=[1,2,3,4] from rfl];simp only [List.filterMap_cons,List.filterMap_nil,h1,h2,h3,h4,if_true,Bool.false_eq_true,if_false]
def Oy {D:List (Xaa × Xab)} {I J:Nat->Nat->List cE} {N M:Nat} (u:M=N+1) (h:∀ n,n<N->∀ j,j<2->J n j=I n j) {x:cE} (h0:J N 0=[x]) (h1:J N 1=[]) (hk:x.kind=2) (G:x.inst.op=8):U7 kT D J M=U7 kT D I N++[⟨N,0,0,1⟩]:=by
 subst u;unfold U7;rw [cs9,ab9]
 congr 1
 ·refine vM fun n hn=>?_
  have hn:=aw9.1 hn;rw [GI,GI,h n hn 0 ad,h n hn 1 ad]
 ·rw [ZG,List.flatMap_nil,ZQ,GI,h0,h1,Ph,Ph,Ph,UO D x hk G] <;> rfl
def KY (C:List Wh) (N:Nat):(C++[(⟨N,0,0,1⟩:Wh)]).find? (DV [1,2,3])=(C.find? (DV [1,2,3])).or (some ⟨N,0,0,1⟩):=by
 rw [bh9] <;> rfl
end Go.Sx.Pn
namespace Go.Sx.Cr
open Go.Proofs Go.MapKept Go.WideAt Go.WideMaps Go.Maps Go.RowKit Go.WideElems Go.Sort Go.Shelf
def GP {h:Hp} {q b:Nat} {D:List (Xaa × Xab)} {cs:Array Xab} {e:TypeId} {f:Nat × Nat} (Y:h[q]?=some (.cells cs e f)) (hc:cs[0]?=some (.map (some b))) (m:dW h b D) (hl:D.length<=1024) :
  HC Tryz.prog 92 #[.func (.func 117) #[] #[.pointer (some ⟨q,0,none⟩)]] h fun v h'=>∃ ss:List (List UInt8),ss.Perm (D.map fun p=>p.1.data.toList)/\(v=.slice none 0 0↔ss=[])/\Ext h h' /\
   ss.length=((ss.mergeSort fun x y=>decide (x<=y)).map encStr).length /\
   ((v=.slice none 0 0/\ss.length=0)\/∃ g cap ju,v=.slice (some ⟨g,0,none⟩) ss.length cap/\h.size<=g/\h'[g]?=some (.cells ju 9 (0,0))/\ss.length<=cap/\cap<=maxLen/\ju.size=cap*1/\ju.toList.take (ss.length*1)=(ss.mergeSort fun x y=>decide (x<=y)).map encStr):=by
 intro W Z;subst Z;obtain ⟨J,hown,G,j⟩:=dW.owns m (by unfold maxLen; omega);have ij:W.cell? ⟨q,0,none⟩=some (.map (some b)):=by
  unfold World.cell?;rw [Y];exact hc
 have O:SeqGives Fence.wide 2 Tryz.prog 117 #[.pointer (some ⟨q,0,none⟩)] encStr (fun ss=>ss.Perm (strKeys J)) (Maps.size J) W :=
  AnyZ.keys_gives (ρ:=Tryz.rb) { Tryz.CU with } Fence.wide _ trivial rfl ad q b D.length J _ (fj Y) ij hown
 have U:Maps.size J<=maxLen:=by rw [j]; unfold maxLen; omega
 have u:Maps.size J*16<=140737488355328:=by rw [j]; omega
 have:=AnyZ.sorted_in Tryz.BM Fence.wide 5 trivial trivial trivial trivial rfl ad (Tryz.EW _) (enters_of Tryz.func116 ax rfl) 117 #[.pointer (some ⟨q,0,none⟩)] trivial (enters_of Tryz.func117 ax rfl) _ _ U u _ O
 refine (callsIn_wide.1 this).mono fun e w' hr=>?_
 obtain ⟨v,ss,he,hp,V,X,hb⟩:=hr;obtain ⟨h1,h2⟩:=V;exact ⟨v,he,⟨hb.os,hb.tape,hb.output⟩,ss,hp.trans G,X,⟨hb.size,fun i hi _=>hb.block i hi⟩,by rw [h1]; simp,h2⟩
theorem wm (x:Xaa):∀ l,(DJ x l).Perm (x::l)
 | []=>List.Perm.refl _
 | y::l=>by
  unfold DJ;split
  ·exact List.Perm.refl _
  ·exact ((wm x l).cons y).trans (List.Perm.swap x y l)
theorem Aq:∀ l,(qS l).Perm l
 | []=>List.Perm.refl _
 | x::l=>(wm x (qS l)).trans ((Aq l).cons x)
theorem xX (x:Xaa):∀ l:List Xaa,(l.Pairwise fun a b=>a.data.toList<=b.data.toList)->((DJ x l).Pairwise fun a b=>a.data.toList<=b.data.toList)
 | [],_=>by simp [DJ]
 | y::l,h=>by
  rw [ao9] at h;unfold DJ;rw [Proofs.bytesLess_eq]
  by_cases j:x.data.toList<y.data.toList
  ·rw [Y6 j];have u:x.data.toList<=y.data.toList:=List.le_of_lt j;refine ao9.2 ⟨fun b hb=>?_,ao9.2 h⟩;rcases Zo.1 hb with rfl | hb
   ·exact u
   ·exact List.le_trans u (h.1 b hb)
  ·rw [Y7 j];refine ao9.2 ⟨fun b hb=>?_,xX x l h.2⟩;rcases Zo.1 ((wm x l).mem_iff.1 hb) with rfl | hb
   ·exact List.not_lt.1 j
   ·exact h.1 b hb
theorem uv:∀ l,(qS l).Pairwise fun a b=>a.data.toList<=b.data.toList
 | []=>List.Pairwise.nil
 | x::l=>xX x _ (uv l)
def HO {ss:List (List UInt8)} {ks:List Xaa} (j:ss.Perm (ks.map fun k=>k.data.toList)):(ss.mergeSort fun x y=>decide (x<=y)).map encStr=(qS ks).map Value.string:=by
 have h1:ss.mergeSort (fun x y=>decide (x<=y))=(qS ks).map fun k=>k.data.toList:=by
  have u:∀ a b c:List UInt8,decide (a<=b)=true->decide (b<=c)=true->decide (a<=c)=true:=fun a b c h1 h2=>by simp only [decide_eq_true_eq] at *; exact List.le_trans h1 h2
  have to:∀ a b:List UInt8,(decide (a<=b) || decide (b<=a))=true:=fun a b=>by simp only [Bool.or_eq_true,decide_eq_true_eq]; exact List.le_total a b
  refine List.Perm.eq_of_pairwise (le:=fun a b=>decide (a<=b)=true) (fun a b _ _ h1 h2=>?_) (List.pairwise_mergeSort u to ss) ?_ ((List.mergeSort_perm ss _).trans (j.trans ((Aq ks).map _).symm))
  ·simp only [decide_eq_true_eq] at h1 h2;exact List.le_antisymm h1 h2
  ·rw [Z3];exact (uv ks).imp fun h=>by simpa using h
 rw [h1,Zv];refine ZM fun k _=>?_
 show encStr k.data.toList=.string k;unfold encStr
 congr 1
noncomputable def Ya (O7:List Xab):Cx:=⟨Tryz.prog,105,105,0,92,117,153,3,fun | 0=>some O7 | _=>none⟩
def T6:Tryz.prog.cellsOf 9=1:=ax
def Ua (O7:List Xab):Ok (Ya O7) where
 kt k hk:=by
  have hk:(Nat.beq k 105 || Nat.beq k 105)=true:=hk;rw [Bool.or_eq_true] at hk;have e:k=105:=hk.elim Zf Zf;subst e;exact Ob.Xc
 ki k hk:=by cases (show false=true from hk)
 idx x n h K hk:=by
  show aS Tryz.prog (HF 153 #[.string x,.int .u8 n]) h K;refine FE (e:=Extern.BytealgIndexByte.indexByte) Tryz.func153 SU RW Se SH ?_;rw [qI];exact hk
 Sl h q b D cs e f hq hc m hl:=by
  show HC Tryz.prog 92 #[.func (.func 117) #[] #[.pointer (some ⟨q,0,none⟩)]] h _;refine HC.mono (GP hq hc m hl) fun v h' hr=>?_
  obtain ⟨ss,Z,u,G,hlen,J⟩:=hr;refine ⟨G,?_⟩;have j:ss.length=D.length:=by rw [Z.length_eq]; simp
  cases D with
  | nil =>
   have:ss=[]:=Z4 (by rw [j]; rfl)
   exact u.2 this
  | cons p D =>
   rcases J with ⟨_,h0⟩ | ⟨g,cap,ju,hv,hg,O,X,U,Y,V⟩
   ·rw [j] at h0; simp at h0
   ·have hk:=HO (ss:=ss) (ks:=(p::D).map (·.1)) (by rw [Zv]; exact Z);rw [hk] at V;refine ⟨g,ju.toList.drop ss.length,cap,hg,by rw [<- j]; exact hv,by unfold maxLen at U; omega,?_,by rw [<- j]; exact X,?_⟩
    ·have h9:ju.toList.length=cap*1:=by rw [aa9]; exact Y
     rw [show (Ya O7).P.cellsOf 9=1 from T6,Z2,h9,<- j]; omega
    ·unfold bF;rw [O,<- V,Nat.mul_one,ZL]
def opsV:List Xab:=Ob.jc Ob.kT Ob.uh
noncomputable def cx:Cx:=Ya opsV
def Mu:Ok cx:=Ua opsV
def Ke:opsV.all (fE 9)=true:=ax
def Sh {h:Hp} (j:∃ e f,h[0]?=some (.cells opsV.toArray e f)):∀ b c,cx.ro b=some c->b<cx.ng/\∃ cs e f,h[b]?=some (.cells cs e f)/\∀ (i:Nat) (v:Xab),c[i]?=some v->cs[i]?=some v/\fE 9 v=true:=by
 obtain ⟨e,f,j⟩:=j;intro b c hb;cases b with
 | succ b=>cases (show none=some c from hb)
 | zero =>
  cases (show some opsV=some c from hb);refine ⟨show 0<3 from ad,opsV.toArray,e,f,j,fun i v hv=>⟨by rw [br9]; exact hv,?_⟩⟩;exact Zx.1 Ke v (ZR hv)
open Go.Proofs
noncomputable def RV:Code:=Tryz.f11.body.getD .skip
noncomputable def YH:CS:=⟨oW cx.ng .nil,cx.ng⟩
def OD:Tryz.f11.body=some RV:=ax
def Pv:Ox cx (RI cx 60) Tryz.f11 (.bool true) RV .nil YH=true:=ax
def LN {h:Hp} (j:∃ e f,h[0]?=some (.cells opsV.toArray e f)):HC Tryz.prog 11 #[] h fun v h'=>v=.bool true/\Ext h h' :=
 Nt (C:=cx) Tryz.func11 OD fun e' a u g=>Pq Mu mixed (HV Mu mixed 60) rfl Pv _ e' a h (Ct (Sh j)) u g
open Go.Proofs Go.Sx.Ob
section
variable {C:Cx} {h0 h:Hp} {ρ:gn} {σ:dK AO}
def Up (n:Nat) (h h2:Hp):Prop:=∀ i,n<=i->i<h.size->h2[i]?=h[i]?
theorem Fo {n g off:Nat} {h h2:Hp} (u:Up n h h2) (j:n<=g):∀ (r:List Xab) (i:Nat),aI h ⟨g,off,none⟩ i r->aI h2 ⟨g,off,none⟩ i r
 | [],_,_=>trivial
 | v::r,i,hc=>by
  have h1:=hc.1;refine ⟨?_,Fo u j r (i+1) hc.2⟩;rw [aE] at h1 ⊢;unfold ij at h1 ⊢
  by_cases hl:g<h.size
  ·rw [u g j hl];exact h1
  ·rw [show h[(Addr.mk g (off+i) none).block]?=none from ZT (by show h.size<=g; omega)] at h1;cases h1
def UJ (R:Rel C h0 ρ σ h) {b off l c m:Nat} {cs:List Xab} {e:TypeId} {v':Xab} (hv:VR ρ (.slice (some ⟨b,off,none⟩) l c) v') (hb:σ.get b=some (.row cs e m)) (O:m≠2) {xs:List cE} (hl:l=xs.length) (hm:xs.length<=2^60)
  (hc:∀ i,(hi:i<xs.length)->∃ q m' c',Eh (off+i*10) 10 cs=some (encI q m' c' xs[i])/\∀ w,VR ρ (.slice q m' c') w->∃ u G,w=.slice u m' G/\∀ j,Up h0.size h j->iT j u m' xs[i]) :
  ∃ q c',v'=.slice q l c'/\∀ j,Up h0.size h j->Dr j q l xs:=by
 cases hv with
 | sl off l Y Z hle =>
  rename_i pl c';have J:h0.size<=pl.cr:=by
   obtain ⟨_,_,_,_,z,_⟩:=R.row hb Y;exact (z O).2
  refine ⟨_,_,rfl,fun j up=>⟨hl,hm,fun i hi=>?_⟩⟩;obtain ⟨q,m',U,V,hw⟩:=hc i hi;obtain ⟨r',h1,h2⟩:=Mv R hb Y _ _ V;generalize xs[i]=x at h1 hw;have h3:∃ u G,r'=encI u m' G x/\∀ j,Up h0.size h j->iT j u m' x:=by
   replace h1:dS ρ [.int .i64 x.kind,.string x.name,.int .i64 x.inst.op,.int .i64 x.inst.a,.int .i64 x.inst.b,.int .i32 x.inst.n,.int .i64 x.inst.form,.slice q m' U,.int .u32 x.e.num,.int .i64 x.n] r':=h1
   cases h1 with
   | cons a1 h1 =>
   cases h1 with
   | cons a2 h1 =>
   cases h1 with
   | cons a3 h1 =>
   cases h1 with
   | cons a4 h1 =>
   cases h1 with
   | cons a5 h1 =>
   cases h1 with
   | cons a6 h1 =>
   cases h1 with
   | cons a7 h1 =>
   cases h1 with
   | cons a8 h1 =>
   cases h1 with
   | cons a9 h1 =>
   cases h1 with
   | cons X h1 =>
   cases h1;obtain ⟨u,G,rfl,it⟩:=hw _ a8;cases a1; cases a2; cases a3; cases a4; cases a5; cases a6; cases a7; cases a9; cases X;exact ⟨u,G,rfl,it⟩
  obtain ⟨u,G,rfl,it⟩:=h3;refine ⟨_,u,m',G,rfl,?_,it j up⟩;rw [aE,show pl.sh+off+i*10=pl.sh+(off+i*10) from ad];exact Fo up J _ _ h2
def C8 {v':Xab} (hv:VR ρ (.slice none 0 0) v'):v'=.slice none 0 0:=by
 cases hv;rfl
def Ry {x:cE} (j:x.e.ai=[]) (hn:x.name.size<=maxLen) (J:Sm x.inst.op) (w:Xab) (hw:VR ρ (.slice none 0 0) w):∃ G O,w=.slice G 0 O/\∀ u,Up h0.size h u->iT u G 0 x:=by
 rw [C8 hw];refine ⟨none,0,rfl,fun u _=>⟨⟨⟨by rw [j]; rfl,fun i hi=>by rw [j] at hi; simp at hi⟩,by rw [j]; simp,by rw [j]; simp⟩,hn,J⟩⟩
end
def sJ:Xaa:=⟨#[106,114,32,114,48]⟩
def xJ:cE:=⟨2,⟨#[]⟩,⟨8,0,0,0,0⟩,⟨[],0⟩,0⟩
def uJ:bX:=⟨[xJ],[],[],[]⟩
noncomputable def Yn:CS:=⟨oW cx.ng .nil,cx.ng⟩
noncomputable def rJ:VS:=RI cx 60 17 [.string sJ] Yn
def Xv:List Xab:=encI none 0 0 xJ
def MV:rJ.map (fun r=>(r.1,r.2.σ.get 36))=some (.tuple #[.agg #[.slice (some ⟨36,0,none⟩) 1 1208925819614629174706176,.slice none 0 0,.slice none 0 0,.slice none 0 0],.agg #[.int .i64 0,.int .i64 0]],some (.row Xv 71 1)):=ax
def NM {h:Hp} (Y:∃ e f,h[0]?=some (.cells opsV.toArray e f)):HC Tryz.prog 17 #[.string sJ] h fun v h'=>Ext h h'/\∃ a b c d,v=.tuple #[CP a b c d,.agg #[.int .i64 0,.int .i64 0]]/\∀ X,Up h.size h' X->oB X a b c d uJ:=by
 cases J:rJ with
 | none=>have:=MV; rw [J] at this; cases this
 | some r =>
  obtain ⟨v,s1⟩:=r;have O:=MV;rw [J] at O;simp only [Option.map_some,Option.some.injEq,Prod.mk.injEq] at O;obtain ⟨hv,U⟩:=O;have hc:=HV (h0:=h) Mu mixed 60 17 [.string sJ] Yn v s1 J _ h [.string sJ] (Ct (Sh Y)) (.cons (.string _) .nil);refine HC.mono hc fun v' h' V=>?_
  obtain ⟨ρ1,_,R,u⟩:=V;refine ⟨R.Su,?_⟩;rw [hv] at u;cases u with
  | tuple G =>
  cases G with
  | cons t1 G =>
  cases G with
  | cons t2 G =>
  cases G;cases t2 with
  | agg j =>
  cases j with
  | cons Z j =>
  cases j with
  | cons i2 j =>
  cases j;cases Z; cases i2;cases t1 with
  | agg hl =>
  cases hl with
  | cons a1 hl =>
  cases hl with
  | cons a2 hl =>
  cases hl with
  | cons a3 hl =>
  cases hl with
  | cons a4 hl =>
  cases hl;obtain rfl:=C8 a2;obtain rfl:=C8 a3;obtain rfl:=C8 a4;obtain ⟨q,c',rfl,vi⟩:=UJ R a1 U bZ (xs:=uJ.text) rfl bZ (fun i hi=>by
   match i,hi with
   | 0,_=>exact ⟨none,0,0,ax,Ry rfl (by show 0<=_; omega) (by unfold Sm; show _<=(8:Int)/\(8:Int)<=_; omega)⟩)
  exact ⟨⟨q,1,c'⟩,⟨none,0,0⟩,⟨none,0,0⟩,⟨none,0,0⟩,rfl,fun V up=>⟨vi V up,⟨rfl,bZ,fun i hi=>absurd hi (by simp [uJ])⟩,⟨rfl,bZ,fun i hi=>absurd hi (by simp [uJ])⟩,⟨rfl,bZ,fun i hi=>absurd hi (by simp [uJ])⟩⟩⟩
end Go.Sx.Cr
namespace Go.Sx.Lk
open Go.Proofs Go.Sx.Ob
def KT (h:Hp) (u:bX) (ys:List Xab):Prop:=∃ sa sb sc sd:cz,ys=[sa.v,sb.v,sc.v,sd.v]/\oB h sa sb sc sd u
def OF {h:Hp} {p:Xac} {l:Nat} {us:List bX} (v:uH h p l us):∃ xs:List (List Xab),xs.length=us.length/\(∀ y,y∈xs->y.length=4)/\((p=none/\xs=[])\/∃ a,p=some a/\aI h a 0 xs.flatten)/\∀ i,(hi:i<us.length)->(hx:i<xs.length)->KT h us[i] xs[i]:=by
 cases p with
 | none =>
  have:us=[]:=by
   cases us with
   | nil=>rfl
   | cons u us =>
    obtain ⟨a,_,_,_,_,G,_⟩:=v.cells 0 aj;cases G
  subst this;exact ⟨[],rfl,aj,.inl ⟨rfl,rfl⟩,fun i hi=>absurd hi aj⟩
 | some a =>
  obtain ⟨xs,hl,hx⟩:=mH (fun (u:bX) (y:List Xab)=>y.length=4/\KT h u y/\True) us (fun i hi=>by
   obtain ⟨a',sa,sb,sc,sd,G,hc,hu⟩:=v.cells i hi;exact ⟨[sa.v,sb.v,sc.v,sd.v],rfl,⟨sa,sb,sc,sd,rfl,hu⟩,trivial⟩)
  clear hx hl xs;obtain ⟨xs,hl,hx⟩:=mH (fun (iu:Nat × bX) (y:List Xab)=>y.length=4/\KT h iu.2 y/\aI h (a.add (iu.1*4)) 0 y) ((List.range us.length).zip us) (fun i hi=>by
   have J:i<us.length:=by simpa using hi
   obtain ⟨a',sa,sb,sc,sd,G,hc,hu⟩:=v.cells i J;cases G;refine ⟨[sa.v,sb.v,sc.v,sd.v],rfl,⟨sa,sb,sc,sd,rfl,?_⟩,?_⟩
   ·simpa using hu
   ·simpa using hc)
  have O:xs.length=us.length:=by simpa using hl
  have key:∀ i,(hi:i<us.length)->(hx:i<xs.length)->xs[i].length=4/\KT h us[i] xs[i]/\aI h (a.add (i*4)) 0 xs[i]:=by
   intro i hi j
   have:=hx i (by simpa using hi) j
   simpa using this
  have h4:∀ y,y∈xs->y.length=4:=by
   intro y hy;obtain ⟨i,hi,rfl⟩:=Zu hy;exact (key i ad hi).1
  refine ⟨xs,O,h4,.inr ⟨a,rfl,?_⟩,fun i hi j=>(key i hi j).2.1⟩
  have:=fR (h:=h) (a:=a) (sz:=4) xs 0 h4 (fun i hi=>by
   rw [ZJ];exact (key i ad hi).2.2)
  rwa [ck9] at this
def UT {h:Hp} {b:Nat} {e:TypeId} {p:Xac} {l c:Nat} {xs:List (List Xab)} {us:List bX} (s:SL h b e 4 p l c xs) (hl:xs.length=us.length) (hm:us.length<=2^60) (hx:∀ i,(hi:i<us.length)->(j:i<xs.length)->KT h us[i] xs[i]):uH h p l us :=
 ⟨by have:=s.1; omega,hm,fun i hi=>by
  obtain ⟨a,u,hc⟩:=SL.cells s (i:=i) ad;obtain ⟨sa,sb,sc,sd,e,hu⟩:=hx i hi ad;rw [e] at hc;exact ⟨a,sa,sb,sc,sd,u,hc,hu⟩⟩
def KT.ak {h h':Hp} {u:bX} {ys:List Xab} (c:KT h u ys) (e:Ext h h'):KT h' u ys:=by
 obtain ⟨sa,sb,sc,sd,rfl,hu⟩:=c;exact ⟨sa,sb,sc,sd,rfl,hu.ak e⟩
def KT.plain {h:Hp} {u:bX} {ys:List Xab} (c:KT h u ys):ys.all cO=true:=by
 obtain ⟨sa,sb,sc,sd,rfl,hu⟩:=c;rfl
def Dx:Tryz.prog.underlying 30=some (.slice 47):=ax
def IU:(Tryz.prog.info? 47).map (fun i=>(i.zero,i.size,i.bytes))=some (some (.agg #[.slice none 0 0,.slice none 0 0,.slice none 0 0,.slice none 0 0]),4,96):=ax
def Ho {h:Hp} {us:List bX} {xs:List (List Xab)} (hl:xs.length=us.length) (hx:∀ i,(hi:i<us.length)->(j:i<xs.length)->KT h us[i] xs[i]):xs.flatten.all cO=true:=by
 rw [Zx];intro v hv;obtain ⟨y,hy,hv⟩:=by9.1 hv;obtain ⟨i,hi,rfl⟩:=Zu hy;exact Zx.1 (hx i ad hi).plain v hv
open Cr in
def OQ:dL uJ=0:=ax
open Cr in
def K0:cv uJ=[⟨[],0⟩]:=rfl
open Cr in
def TU:∀ x,x∈cv uJ->∀ t,t∈x.ai->t.1∈eN uJ:=by
 intro x hx t j;rw [K0,Zi] at hx;subst hx;simp at j
open Cr in
def UP:∀ x,x∈cv uJ->x.num<4294967296/\∀ t,t∈x.ai->t.2<4294967296:=by
 intro x hx;rw [K0,Zi] at hx;subst hx;exact ⟨bZ,fun t j=>by simp at j⟩
def Rn {u:bX} (h:dL u=0):u.aU.length<=u.text.length+u.data.length+u.bh.length:=by
 have h1:=(wM h).2;have h0:=h1;unfold tA at h1;simp only [Bool.and_eq_true] at h1;have hn:u.aU.Nodup:=((qN _ _ _ h1.2).2).imp fun h=>jD h
 have h2:=jO u.aU (eN u) hn (D4 h);unfold eN at h2;rw [Y4,Y4,Y0] at h2;have j:∀ l:List cE,(dX l).length<=l.length:=by
  intro l;unfold dX;rw [Y0];exact Z8 _ _
 have:=j u.text
 have:=j u.data
 omega
def Kj {us:List bX} (j:∀ u,u∈us->dL u=0) (G:us.length<=64) (hl:mS us=false):oM us<=1800:=by
 have h1:fP us<=900:=by
  unfold mS at hl;rw [Bool.or_eq_false_iff] at hl
  have:=Zc hl.2
  rw [Zy ad] at this;omega
 have key:∀ vs:List bX,(∀ u,u∈vs->dL u=0)->oM vs<=2*fP vs:=by
  intro vs
  induction vs with
  | nil=>intro _; simp [oM,fP]
  | cons u vs J =>
   intro hv;have h1:=J fun w hw=>hv w (Zd _ hw)
   have h2:=Rn (hv u aj);unfold oM fP Fj at *;rw [ZF,ZU,ZF,ZU];omega
 have:=key us j
 omega
open Cr in
def Pm {us:List bX} (sm:Gj us) (J:3*((us.flatMap cv).flatMap (·.ai)).length<=2^20) (j:∀ u,u∈us->dL u=0) (G:us.length<64) (hl:mS us=false):Gj (us++[uJ]):=by
 have h1:=Kj j ad hl;refine ⟨by rw [Y4,List.length_singleton]; omega,?_,fun u hu=>?_,?_⟩
 ·unfold oM at *;rw [Ze,cp9];show _+(1+0+0+0+0)<=_;omega
 ·rcases Zk.1 hu with hu | hu
  ·exact sm.num u hu
  ·rw [Zi.1 hu];exact UP
 ·rw [ab9,ab9,Y4];show _+0<=_;omega
end Go.Sx.Lk
namespace Go.Sx.Pn
open Go.Proofs Go.Sx.Ob Go.Sx.Lk
def V4:Tryz.prog.underlying 54=some (.struct (yk Tryz.prog 54)):=ax
def Wr (a b:Int) (s:Xaa) (a' b':Int) (s':Xaa):(yk Tryz.prog 54).all (Gd #[.int .i64 a,.int .i64 b,.string s] #[.int .i64 a',.int .i64 b',.string s'])=(a==a' && (b==b' && (s==s' && true))):=by
 rw [<- ad9]
 kernel_rfl
def VC (x y:Operand) (a b:Int) (s:Xaa) (a' b':Int) (s':Xaa) (h:Hp) (K:Xab->Hp->Prop) (hk:K (.bool !(a==a' && (b==b' && s==s'))) h) :
  aS Tryz.prog (Sx.jv (BinOp.neq) 54 x y (.agg #[.int .i64 a,.int .i64 b,.string s]) (.agg #[.int .i64 a',.int .i64 b',.string s'])) h K:=by
 refine uy V4 ax ax ax K ?_;rw [Wr,af9];exact hk
def GM {L:Lp} {K:Xab->Hp->Prop} {h:Hp} {t1 t2:T} (h1:t1 L K h) (h2:t2 L K h):T.all [t1,t2] L K h:=⟨h1,h2,trivial⟩
def WC {L:Lp} {K:Xab->Hp->Prop} {h:Hp} {t1 t2 t3:T} (h1:t1 L K h) (h2:t2 L K h) (h3:t3 L K h):T.all [t1,t2,t3] L K h:=⟨h1,h2,h3,trivial⟩
inductive Yi where
 | N
 | A (p:Xac) (l c:Nat)
 | B (p:Xac) (l c:Nat)
 | D (p:Xac) (l c:Nat)
 | E (B':Nat)
structure Ask (hb:Hp) (xs:List (List Xab)) (y:List Xab) (su:cz) (Q:Nat->Hp->Prop):Prop where
 src:(su.p=none/\xs=[])\/∃ a,su.p=some a/\aI hb a 0 xs.flatten
 len:su.l=xs.length
 wid:∀ z,z∈xs->z.length=4
 pl:xs.flatten.all cO=true
 XQ:y.length=4
 YO:y.all cO=true
 Ye:su.l<=64
 link:∀ (h:Hp) (p:Xac) (c:Nat),Ext hb h->SL h hb.size 47 4 p (su.l+1) c (xs++[y])->HC Tryz.prog 18 #[.slice p (su.l+1) c] h fun v h'=>Ext h h'/\∃ B',v=.tuple #[.pointer (some ⟨B'+3,0,none⟩),.agg #[.int .i64 0,.int .i64 0,.string ⟨#[]⟩]]/\Q B' h'
 ak:∀ B' h h',Ext h h'->Q B' h->Q B' h'
structure St (hb:Hp) (xs:List (List Xab)) (y:List Xab) (su:cz) (Q:Nat->Hp->Prop) (h:Hp) (S:Yi) (C:Option (Xac × Nat × Nat)) (F:Option Nat):Prop where
 ask:Ask hb xs y su Q
 e:Ext hb h
 s:match S with
  | .N=>True
  | .A p l c=>SL h hb.size 47 4 p l c []/\l=0
  | .B p l c=>SL h hb.size 47 4 p l c xs/\l=su.l
  | .D p l c=>SL h hb.size 47 4 p l c (xs++[y])/\l=su.l+1
  | .E B'=>Q B' h
 c:∀ p l c,C=some (p,l,c)->l=1/\∃ a,p=some a/\a.block<h.size/\aI h a 0 y/\hb.size<=a.block/\(∀ p' l' c',S=.A p' l' c'->a.block∉aM p')
 f:∀ g,F=some g->bF h g 54 [.int .i64 0,.int .i64 0,.string ⟨#[]⟩]/\hb.size<=g
section
variable {hb h:Hp} {xs:List (List Xab)} {y:List Xab} {su:cz} {Q:Nat->Hp->Prop} {S:Yi} {C:Option (Xac × Nat × Nat)} {F:Option Nat} {L:Lp} {K:Xab->Hp->Prop}
def MO {b:Nat} {e:TypeId} {sz:Nat} {p:Xac} {l c:Nat} {zs:List (List Xab)} (s:SL h b e sz p l c zs):∀ i,i∈aM p->i<h.size/\∃ ys,bF h i e ys:=by
 intro i hi;cases p with
 | none=>cases hi
 | some a =>
  obtain ⟨g,u,rest,rfl,G,J,j,O⟩:=s.2.2
  have:i=g:=Zi.1 hi
  subst this;exact ⟨j.lt,_,j⟩
def M9 {g:Nat} {e e':TypeId} {ys zs:List Xab} (a:bF h g e ys) (b:bF h g e' zs) (j:e≠e'):False:=by
 have:=Zn (Eq.trans (Eq.symm a) b)
 injection this with _ h2
 exact j h2
def St.ext (st:St hb xs y su Q h S C F) {h':Hp} (e:Ext h h'):St hb xs y su Q h' S C F:=by
 refine ⟨st.ask,st.e.trans e,?_,fun p l c hc=>?_,fun g j=>?_⟩
 ·have:=st.s
  cases S with
  | N=>trivial
  | A p l c=>exact ⟨this.1.bM e aj,this.2⟩
  | B p l c=>exact ⟨this.1.bM e aj,this.2⟩
  | D p l c=>exact ⟨this.1.bM e aj,this.2⟩
  | E B'=>exact st.ask.ak _ _ _ e this
 ·obtain ⟨h1,a,h2,h3,h4,h5,h6⟩:=st.c p l c hc
  have:=e.size
  exact ⟨h1,a,h2,ad,aT e aj _ _ h4,h5,h6⟩
 ·exact ⟨(st.f g j).1.ak e aj,(st.f g j).2⟩
def YV {k:Xac->Nat->Nat->T} (st:St hb xs y su Q h .N C F) (hk:∀ p l c h',St hb xs y su Q h' (.A p l c) C F->k p l c L K h'):T.eh Tryz.prog (Instr.buildSlice 30 0 #[]) false [(false,[.slice 0])] k L K h:=by
 refine Il Dx IU ?_;intro h2 G e2;have j:=st.ext e2;refine hk _ _ _ h2 ⟨st.ask,j.e,⟨G.mono st.e.size,rfl⟩,fun p l c hc=>?_,j.f⟩;obtain ⟨h1,a,u,h3,h4,h5,h6⟩:=st.c p l c hc;obtain ⟨_,a',J,O,U,_,_⟩:=j.c p l c hc;obtain rfl:=Zn (u.symm.trans J);refine ⟨h1,a,u,O,U,h5,fun p' l' c' hs=>?_⟩;cases hs;show a.block∉[h.size]
 simp
 omega
def Xe {k:Xac->Nat->Nat->T} {p:Xac} {l c:Nat} (st:St hb xs y su Q h (.A p l c) C F) (hk:∀ p' l' c' h',St hb xs y su Q h' (.B p' l' c') C F->k p' l' c' L K h'):T.eh Tryz.prog (Builtin.append_ #[30,30] 30 #[.slice p l c,.slice su.p su.l su.c]) false [(false,[.slice 0])] k L K h:=by
 have ss:=st.s.1;have U:=st.s.2;have J:=st.ask.Ye;have cr:=MO ss;refine r9 (z:=.agg #[.slice none 0 0,.slice none 0 0,.slice none 0 0,.slice none 0 0]) (sz:=4) (by':=96) Dx IU rfl ss (ys:=xs) (st.ask.src.imp id fun ⟨a,V,hc⟩=>⟨a,V,aT st.e aj _ _ hc⟩) st.ask.len st.ask.wid st.ask.pl ad ad st.e.size ?_;intro p3 c3 h3 O j;rw [aq9] at O;have X:Ext hb h3:=Ch.trans st.e j (fun i hi hl=>by have:=(ss.cr hi).1; omega);have z3:=j.size;refine hk _ _ _ h3 ⟨st.ask,X,⟨O,ad⟩,fun p' l' c' hc=>?_,fun g Y=>?_⟩
 ·obtain ⟨h1,a,h2,Z,h4,h5,h6⟩:=st.c p' l' c' hc;exact ⟨h1,a,h2,ad,aT j (h6 _ _ _ rfl) _ _ h4,h5,fun _ _ _ hs=>by cases hs⟩
 ·obtain ⟨b,u⟩:=st.f g Y;refine ⟨b.ak j fun hi=>?_,u⟩;obtain ⟨_,ys,G⟩:=cr g hi;exact M9 b G bZ
def YX {k:Xac->Nat->Nat->T} {a b c d:cz} (hy:y=[a.v,b.v,c.v,d.v]) (st:St hb xs y su Q h S none F) (hk:∀ p l c h',St hb xs y su Q h' S (some (p,l,c)) F->k p l c L K h') :
  T.eh Tryz.prog (Instr.buildSlice 30 1 #[(0,.agg #[.slice a.p a.l a.c,.slice b.p b.l b.c,.slice c.p c.l c.c,.slice d.p d.l d.c])]) false [(false,[.slice 0])] k L K h:=by
 refine km (cells:=[a.v,b.v,c.v,d.v]) Dx IU bZ bZ ax ?_;intro h2 G e2 z2;have j:=st.ext e2;have u:=st.e.size;refine hk _ _ _ h2 ⟨st.ask,j.e,j.s,fun p l c hc=>?_,j.f⟩;cases hc;refine ⟨rfl,_,rfl,by show h.size<_; omega,by rw [hy]; exact G.cells _ rfl,u,fun p' l' c' hs=>?_⟩;subst hs;intro hi
 have:=(MO st.s.1 _ hi).1
 have:h.size<h.size:=this
 omega
def YA {k:Xac->Nat->Nat->T} {p q:Xac} {l c m d:Nat} (st:St hb xs y su Q h (.B p l c) (some (q,m,d)) F) (hk:∀ p' l' c' h',St hb xs y su Q h' (.D p' l' c') none F->k p' l' c' L K h'):T.eh Tryz.prog (Builtin.append_ #[30,30] 30 #[.slice p l c,.slice q m d]) false [(false,[.slice 0])] k L K h:=by
 have ss:=st.s.1;have O:=st.s.2;have J:=st.ask.Ye;have cr:=MO ss;obtain ⟨h1,a,h2,U,h4,h5,h6⟩:=st.c q m d rfl;refine r9 (z:=.agg #[.slice none 0 0,.slice none 0 0,.slice none 0 0,.slice none 0 0]) (sz:=4) (by':=96) Dx IU rfl ss (ys:=[y]) (.inr ⟨a,h2,by simpa using h4⟩) (by rw [h1]; rfl) (fun z V=>by rw [Zi.1 V]; exact st.ask.XQ) (by simpa using st.ask.YO) ad ad st.e.size ?_;intro p3 c3 h3 X j;have Y:Ext hb h3:=Ch.trans st.e j (fun i hi hl=>by have:=(ss.cr hi).1; omega);have z3:=j.size;refine hk _ _ _ h3 ⟨st.ask,Y,⟨X,ad⟩,fun p' l' c' hc=>(by cases hc),fun g Z=>?_⟩;obtain ⟨b,u⟩:=st.f g Z;refine ⟨b.ak j fun hi=>?_,u⟩;obtain ⟨_,ys,G⟩:=cr g hi;exact M9 b G bZ
def YY {k:Xax->T} (st:St hb xs y su Q h S C none) (hk:∀ g h',St hb xs y su Q h' S C (some g)->k ⟨g,0,none⟩ L K h'):T.new [.int .i64 (0:Int),.int .i64 (0:Int),.string ⟨#[]⟩] 54 k L K h:=by
 refine bm ?_;intro h2 G e2 z2;have j:=st.ext e2;have u:=st.e.size;exact hk _ h2 ⟨st.ask,j.e,j.s,j.c,fun g J=>by cases J; exact ⟨G,u⟩⟩
def YB {k:Xac->Int->Int->Xaa->T} {p:Xac} {l c:Nat} (st:St hb xs y su Q h (.D p l c) C F) (hk:∀ B' h',St hb xs y su Q h' (.E B') none F->k (some ⟨B'+3,0,none⟩) 0 0 ⟨#[]⟩ L K h'):T.call Tryz.prog 18 [.slice p l c] true [(false,[.pointer 92]),(true,[.int .i64,.int .i64,.string])] k L K h:=by
 obtain ⟨ss,rfl⟩:=st.s;refine aJ (st.ask.link h p c st.e ss) ?_;rintro _ h2 ⟨e2,B',rfl,u⟩;have j:=st.ext e2;exact ⟨(some ⟨B'+3,0,none⟩,(0:Int),(0:Int),⟨#[]⟩,()),rfl,hk B' h2 ⟨st.ask,j.e,u,fun p l c hc=>(by cases hc),j.f⟩⟩
structure Bx (hb:Hp) (xs:List (List Xab)) (y:List Xab) (su:cz) (Q:Nat->Hp->Prop) (gu:Nat) (a b c d:cz):Prop where
 hy:y=[a.v,b.v,c.v,d.v]
 bu:bF hb gu 47 y
section
variable {gu:Nat} {a b c d:cz} (bx:Bx hb xs y su Q gu a b c d)
include bx
def Vz {t:T} (st:St hb xs y su Q h S C F) (j:t L K h):T.bi [(⟨gu,0,none⟩,y)] t L K h :=
 ⟨⟨(bx.bu.ak st.e aj).cells _ (by rw [bx.hy]; rfl),trivial⟩,j⟩
def Xd {k:Xac->Nat->Nat->T} (st:St hb xs y su Q h .N C F) (hk:∀ p l c h',St hb xs y su Q h' (.A p l c) C F->k p l c L K h'):W7 ⟨gu,0,none⟩ y k L K h :=
 YV st fun p l c h' s=>Vz bx s (hk p l c h' s)
def Xf {k:Xac->Nat->Nat->T} {p:Xac} {l e:Nat} (st:St hb xs y su Q h (.A p l e) C F) (hk:∀ p l c h',St hb xs y su Q h' (.B p l c) C F->k p l c L K h'):U' su.p su.l su.c ⟨gu,0,none⟩ y p l e k L K h :=
 Xe st fun p l c h' s=>Vz bx s (hk p l c h' s)
def UY {k:Xac->Nat->Nat->T} (st:St hb xs y su Q h S none F) (hk:∀ p l c h',St hb xs y su Q h' S (some (p,l,c)) F->k p l c L K h'):RR y k L K h:=by
 have:=YX bx.hy st hk
 unfold RR bU dh;rw [bx.hy];exact this
def Yp {k:Xac->Nat->Nat->T} {p q:Xac} {l e m n:Nat} (st:St hb xs y su Q h (.B p l e) (some (q,m,n)) F) (hk:∀ p l c h',St hb xs y su Q h' (.D p l c) none F->k p l c L K h'):XH ⟨gu,0,none⟩ y p l e q m n k L K h :=
 YA st fun p l c h' s=>Vz bx s (hk p l c h' s)
def Ys {k:Xac->Int->Int->Xaa->T} {p:Xac} {l e:Nat} (st:St hb xs y su Q h (.D p l e) C F) (hk:∀ B' h',St hb xs y su Q h' (.E B') none F->k (some ⟨B'+3,0,none⟩) 0 0 ⟨#[]⟩ L K h'):XP ⟨gu,0,none⟩ y p l e k L K h :=
 YB st fun B' h' s=>Vz bx s (hk B' h' s)
def RO {k:Xax->T} (st:St hb xs y su Q h S C none) (hk:∀ g h',St hb xs y su Q h' S C (some g)->k ⟨g,0,none⟩ L K h'):Rl ⟨gu,0,none⟩ y k L K h :=
 YY st fun g h' s=>Vz bx s (hk g h' s)
variable {o:Xac} (fin:∀ (B' g:Nat) (h':Hp),Ext hb h'->bF h' g 54 [.int .i64 0,.int .i64 0,.string ⟨#[]⟩]->Q B' h'->Xi o su.l (some ⟨B'+3,0,none⟩) ⟨g,0,none⟩ L K h')
include fin
def Wu {g B':Nat} (st:St hb xs y su Q h (.E B') C (some g)):TM o su.l ⟨g,0,none⟩ (some ⟨B'+3,0,none⟩) 0 0 ⟨#[]⟩ L K h:=by
 have J:=bx.hy;obtain ⟨b,U⟩:=st.f g rfl;refine ar b rfl aj ?_;intro h4 u G z4;have u:bF h4 g 54 [.int .i64 0,.int .i64 0,.string ⟨#[]⟩]:=u;have O:Ext h h4:=⟨G.size,fun i hi _=>by
  by_cases e:i=g
  ·subst e;exact Eq.trans u (Eq.symm b)
  ·exact G.same i hi (by simpa using e)⟩
 have j:=st.ext O;exact fin B' g h4 j.e u j.s
def We {g:Nat} {p:Xac} {l e:Nat} (st:St hb xs y su Q h (.D p l e) C (some g)):T4 o su.l ⟨gu,0,none⟩ y ⟨g,0,none⟩ p l e L K h :=
 Ys bx st fun B' h' s=>Wu bx fin s
def XD {p:Xac} {l e:Nat} (st:St hb xs y su Q h (.D p l e) C none):Vn o su.l ⟨gu,0,none⟩ y p l e L K h :=
 GM (Ys bx st fun B' h' s=>RO bx s fun g h'' s=>Wu bx fin s) (RO bx st fun g h' s=>We bx fin s)
def S4 {g:Nat} {p q:Xac} {l e m n:Nat} (st:St hb xs y su Q h (.B p l e) (some (q,m,n)) (some g)):Rq o su.l ⟨gu,0,none⟩ y ⟨g,0,none⟩ p l e q m n L K h :=
 Yp bx st fun p l c h' s=>We bx fin s
def WZ {p q:Xac} {l e m n:Nat} (st:St hb xs y su Q h (.B p l e) (some (q,m,n)) none):UM o su.l ⟨gu,0,none⟩ y p l e q m n L K h :=
 GM (Yp bx st fun p l c h' s=>XD bx fin s) (RO bx st fun g h' s=>S4 bx fin s)
def Vp {g:Nat} {p:Xac} {l e:Nat} (st:St hb xs y su Q h (.B p l e) none (some g)):UC o su.l ⟨gu,0,none⟩ y ⟨g,0,none⟩ p l e L K h :=
 UY bx st fun q m n h' s=>S4 bx fin s
def XZ {p:Xac} {l e:Nat} (st:St hb xs y su Q h (.B p l e) none none):WY o su.l ⟨gu,0,none⟩ y p l e L K h :=
 GM (UY bx st fun q m n h' s=>WZ bx fin s) (RO bx st fun g h' s=>Vp bx fin s)
def Uk {g:Nat} {p q:Xac} {l e m n:Nat} (st:St hb xs y su Q h (.A p l e) (some (q,m,n)) (some g)):PL o su.p su.l su.c ⟨gu,0,none⟩ y ⟨g,0,none⟩ p l e q m n L K h :=
 Xf bx st fun p l c h' s=>S4 bx fin s
def WM {p q:Xac} {l e m n:Nat} (st:St hb xs y su Q h (.A p l e) (some (q,m,n)) none):TL o su.p su.l su.c ⟨gu,0,none⟩ y p l e q m n L K h :=
 GM (Xf bx st fun p l c h' s=>WZ bx fin s) (RO bx st fun g h' s=>Uk bx fin s)
def V6 {g:Nat} {p:Xac} {l e:Nat} (st:St hb xs y su Q h (.A p l e) none (some g)):Tq o su.p su.l su.c ⟨gu,0,none⟩ y ⟨g,0,none⟩ p l e L K h :=
 GM (Xf bx st fun p l c h' s=>Vp bx fin s) (UY bx st fun q m n h' s=>Uk bx fin s)
def XC {p:Xac} {l e:Nat} (st:St hb xs y su Q h (.A p l e) none none):VT o su.p su.l su.c ⟨gu,0,none⟩ y p l e L K h :=
 WC (Xf bx st fun p l c h' s=>XZ bx fin s) (UY bx st fun q m n h' s=>WM bx fin s) (RO bx st fun g h' s=>V6 bx fin s)
def Vl {g:Nat} {q:Xac} {m n:Nat} (st:St hb xs y su Q h .N (some (q,m,n)) (some g)):S8 o su.p su.l su.c ⟨gu,0,none⟩ y ⟨g,0,none⟩ q m n L K h :=
 Xd bx st fun p l c h' s=>Uk bx fin s
def Xq {q:Xac} {m n:Nat} (st:St hb xs y su Q h .N (some (q,m,n)) none):Wd o su.p su.l su.c ⟨gu,0,none⟩ y q m n L K h :=
 GM (Xd bx st fun p l c h' s=>WM bx fin s) (RO bx st fun g h' s=>Vl bx fin s)
def Yb {g:Nat} (st:St hb xs y su Q h .N none (some g)):Wm o su.p su.l su.c ⟨gu,0,none⟩ y ⟨g,0,none⟩ L K h :=
 GM (Xd bx st fun p l c h' s=>V6 bx fin s) (UY bx st fun q m n h' s=>Vl bx fin s)
def XM (st:St hb xs y su Q h .N none none):VV o su.p su.l su.c ⟨gu,0,none⟩ y L K h :=
 WC (Xd bx st fun p l c h' s=>XC bx fin s) (UY bx st fun q m n h' s=>Xq bx fin s) (RO bx st fun g h' s=>Yb bx fin s)
end
end
section
variable {L:Lp} {K:Xab->Hp->Prop} {h:Hp} {k:Xac->Nat->Nat->T}
def JN (hk:∀ h' p l c,O9 h' p l [1,2,3]->Ext h h'->k p l c L K h'):T.eh Tryz.prog (Instr.buildSlice 31 3 #[(0,.int .i64 (1:Int)),(1,.int .i64 (2:Int)),(2,.int .i64 (3:Int))]) false [(false,[.slice 0])] k L K h:=by
 refine km (cells:=[.int .i64 1,.int .i64 2,.int .i64 3]) V0 WH bZ bZ ax ?_;intro h2 j e2 z2;refine hk h2 _ _ _ ⟨rfl,bZ,fun i hi=>⟨_,rfl,?_⟩⟩ e2;rw [aE]
 match i,hi with
 | 0,_=>exact j.cells _ rfl
 | 1,_=>exact j.cells _ rfl
 | 2,_=>exact j.cells _ rfl
end
def B7 (o:Option Wh):Xab:=.tuple #[.agg #[.int .i64 (f1 o),.int .i64 (f2 o),.int .i64 (f3 o),.int .i64 (f4 o)],.bool (!o.isSome)]
def Ri {h:Hp} {B:Nat} {p:Xac} {l c:Nat} {o:Option Wh} (any:∀ h',Ext h h'->HC Tryz.prog 10 #[ptr (B+3),.slice p l c] h' fun v h''=>Ext h' h''/\v=Lg o):HC Tryz.prog 19 #[ptr (B+3),.slice p l c] h fun v h'=>Ext h h'/\v=B7 o:=by
 refine bd (args:=[ptr (B+3),.slice p l c]) mixed Tryz.func19 ax (yp (some ⟨B+3,0,none⟩) p l c) ?_;unfold uD bK bn cn;refine bm ?_;intro h1 b1 e1 z1;refine aJ (any h1 e1) ?_;rintro _ h2 ⟨e2,rfl⟩;rw [Qe];refine ⟨(f1 o,f2 o,f3 o,f4 o,o.isSome,()),rfl,an ?_⟩;refine bm ?_;intro h3 V X z3;refine ar V rfl aj ?_;intro h4 G Y z4;have G:bF h4 h2.size 25 [.int .i64 (f1 o),.int .i64 (f2 o),.int .i64 (f3 o),.int .i64 (f4 o)]:=G;have J:Ext h2 h4:=bR X Y;have j:=e2.trans J;refine af G (f1 o,f2 o,f3 o,f4 o,()) rfl (an ?_);have u:=b1.ak j aj;cases hs:o.isSome with
 | false =>
  refine bC rfl ?_;refine ar u rfl aj ?_;intro h6 O U Z;refine af O (f1 o,f2 o,f3 o,f4 o,()) rfl ?_;exact ⟨bR (e1.trans j) U,by unfold B7; rw [hs]⟩
 | true =>
  refine bP rfl ?_;refine ar u rfl aj ?_;intro h6 O U Z;refine af O (f1 o,f2 o,f3 o,f4 o,()) rfl ?_;exact ⟨bR (e1.trans j) U,by unfold B7; rw [hs]; rfl⟩
section
variable {h:Hp} {B:Nat} {A:List Int->Option Wh} (any:∀ (h':Hp),Ext h h'->∀ (p:Xac) (l c:Nat) (rs:List Int),O9 h' p l rs->HC Tryz.prog 10 #[ptr (B+3),.slice p l c] h' fun v h''=>Ext h' h''/\v=Lg (A rs))
include any
def qZ:HC Tryz.prog 8 #[ptr (B+3)] h fun v h'=>Ext h h'/\v=B7 (A [1,2,3]):=by
 refine bd (args:=[ptr (B+3)]) mixed Tryz.func8 ax (wV (some ⟨B+3,0,none⟩)) ?_;unfold sU bK br bn cn;refine bm ?_;intro h1 b1 e1 z1;refine JN ?_;intro h2 p l c v2 e2;have j:=e1.trans e2;refine aJ (Ri fun h' e=>any h' (j.trans e) p l c _ (v2.ak e)) ?_;rintro _ h3 ⟨u,rfl⟩;generalize A [1,2,3]=o;refine ⟨(f1 o,f2 o,f3 o,f4 o,!o.isSome,()),rfl,an ?_⟩;refine ar ((b1.ak e2 aj).ak u aj) rfl aj ?_;intro h6 G J O;refine af G (f1 o,f2 o,f3 o,f4 o,()) rfl ?_;exact ⟨bR (j.trans u) J,rfl⟩
end
end Go.Sx.Pn
