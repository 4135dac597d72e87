/- Part of the framework. No condition. -/
import Derived.Test.YthbffkdafjboiaaGreatDoorSxJf
set_option linter.all false
set_option maxHeartbeats 4000000
namespace Go.Sx.Cr
section
variable {C:Cx} {h0:Hp} {ρ:gF} {s s1:CS} {h:Hp} {e:Ev} {e':Env} {L:Lp} {K:Xab->Hp->Prop} {kk:Xab->T}
def Np (R:Rel C h0 ρ s.σ h) (d:ER ρ e e') {c a b:Operand} {v:Xab} (hx:Nt C e s c a b=some (v,s1)) (P:oy C h0 ρ s1 v kk L K) :
  (bY e' c fun c=>match c with
  | .bool b'=>cond b' (bY e' a kk) (bY e' b kk)
  | _=>T.fail) L K h:=by
 unfold Nt at hx;obtain ⟨u,hu,hx⟩:=Yt.1 hx;obtain ⟨G,g1,_,g2⟩:=bS R d hu;rw [g2];split at hx
 ·cases g1;obtain ⟨h1,rfl⟩:=dW.1 hx;obtain ⟨v',j,_,F⟩:=bS R d h1;simp only [cond_true];rw [F];exact P.here R j
 ·cases g1;obtain ⟨h1,rfl⟩:=dW.1 hx;obtain ⟨v',j,_,F⟩:=bS R d h1;simp only [cond_false];rw [F];exact P.here R j
 ·cases hx
def HN (O:Ok C) {call:fY} (F:nT C h0 call) (R:Rel C h0 ρ s.σ h) {t:TypeId} {f:FuncId} {vs vs':List Xab} {v:Xab} (hv:dS ρ vs vs') (hx:Hx C call t s f vs=some (v,s1)) (P:oy C h0 ρ s1 v kk L K) :
  CM C.P f vs' t kk L K h:=by
 unfold Hx at hx;unfold CM;cases j:fK C.P f with
 | true =>
  rw [j] at hx;simp only at hx ⊢;obtain ⟨h1,h2⟩:=ue.1 hx;cases hs:Nat.beq f C.SU with
  | true =>
   rw [hs] at h1;obtain rfl:f=C.SU:=YL hs;exact Dc (H8 O R hv h1) h2 P
  | false =>
   rw [hs] at h1;exact Dc (F f vs s v s1 h1 ρ h vs' R hv) h2 P
 | false =>
  rw [j] at hx;simp only at hx ⊢;obtain ⟨hi,d⟩:=bF.1 hx;clear hx;obtain rfl:f=C.idx:=YL hi;obtain ⟨h1,h2⟩:=ue.1 d;clear d;obtain ⟨h3,rfl⟩:=dW.1 h1;clear h1;unfold My at h3;split at h3
  ·cases h3;cases hv with
   | cons G hv =>
   cases hv with
   | cons a2 hv =>
   cases hv; cases G; cases a2;obtain ⟨y,u⟩:=vZ (.int (ρ:=ρ) _ _) h2;refine O.idx _ _ h _ ⟨y,u,?_⟩;rw [dI,<- u];exact P.here R (.int _ _)
  ·cases h3
def KP {call:fY} (G:nT C h0 call) (R:Rel C h0 ρ s.σ h) {t:TypeId} {g F:Xab} {vs vs':List Xab} {v:Xab} (J:VR ρ g F) (hv:dS ρ vs vs') (hx:NN C call t s g vs=some (v,s1)) (P:oy C h0 ρ s1 v kk L K) :
  T.tH C.P F vs' (lf C.P t).1 (lf C.P t).2 (jv _ fun l=>kk (rv (lf C.P t).1 (lf C.P t).2 l)) L K h:=by
 unfold NN at hx;split at hx
 ·rename_i f X ca;obtain ⟨d,hx⟩:=bF.1 hx;obtain ⟨h1,h2⟩:=ue.1 hx;cases J with
  | @func _ _ j _ u O U =>
  refine ⟨f,⟨j⟩,⟨u⟩,rfl,?_,?_⟩
  ·have:=Dc (t:=t) (kk:=kk) (L:=L) (K:=K) (G f _ s v s1 h1 ρ h (j++vs'++u) R ((O.append hv).append U)) h2 P
   exact this
  ·unfold fK at d;split at d
   ·rename_i fn V;simp only [Bool.and_eq_true,Bool.not_eq_true',beq_eq_false_iff_ne] at d;exact ⟨fn,V,d.1,d.2⟩
   ·cases d
 ·cases hx
def F9 (R:Rel C h0 ρ s.σ h) {b:Builtin} {t:TypeId} {c:Call} {vs vs':List Xab} {v:Xab} (hv:dS ρ vs vs') (hx:zG C b t c vs s=some (v,s1)) (P:oy C h0 ρ s1 v kk L K) :
  rI C.P b c t vs' kk L K h:=by
 unfold zG at hx;split at hx
 ·obtain ⟨u,hu,hx⟩:=Yt.1 hx;obtain ⟨d,hs⟩:=dW.1 hx;subst hs;obtain ⟨F,rfl,j⟩:=IN hv hu;obtain ⟨g1,g2⟩:=PW (t:=t) R j d;exact g2 kk L K (P.here R g1)
 ·exact G2 R hv hx P
 ·obtain ⟨d,hs⟩:=dW.1 hx;subst hs;obtain ⟨g1,g2⟩:=QA (h:=h) (ts:=c.argTypes) hv d;exact g2 kk L K (P.here R g1)
 ·cases hx
def NY (O:Ok C) {call:fY} (F:nT C h0 call) (R:Rel C h0 ρ s.σ h) (d:ER ρ e e') {t:TypeId} {c:Call} {v:Xab} (hx:Pw C call e s t c=some (v,s1)) (P:oy C h0 ρ s1 v kk L K) (o:Oper) (G:o.op=.call c) (J:o.type=t) :
  uH C.P o e' kk L K h:=by
 unfold Pw at hx;obtain ⟨vs,ec,hx⟩:=Yt.1 hx;obtain ⟨vs',g1,g2⟩:=jK R d ec;unfold uH;rw [G];simp only;obtain ⟨callee,args,argTypes⟩:=c;simp only at hx g2 ⊢;subst J;cases callee with
 | builtin b =>
  simp only at hx ⊢;rw [g2];exact F9 R g1 hx P
 | value g =>
  cases g with
  | func f =>
   simp only [Fg] at hx ⊢;obtain ⟨w,j,U,u⟩:=bS R d (x:=.func f) (v:=.func (.func f) #[] #[]) rfl;rw [u,g2];cases j with
   | func f V X =>
   cases V; cases X;simp only [List.nil_append,List.append_nil];exact HN O F R g1 hx P
  | tmp t =>
   simp only [Fg] at hx ⊢;obtain ⟨g,Y,hx⟩:=Yt.1 hx;obtain ⟨w,j,U,u⟩:=bS R d (x:=.tmp t) Y;rw [u,g2];exact KP F R j g1 hx P
  | const _=>cases hx
  | global _=>cases hx
 | invoke _ _=>cases hx
def GY (O:Ok C) {call:fY} (CO:nT C h0 call) (R:Rel C h0 ρ s.σ h) (F:ER ρ e e') {o:Oper} {v:Xab} (hx:Vi C call o e s=some (v,s1)) (P:oy C h0 ρ s1 v kk L K):uH C.P o e' kk L K h:=by
 unfold Vi at hx;cases Y:o.op <;> simp only [Y] at hx <;> first
  | (cases hx; done)
  | (exact NY O CO R F hx P o Y rfl)
  | (unfold uH; simp only [Y])
  | skip
 case move x =>
  obtain ⟨j,hs⟩:=dW.1 hx;subst hs;clear hx;have hx:=j;obtain ⟨v',g1,_,g2⟩:=bS R F hx;rw [g2]; exact P.here R g1
 case assign x =>
  obtain ⟨j,hs⟩:=dW.1 hx;subst hs;clear hx;have hx:=j;obtain ⟨v',g1,_,g2⟩:=bS R F hx;rw [g2]; exact P.here R g1
 case pick c a b=>exact Np R F hx P
 case alloc t =>
  obtain ⟨z,hz,hx⟩:=Yt.1 hx;obtain ⟨zv,h1,rfl,h2⟩:=AN hz;simp only [h1];exact DG R (h2 ρ) hx P
 case box t x =>
  obtain ⟨u,hu,hx⟩:=Yt.1 (show (kA C e x).bind _=some (v,s1) from hx);obtain ⟨g,hg,hx⟩:=Yt.1 hx;obtain ⟨l,hl,hx3⟩:=Yt.1 hx;obtain ⟨u',g1,_,g2⟩:=bS R F hu;rw [g2];obtain ⟨G,l',hl1,hl2⟩:=tT g1 hl;subst hl2;cases g with
  | true=>simp only [hg,G,cond_true]; exact DG R hl1 hx3 P
  | false=>simp only [hg,G,cond_false]; exact DG R hl1 hx3 P
 case build t ps =>
  obtain ⟨vs,ec,hx⟩:=Yt.1 (show (zY C e _).bind _=some (v,s1) from hx);obtain ⟨j,hs⟩:=dW.1 hx;subst hs;clear hx;have hx:=j;obtain ⟨vs',g1,g2⟩:=jK R F ec;rw [g2];obtain ⟨v',U,V⟩:=Kc (h:=h) (PR.zip (ps.toList.map (·.1)) g1) hx;exact V kk L K (P.here R U)
 case buildSlice t n ps =>
  obtain ⟨vs,ec,hx⟩:=Yt.1 (show (zY C e _).bind _=some (v,s1) from hx);obtain ⟨vs',g1,g2⟩:=jK R F ec;rw [g2];exact Qo R (PR.zip (ps.toList.map (·.1)) g1) hx P
 case load t x =>
  obtain ⟨u,hu,hx⟩:=Yt.1 (show (kA C e x).bind _=some (v,s1) from hx);obtain ⟨⟨b,off,l,w⟩,hl,hx⟩:=Yt.1 hx;cases hx;obtain ⟨u',g1,_,g2⟩:=bS R F hu;rw [g2];obtain ⟨pl,l',w',k1,k2,k3,k4,k5⟩:=Ac R g1 hl;exact k5 (fun _ _ v=>kk v) L K (P.here R k3)
 case store t x y =>
  obtain ⟨p,hp,hx⟩:=Yt.1 (show (kA C e x).bind _=some (v,s1) from hx);obtain ⟨u,hu,hx⟩:=Yt.1 hx;obtain ⟨s2,hs,hx⟩:=Yt.1 hx;cases hx;obtain ⟨p',g1,_,g2⟩:=bS R F hp;obtain ⟨u',U,_,V⟩:=bS R F hu;rw [g2,V];exact KX R g1 U hs fun h1 R1=>P ρ undef h1 (Le.refl _) R1 ot
 case nilCheck x =>
  obtain ⟨u,hu,hx⟩:=Yt.1 (show (kA C e x).bind _=some (v,s1) from hx);obtain ⟨j,hs⟩:=dW.1 hx;subst hs;clear hx;have hx:=j;obtain ⟨u',g1,_,g2⟩:=bS R F hu;rw [g2];unfold notNil at hx;split at hx
  ·cases hx;cases g1 with
   | ptr off X=>exact P.here R (.ptr off X)
  ·cases hx
 case binOp op t x y yt =>
  obtain ⟨a,G,hx⟩:=Yt.1 (show (kA C e x).bind _=some (v,s1) from hx);obtain ⟨b,X,hx⟩:=Yt.1 hx;obtain ⟨j,hs⟩:=dW.1 hx;subst hs;clear hx;have hx:=j;obtain ⟨a',g1,_,g2⟩:=bS R F G;obtain ⟨b',U,_,V⟩:=bS R F X;rw [g2,V];obtain ⟨J,g6⟩:=Rz (h:=h) g1 U hx;exact g6 kk L K (P.here R J)
 case unOp op t x =>
  obtain ⟨a,G,hx⟩:=Yt.1 (show (kA C e x).bind _=some (v,s1) from hx);obtain ⟨j,hs⟩:=dW.1 hx;subst hs;clear hx;have hx:=j;obtain ⟨a',g1,_,g2⟩:=bS R F G;rw [g2];have J:=(O0 (L:=[]) (K:=fun _ _=>True) (h:=h) (kk:=fun _ _ _ _=>True) g1 hx trivial).2;exact (O0 g1 hx (P.here R J)).1
 case convert a d x =>
  obtain ⟨u,hu,hx⟩:=Yt.1 (show (kA C e x).bind _=some (v,s1) from hx);obtain ⟨j,hs⟩:=dW.1 hx;subst hs;clear hx;have hx:=j;obtain ⟨u',g1,_,g2⟩:=bS R F hu;rw [g2];have J:=(EB (L:=[]) (K:=fun _ _=>True) (h:=h) (kk:=fun _ _ _ _=>True) g1 hx trivial).2;exact (EB g1 hx (P.here R J)).1
 case makeFunc fn fi ca =>
  cases fn <;> first | (cases hx; done) | skip
  rename_i f;obtain ⟨a,G,hx⟩:=Yt.1 (show (zY C e fi.toList).bind _=some (v,s1) from hx);obtain ⟨c,hc,hx⟩:=Yt.1 hx;cases hx;obtain ⟨a',g1,g2⟩:=jK R F G;obtain ⟨c',U,V⟩:=jK R F hc;rw [g2,V];exact P.here R (.func f g1 U)
 case makeMap t r =>
  cases r with
  | some _=>cases hx
  | none=>exact KH R hx P
 case makeSlice t l c =>
  obtain ⟨a,G,hx⟩:=Yt.1 (show (kA C e l).bind _=some (v,s1) from hx);obtain ⟨b,X,hx⟩:=Yt.1 hx;obtain ⟨a',g1,_,g2⟩:=bS R F G;obtain ⟨b',U,_,V⟩:=bS R F X;rw [g2,V];exact FE R g1 U hx P
 case lookup t m x ok =>
  obtain ⟨a,G,hx⟩:=Yt.1 (show (kA C e m).bind _=some (v,s1) from hx);obtain ⟨b,X,hx⟩:=Yt.1 hx;obtain ⟨j,hs⟩:=dW.1 hx;subst hs;clear hx;have hx:=j;obtain ⟨a',g1,_,g2⟩:=bS R F G;obtain ⟨b',U,_,V⟩:=bS R F X;rw [g2,V];obtain ⟨v',J,g6⟩:=OF O R g1 U hx;exact g6 kk L K (P.here R J)
 case mapUpdate t m x y =>
  obtain ⟨a,G,hx⟩:=Yt.1 (show (kA C e m).bind _=some (v,s1) from hx);obtain ⟨b,X,hx⟩:=Yt.1 hx;obtain ⟨c,hc,hx⟩:=Yt.1 hx;obtain ⟨s2,hs,hx⟩:=Yt.1 hx;cases hx;obtain ⟨a',g1,_,g2⟩:=bS R F G;obtain ⟨b',U,_,V⟩:=bS R F X;obtain ⟨c',J,_,g6⟩:=bS R F hc;rw [g2,V,g6];exact QD O R g1 U J hs fun h1 R1=>P ρ undef h1 (Le.refl _) R1 ot
 case slice t x lo hi mx =>
  obtain ⟨a,G,hx⟩:=Yt.1 (show (kA C e x).bind _=some (v,s1) from hx);obtain ⟨vs,ec,hx⟩:=Yt.1 hx;obtain ⟨j,hs⟩:=dW.1 hx;subst hs;clear hx;have hx:=j;obtain ⟨a',g1,_,g2⟩:=bS R F G;obtain ⟨vs',U,V⟩:=jK R F ec;rw [g2,V];obtain ⟨v',J,g6⟩:=U3 (h:=h) g1 U hx;exact g6 kk L K (P.here R J)
 case fieldAddr t x f =>
  obtain ⟨a,G,hx⟩:=Yt.1 (show (kA C e x).bind _=some (v,s1) from hx);obtain ⟨j,hs⟩:=dW.1 hx;subst hs;clear hx;have hx:=j;obtain ⟨a',g1,_,g2⟩:=bS R F G;rw [g2];obtain ⟨v',J,g6⟩:=GA (h:=h) g1 hx;exact g6 kk L K (P.here R J)
 case field t x f =>
  obtain ⟨a,G,hx⟩:=Yt.1 (show (kA C e x).bind _=some (v,s1) from hx);obtain ⟨cs,hcs,hx⟩:=Yt.1 hx;obtain ⟨fd,hfd,hx⟩:=Yt.1 hx;obtain ⟨Z,hs⟩:=dW.1 hx;subst hs;obtain ⟨a',g1,_,g2⟩:=bS R F G;rw [g2]
  have:=uX.1 hcs
  subst this;have hx:=Z;obtain ⟨fs,hd,hf⟩:=Lu hfd;cases g1 with
  | agg hl =>
  obtain ⟨v',J,g6⟩:=N3 (h:=h) hl hx;simp only [hd,hf];exact g6 kk L K (P.here R J)
 case indexAddr t x i =>
  obtain ⟨a,G,hx⟩:=Yt.1 (show (kA C e x).bind _=some (v,s1) from hx);obtain ⟨b,X,hx⟩:=Yt.1 hx;obtain ⟨j,hs⟩:=dW.1 hx;subst hs;clear hx;have hx:=j;obtain ⟨a',g1,_,g2⟩:=bS R F G;obtain ⟨b',U,_,V⟩:=bS R F X;rw [g2,V];obtain ⟨v',J,g6⟩:=MG (h:=h) g1 U hx;exact g6 kk L K (P.here R J)
 case index t x i =>
  obtain ⟨a,G,hx⟩:=Yt.1 (show (kA C e x).bind _=some (v,s1) from hx);obtain ⟨b,X,hx⟩:=Yt.1 hx;obtain ⟨j,hs⟩:=dW.1 hx;subst hs;clear hx;have hx:=j;obtain ⟨a',g1,_,g2⟩:=bS R F G;obtain ⟨b',U,_,V⟩:=bS R F X;rw [g2,V];obtain ⟨J,g6⟩:=P6 (h:=h) g1 U hx;exact g6 kk L K (P.here R J)
 case extract x i =>
  obtain ⟨a,G,hx⟩:=Yt.1 (show (kA C e x).bind _=some (v,s1) from hx);obtain ⟨vs,ec,hx⟩:=Yt.1 hx;obtain ⟨Z,hs⟩:=dW.1 hx;subst hs;obtain ⟨a',g1,_,g2⟩:=bS R F G;rw [g2]
  have:=EA.1 ec
  subst this;have hx:=Z;cases g1 with
  | tuple hl =>
  obtain ⟨v',J,g6⟩:=hl.get hx;simp only [J];exact P.here R g6
end
end Go.Sx.Cr
