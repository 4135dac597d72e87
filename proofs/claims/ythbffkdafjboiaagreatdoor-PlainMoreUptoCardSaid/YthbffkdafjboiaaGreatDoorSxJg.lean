/- Part of the framework. No condition. -/
import Derived.Test.YthbffkdafjboiaaGreatDoorSxJf
set_option linter.all false
set_option maxHeartbeats 4000000
namespace Go.Sx.Cr
section
variable {C:Cx} {h0:Hp} {ρ:gn} {s s1:CS} {h:Hp} {e:Ev} {e':Env} {L:Lp} {K:Xab->Hp->Prop} {kk:Xab->T}
def MW (R:Rel C h0 ρ s.σ h) (j:ER ρ e e') {c a b:Operand} {v:Xab} (hx:M0 C e s c a b=some (v,s1)) (P:nV C h0 ρ s1 v kk L K) :
  (cg e' c fun c=>match c with
  | .bool b'=>cond b' (cg e' a kk) (cg e' b kk)
  | _=>T.fail) L K h:=by
 unfold M0 at hx;obtain ⟨u,hu,hx⟩:=YZ.1 hx;obtain ⟨O,g1,_,g2⟩:=bS R j hu;rw [g2];split at hx
 ·cases g1;obtain ⟨h1,rfl⟩:=dY.1 hx;obtain ⟨v',G,_,J⟩:=bS R j h1;simp only [cond_true];rw [J];exact P.here R G
 ·cases g1;obtain ⟨h1,rfl⟩:=dY.1 hx;obtain ⟨v',G,_,J⟩:=bS R j h1;simp only [cond_false];rw [J];exact P.here R G
 ·cases hx
def Hx (O:Ok C) {call:gd} (u:nv C h0 call) (R:Rel C h0 ρ s.σ h) {t:TypeId} {f:FuncId} {vs vs':List Xab} {v:Xab} (hv:dS ρ vs vs') (hx:Hh C call t s f vs=some (v,s1)) (P:nV C h0 ρ s1 v kk L K) :
  Cs C.P f vs' t kk L K h:=by
 unfold Hh at hx;unfold Cs;cases hb:fL C.P f with
 | true =>
  rw [hb] at hx;simp only at hx ⊢;obtain ⟨h1,h2⟩:=tP.1 hx;cases hs:Nat.beq f C.Sl with
  | true =>
   rw [hs] at h1;obtain rfl:f=C.Sl:=Zf hs;exact CV (HS O R hv h1) h2 P
  | false =>
   rw [hs] at h1;exact CV (u f vs s v s1 h1 ρ h vs' R hv) h2 P
 | false =>
  rw [hb] at hx;simp only at hx ⊢;obtain ⟨hi,j⟩:=bq.1 hx;clear hx;obtain rfl:f=C.idx:=Zf hi;obtain ⟨h1,h2⟩:=tP.1 j;clear j;obtain ⟨h3,rfl⟩:=dY.1 h1;clear h1;unfold L9 at h3;split at h3
  ·cases h3;cases hv with
   | cons G hv =>
   cases hv with
   | cons a2 hv =>
   cases hv; cases G; cases a2;obtain ⟨y,hy⟩:=vH (.int (ρ:=ρ) _ _) h2;refine O.idx _ _ h _ ⟨y,hy,?_⟩;rw [dG,<- hy];exact P.here R (.int _ _)
  ·cases h3
def Kx {call:gd} (J:nv C h0 call) (R:Rel C h0 ρ s.σ h) {t:TypeId} {g G:Xab} {vs vs':List Xab} {v:Xab} (O:VR ρ g G) (hv:dS ρ vs vs') (hx:Nl C call t s g vs=some (v,s1)) (P:nV C h0 ρ s1 v kk L K) :
  T.tj C.P G vs' (kU C.P t).1 (kU C.P t).2 (ju _ fun l=>kk (rv (kU C.P t).1 (kU C.P t).2 l)) L K h:=by
 unfold Nl at hx;split at hx
 ·rename_i f Y ca;obtain ⟨hb,hx⟩:=bq.1 hx;obtain ⟨h1,h2⟩:=tP.1 hx;cases O with
  | @func _ _ j _ u U V =>
  refine ⟨f,⟨j⟩,⟨u⟩,rfl,?_,?_⟩
  ·have:=CV (t:=t) (kk:=kk) (L:=L) (K:=K) (J f _ s v s1 h1 ρ h (j++vs'++u) R ((U.append hv).append V)) h2 P
   exact this
  ·unfold fL at hb;split at hb
   ·rename_i fn X;simp only [Bool.and_eq_true,Bool.not_eq_true',beq_eq_false_iff_ne] at hb;exact ⟨fn,X,hb.1,hb.2⟩
   ·cases hb
 ·cases hx
def FT (R:Rel C h0 ρ s.σ h) {b:Builtin} {t:TypeId} {c:Call} {vs vs':List Xab} {v:Xab} (hv:dS ρ vs vs') (hx:zC C b t c vs s=some (v,s1)) (P:nV C h0 ρ s1 v kk L K) :
  rk C.P b c t vs' kk L K h:=by
 unfold zC at hx;split at hx
 ·obtain ⟨u,hu,hx⟩:=YZ.1 hx;obtain ⟨j,hs⟩:=dY.1 hx;subst hs;obtain ⟨J,rfl,G⟩:=Iy hv hu;obtain ⟨g1,g2⟩:=Pt (t:=t) R G j;exact g2 kk L K (P.here R g1)
 ·exact GN R hv hx P
 ·obtain ⟨j,hs⟩:=dY.1 hx;subst hs;obtain ⟨g1,g2⟩:=P7 (h:=h) (ts:=c.argTypes) hv j;exact g2 kk L K (P.here R g1)
 ·cases hx
def Nx (O:Ok C) {call:gd} (J:nv C h0 call) (R:Rel C h0 ρ s.σ h) (j:ER ρ e e') {t:TypeId} {c:Call} {v:Xab} (hx:O1 C call e s t c=some (v,s1)) (P:nV C h0 ρ s1 v kk L K) (o:Oper) (U:o.op=.call c) (V:o.type=t) :
  uq C.P o e' kk L K h:=by
 unfold O1 at hx;obtain ⟨vs,ef,hx⟩:=YZ.1 hx;obtain ⟨vs',g1,g2⟩:=jH R j ef;unfold uq;rw [U];simp only;obtain ⟨callee,args,argTypes⟩:=c;simp only at hx g2 ⊢;subst V;cases callee with
 | builtin b =>
  simp only at hx ⊢;rw [g2];exact FT R g1 hx P
 | value g =>
  cases g with
  | func f =>
   simp only [EQ] at hx ⊢;obtain ⟨w,u,X,G⟩:=bS R j (x:=.func f) (v:=.func (.func f) #[] #[]) rfl;rw [G,g2];cases u with
   | func f Y Z =>
   cases Y; cases Z;simp only [List.nil_append,List.append_nil];exact Hx O J R g1 hx P
  | tmp t =>
   simp only [EQ] at hx ⊢;obtain ⟨g,hg,hx⟩:=YZ.1 hx;obtain ⟨w,u,X,G⟩:=bS R j (x:=.tmp t) hg;rw [G,g2];exact Kx J R u g1 hx P
  | const _=>cases hx
  | global _=>cases hx
 | invoke _ _=>cases hx
def GH (O:Ok C) {call:gd} (CO:nv C h0 call) (R:Rel C h0 ρ s.σ h) (G:ER ρ e e') {o:Oper} {v:Xab} (hx:U4 C call o e s=some (v,s1)) (P:nV C h0 ρ s1 v kk L K):uq C.P o e' kk L K h:=by
 unfold U4 at hx;cases Y:o.op <;> simp only [Y] at hx <;> first
  | (cases hx; done)
  | (exact Nx O CO R G hx P o Y rfl)
  | (unfold uq; simp only [Y])
  | skip
 case move x =>
  obtain ⟨j,hs⟩:=dY.1 hx;subst hs;clear hx;have hx:=j;obtain ⟨v',g1,_,g2⟩:=bS R G hx;rw [g2]; exact P.here R g1
 case assign x =>
  obtain ⟨j,hs⟩:=dY.1 hx;subst hs;clear hx;have hx:=j;obtain ⟨v',g1,_,g2⟩:=bS R G hx;rw [g2]; exact P.here R g1
 case pick c a b=>exact MW R G hx P
 case alloc t =>
  obtain ⟨z,hz,hx⟩:=YZ.1 hx;obtain ⟨zv,h1,rfl,h2⟩:=Aw hz;simp only [h1];exact Dn R (h2 ρ) hx P
 case box t x =>
  obtain ⟨u,hu,hx⟩:=YZ.1 (show (ko C e x).bind _=some (v,s1) from hx);obtain ⟨g,hg,hx⟩:=YZ.1 hx;obtain ⟨l,hl,hx3⟩:=YZ.1 hx;obtain ⟨u',g1,_,g2⟩:=bS R G hu;rw [g2];obtain ⟨J,l',hl1,hl2⟩:=tE g1 hl;subst hl2;cases g with
  | true=>simp only [hg,J,cond_true]; exact Dn R hl1 hx3 P
  | false=>simp only [hg,J,cond_false]; exact Dn R hl1 hx3 P
 case build t ps =>
  obtain ⟨vs,ef,hx⟩:=YZ.1 (show (zQ C e _).bind _=some (v,s1) from hx);obtain ⟨j,hs⟩:=dY.1 hx;subst hs;clear hx;have hx:=j;obtain ⟨vs',g1,g2⟩:=jH R G ef;rw [g2];obtain ⟨v',V,X⟩:=JP (h:=h) (PR.zip (ps.toList.map (·.1)) g1) hx;exact X kk L K (P.here R V)
 case buildSlice t n ps =>
  obtain ⟨vs,ef,hx⟩:=YZ.1 (show (zQ C e _).bind _=some (v,s1) from hx);obtain ⟨vs',g1,g2⟩:=jH R G ef;rw [g2];exact PX R (PR.zip (ps.toList.map (·.1)) g1) hx P
 case load t x =>
  obtain ⟨u,hu,hx⟩:=YZ.1 (show (ko C e x).bind _=some (v,s1) from hx);obtain ⟨⟨b,off,l,w⟩,hl,hx⟩:=YZ.1 hx;cases hx;obtain ⟨u',g1,_,g2⟩:=bS R G hu;rw [g2];obtain ⟨pl,l',w',k1,k2,k3,k4,k5⟩:=zT R g1 hl;exact k5 (fun _ _ v=>kk v) L K (P.here R k3)
 case store t x y =>
  obtain ⟨p,hp,hx⟩:=YZ.1 (show (ko C e x).bind _=some (v,s1) from hx);obtain ⟨u,hu,hx⟩:=YZ.1 hx;obtain ⟨s2,hs,hx⟩:=YZ.1 hx;cases hx;obtain ⟨p',g1,_,g2⟩:=bS R G hp;obtain ⟨u',V,_,X⟩:=bS R G hu;rw [g2,X];exact KE R g1 V hs fun h1 R1=>P ρ undef h1 (Le.refl _) R1 nN
 case nilCheck x =>
  obtain ⟨u,hu,hx⟩:=YZ.1 (show (ko C e x).bind _=some (v,s1) from hx);obtain ⟨j,hs⟩:=dY.1 hx;subst hs;clear hx;have hx:=j;obtain ⟨u',g1,_,g2⟩:=bS R G hu;rw [g2];unfold notNil at hx;split at hx
  ·cases hx;cases g1 with
   | ptr off hb=>exact P.here R (.ptr off hb)
  ·cases hx
 case binOp op t x y yt =>
  obtain ⟨a,J,hx⟩:=YZ.1 (show (ko C e x).bind _=some (v,s1) from hx);obtain ⟨b,hb,hx⟩:=YZ.1 hx;obtain ⟨j,hs⟩:=dY.1 hx;subst hs;clear hx;have hx:=j;obtain ⟨a',g1,_,g2⟩:=bS R G J;obtain ⟨b',V,_,X⟩:=bS R G hb;rw [g2,X];obtain ⟨U,g6⟩:=Q2 (h:=h) g1 V hx;exact g6 kk L K (P.here R U)
 case unOp op t x =>
  obtain ⟨a,J,hx⟩:=YZ.1 (show (ko C e x).bind _=some (v,s1) from hx);obtain ⟨j,hs⟩:=dY.1 hx;subst hs;clear hx;have hx:=j;obtain ⟨a',g1,_,g2⟩:=bS R G J;rw [g2];have U:=(OB (L:=[]) (K:=fun _ _=>True) (h:=h) (kk:=fun _ _ _ _=>True) g1 hx trivial).2;exact (OB g1 hx (P.here R U)).1
 case convert a d x =>
  obtain ⟨u,hu,hx⟩:=YZ.1 (show (ko C e x).bind _=some (v,s1) from hx);obtain ⟨j,hs⟩:=dY.1 hx;subst hs;clear hx;have hx:=j;obtain ⟨u',g1,_,g2⟩:=bS R G hu;rw [g2];have U:=(Ek (L:=[]) (K:=fun _ _=>True) (h:=h) (kk:=fun _ _ _ _=>True) g1 hx trivial).2;exact (Ek g1 hx (P.here R U)).1
 case makeFunc fn fi ca =>
  cases fn <;> first | (cases hx; done) | skip
  rename_i f;obtain ⟨a,J,hx⟩:=YZ.1 (show (zQ C e fi.toList).bind _=some (v,s1) from hx);obtain ⟨c,hc,hx⟩:=YZ.1 hx;cases hx;obtain ⟨a',g1,g2⟩:=jH R G J;obtain ⟨c',V,X⟩:=jH R G hc;rw [g2,X];exact P.here R (.func f g1 V)
 case makeMap t r =>
  cases r with
  | some _=>cases hx
  | none=>exact Kp R hx P
 case makeSlice t l c =>
  obtain ⟨a,J,hx⟩:=YZ.1 (show (ko C e l).bind _=some (v,s1) from hx);obtain ⟨b,hb,hx⟩:=YZ.1 hx;obtain ⟨a',g1,_,g2⟩:=bS R G J;obtain ⟨b',V,_,X⟩:=bS R G hb;rw [g2,X];exact Fi R g1 V hx P
 case lookup t m x ok =>
  obtain ⟨a,J,hx⟩:=YZ.1 (show (ko C e m).bind _=some (v,s1) from hx);obtain ⟨b,hb,hx⟩:=YZ.1 hx;obtain ⟨j,hs⟩:=dY.1 hx;subst hs;clear hx;have hx:=j;obtain ⟨a',g1,_,g2⟩:=bS R G J;obtain ⟨b',V,_,X⟩:=bS R G hb;rw [g2,X];obtain ⟨v',U,g6⟩:=N' O R g1 V hx;exact g6 kk L K (P.here R U)
 case mapUpdate t m x y =>
  obtain ⟨a,J,hx⟩:=YZ.1 (show (ko C e m).bind _=some (v,s1) from hx);obtain ⟨b,hb,hx⟩:=YZ.1 hx;obtain ⟨c,hc,hx⟩:=YZ.1 hx;obtain ⟨s2,hs,hx⟩:=YZ.1 hx;cases hx;obtain ⟨a',g1,_,g2⟩:=bS R G J;obtain ⟨b',V,_,X⟩:=bS R G hb;obtain ⟨c',U,_,g6⟩:=bS R G hc;rw [g2,X,g6];exact Qa O R g1 V U hs fun h1 R1=>P ρ undef h1 (Le.refl _) R1 nN
 case slice t x lo hi mx =>
  obtain ⟨a,J,hx⟩:=YZ.1 (show (ko C e x).bind _=some (v,s1) from hx);obtain ⟨vs,ef,hx⟩:=YZ.1 hx;obtain ⟨j,hs⟩:=dY.1 hx;subst hs;clear hx;have hx:=j;obtain ⟨a',g1,_,g2⟩:=bS R G J;obtain ⟨vs',V,X⟩:=jH R G ef;rw [g2,X];obtain ⟨v',U,g6⟩:=UH (h:=h) g1 V hx;exact g6 kk L K (P.here R U)
 case fieldAddr t x f =>
  obtain ⟨a,J,hx⟩:=YZ.1 (show (ko C e x).bind _=some (v,s1) from hx);obtain ⟨j,hs⟩:=dY.1 hx;subst hs;clear hx;have hx:=j;obtain ⟨a',g1,_,g2⟩:=bS R G J;rw [g2];obtain ⟨v',U,g6⟩:=Gl (h:=h) g1 hx;exact g6 kk L K (P.here R U)
 case field t x f =>
  obtain ⟨a,J,hx⟩:=YZ.1 (show (ko C e x).bind _=some (v,s1) from hx);obtain ⟨cs,hcs,hx⟩:=YZ.1 hx;obtain ⟨fd,hfd,hx⟩:=YZ.1 hx;obtain ⟨Z,hs⟩:=dY.1 hx;subst hs;obtain ⟨a',g1,_,g2⟩:=bS R G J;rw [g2]
  have:=uI.1 hcs
  subst this;have hx:=Z;obtain ⟨fs,hd,hf⟩:=K2 hfd;cases g1 with
  | agg hl =>
  obtain ⟨v',U,g6⟩:=NC (h:=h) hl hx;simp only [hd,hf];exact g6 kk L K (P.here R U)
 case indexAddr t x i =>
  obtain ⟨a,J,hx⟩:=YZ.1 (show (ko C e x).bind _=some (v,s1) from hx);obtain ⟨b,hb,hx⟩:=YZ.1 hx;obtain ⟨j,hs⟩:=dY.1 hx;subst hs;clear hx;have hx:=j;obtain ⟨a',g1,_,g2⟩:=bS R G J;obtain ⟨b',V,_,X⟩:=bS R G hb;rw [g2,X];obtain ⟨v',U,g6⟩:=Mh (h:=h) g1 V hx;exact g6 kk L K (P.here R U)
 case index t x i =>
  obtain ⟨a,J,hx⟩:=YZ.1 (show (ko C e x).bind _=some (v,s1) from hx);obtain ⟨b,hb,hx⟩:=YZ.1 hx;obtain ⟨j,hs⟩:=dY.1 hx;subst hs;clear hx;have hx:=j;obtain ⟨a',g1,_,g2⟩:=bS R G J;obtain ⟨b',V,_,X⟩:=bS R G hb;rw [g2,X];obtain ⟨U,g6⟩:=PD (h:=h) g1 V hx;exact g6 kk L K (P.here R U)
 case extract x i =>
  obtain ⟨a,J,hx⟩:=YZ.1 (show (ko C e x).bind _=some (v,s1) from hx);obtain ⟨vs,ef,hx⟩:=YZ.1 hx;obtain ⟨Z,hs⟩:=dY.1 hx;subst hs;obtain ⟨a',g1,_,g2⟩:=bS R G J;rw [g2]
  have:=Ej.1 ef
  subst this;have hx:=Z;cases g1 with
  | tuple hl =>
  obtain ⟨v',U,g6⟩:=hl.get hx;simp only [U];exact P.here R g6
end
end Go.Sx.Cr
