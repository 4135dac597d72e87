/- Part of the framework. No condition. -/
import Derived.Test.YthbffkdafjboiaaGreatDoorSxJf
set_option linter.all false
set_option maxHeartbeats 4000000
namespace Go.Sx.Cr
section
variable {C:Cx} {h0:Hp} {ρ:gn} {s s1:CS} {h:Hp} {e:Ev} {e':Env} {L:Lp} {K:ZB->Hp->Prop} {kk:ZB->T}
def Mb (R:Rel C h0 ρ s.σ h) (er:ER ρ e e') {c a b:Operand} {v:ZB} (hx:Mf C e s c a b=some (v,s1)) (P:nH C h0 ρ s1 v kk L K) :
  (bU e' c fun c=>match c with
  | .bool b'=>cond b' (bU e' a kk) (bU e' b kk)
  | _=>T.fail) L K h:=by
 unfold Mf at hx;obtain ⟨u,hu,hx⟩:=W1.1 hx;obtain ⟨u',g1,_,g2⟩:=bP R er hu;rw [g2];split at hx
 ·cases g1;obtain ⟨h1,rfl⟩:=dU.1 hx;obtain ⟨v',g3,_,g4⟩:=bP R er h1;simp only [cond_true];rw [g4];exact P.here R g3
 ·cases g1;obtain ⟨h1,rfl⟩:=dU.1 hx;obtain ⟨v',g3,_,g4⟩:=bP R er h1;simp only [cond_false];rw [g4];exact P.here R g3
 ·cases hx
def GW (O:Ok C) {call:fV} (CO:mZ C h0 call) (R:Rel C h0 ρ s.σ h) {t:TypeId} {f:FuncId} {vs vs':List ZB} {v:ZB} (hv:dQ ρ vs vs') (hx:GF C call t s f vs=some (v,s1)) (P:nH C h0 ρ s1 v kk L K) :
  BS C.P f vs' t kk L K h:=by
 unfold GF at hx;unfold BS;cases hb:fF C.P f with
 | true =>
  rw [hb] at hx;simp only at hx ⊢;obtain ⟨h1,h2⟩:=tj.1 hx;cases hs:Nat.beq f C.Re with
  | true =>
   rw [hs] at h1;obtain rfl:f=C.Re:=Xg hs;exact Ck (He O R hv h1) h2 P
  | false =>
   rw [hs] at h1;exact Ck (CO f vs s v s1 h1 ρ h vs' R hv) h2 P
 | false =>
  rw [hb] at hx;simp only at hx ⊢;obtain ⟨hi,hx1⟩:=bq.1 hx;clear hx;obtain rfl:f=C.idx:=Xg hi;obtain ⟨h1,h2⟩:=tj.1 hx1;clear hx1;obtain ⟨h3,rfl⟩:=dU.1 h1;clear h1;unfold Lg at h3;split at h3
  ·cases h3;cases hv with
   | cons a1 hv =>
   cases hv with
   | cons a2 hv =>
   cases hv; cases a1; cases a2;obtain ⟨y,hy⟩:=uT (.int (ρ:=ρ) _ _) h2;refine O.idx _ _ h _ ⟨y,hy,?_⟩;rw [dE,<- hy];exact P.here R (.int _ _)
  ·cases h3
def JP {call:fV} (CO:mZ C h0 call) (R:Rel C h0 ρ s.σ h) {t:TypeId} {g g':ZB} {vs vs':List ZB} {v:ZB} (hg:VR ρ g g') (hv:dQ ρ vs vs') (hx:Mx C call t s g vs=some (v,s1)) (P:nH C h0 ρ s1 v kk L K) :
  T.sI C.P g' vs' (kI C.P t).1 (kI C.P t).2 (jj _ fun l=>kk (rv (kI C.P t).1 (kI C.P t).2 l)) L K h:=by
 unfold Mx at hx;split at hx
 ·rename_i f fi ca;obtain ⟨hb,hx⟩:=bq.1 hx;obtain ⟨h1,h2⟩:=tj.1 hx;cases hg with
  | @func _ _ fi' _ ca' k1 k2 =>
  refine ⟨f,⟨fi'⟩,⟨ca'⟩,rfl,?_,?_⟩
  ·have:=Ck (t:=t) (kk:=kk) (L:=L) (K:=K) (CO f _ s v s1 h1 ρ h (fi'++vs'++ca') R ((k1.append hv).append k2)) h2 P
   exact this
  ·unfold fF at hb;split at hb
   ·rename_i fn hf;simp only [Bool.and_eq_true,Bool.not_eq_true',beq_eq_false_iff_ne] at hb;exact ⟨fn,hf,hb.1,hb.2⟩
   ·cases hb
 ·cases hx
def Fe (R:Rel C h0 ρ s.σ h) {b:Builtin} {t:TypeId} {c:Call} {vs vs':List ZB} {v:ZB} (hv:dQ ρ vs vs') (hx:yY C b t c vs s=some (v,s1)) (P:nH C h0 ρ s1 v kk L K) :
  qR C.P b c t vs' kk L K h:=by
 unfold yY at hx;split at hx
 ·obtain ⟨u,hu,hx⟩:=W1.1 hx;obtain ⟨hx1,hs⟩:=dU.1 hx;subst hs;obtain ⟨u',rfl,hu'⟩:=HU hv hu;obtain ⟨g1,g2⟩:=Ov (t:=t) R hu' hx1;exact g2 kk L K (P.here R g1)
 ·exact Ga R hv hx P
 ·obtain ⟨hx1,hs⟩:=dU.1 hx;subst hs;obtain ⟨g1,g2⟩:=O7 (h:=h) (ts:=c.argTypes) hv hx1;exact g2 kk L K (P.here R g1)
 ·cases hx
def MH (O:Ok C) {call:fV} (CO:mZ C h0 call) (R:Rel C h0 ρ s.σ h) (er:ER ρ e e') {t:TypeId} {c:Call} {v:ZB} (hx:N6 C call e s t c=some (v,s1)) (P:nH C h0 ρ s1 v kk L K) (o:Oper) (ho:o.op=.call c) (ht:o.type=t) :
  tS C.P o e' kk L K h:=by
 unfold N6 at hx;obtain ⟨vs,dZ,hx⟩:=W1.1 hx;obtain ⟨vs',g1,g2⟩:=jw R er dZ;unfold tS;rw [ho];simp only;obtain ⟨callee,args,argTypes⟩:=c;simp only at hx g2 ⊢;subst ht;cases callee with
 | builtin b =>
  simp only at hx ⊢;rw [g2];exact Fe R g1 hx P
 | value g =>
  cases g with
  | func f =>
   simp only [Eg] at hx ⊢;obtain ⟨w,w1,w2,w3⟩:=bP R er (x:=.func f) (v:=.func (.func f) #[] #[]) rfl;rw [w3,g2];cases w1 with
   | func f k1 k2 =>
   cases k1; cases k2;simp only [List.nil_append,List.append_nil];exact GW O CO R g1 hx P
  | tmp t =>
   simp only [Eg] at hx ⊢;obtain ⟨g,hg,hx⟩:=W1.1 hx;obtain ⟨w,w1,w2,w3⟩:=bP R er (x:=.tmp t) hg;rw [w3,g2];exact JP CO R w1 g1 hx P
  | const _=>cases hx
  | global _=>cases hx
 | invoke _ _=>cases hx
def F7 (O:Ok C) {call:fV} (CO:mZ C h0 call) (R:Rel C h0 ρ s.σ h) (er:ER ρ e e') {o:Oper} {v:ZB} (hx:TO C call o e s=some (v,s1)) (P:nH C h0 ρ s1 v kk L K):tS C.P o e' kk L K h:=by
 unfold TO at hx;cases hop:o.op <;> simp only [hop] at hx <;> first
  | (cases hx; done)
  | (exact MH O CO R er hx P o hop rfl)
  | (unfold tS; simp only [hop])
  | skip
 case move x =>
  obtain ⟨hx1,hs⟩:=dU.1 hx;subst hs;clear hx;have hx:=hx1;obtain ⟨v',g1,_,g2⟩:=bP R er hx;rw [g2]; exact P.here R g1
 case assign x =>
  obtain ⟨hx1,hs⟩:=dU.1 hx;subst hs;clear hx;have hx:=hx1;obtain ⟨v',g1,_,g2⟩:=bP R er hx;rw [g2]; exact P.here R g1
 case pick c a b=>exact Mb R er hx P
 case alloc t =>
  obtain ⟨z,hz,hx⟩:=W1.1 hx;obtain ⟨zv,h1,rfl,h2⟩:=zU hz;simp only [h1];exact CR R (h2 ρ) hx P
 case box t x =>
  obtain ⟨u,hu,hx⟩:=W1.1 (show (j4 C e x).bind _=some (v,s1) from hx);obtain ⟨g,hg,hx⟩:=W1.1 hx;obtain ⟨l,hl,hx3⟩:=W1.1 hx;obtain ⟨u',g1,_,g2⟩:=bP R er hu;rw [g2];obtain ⟨ha,l',hl1,hl2⟩:=sU g1 hl;subst hl2;cases g with
  | true=>simp only [hg,ha,cond_true]; exact CR R hl1 hx3 P
  | false=>simp only [hg,ha,cond_false]; exact CR R hl1 hx3 P
 case build t ps =>
  obtain ⟨vs,dZ,hx⟩:=W1.1 (show (zm C e _).bind _=some (v,s1) from hx);obtain ⟨hx1,hs⟩:=dU.1 hx;subst hs;clear hx;have hx:=hx1;obtain ⟨vs',g1,g2⟩:=jw R er dZ;rw [g2];obtain ⟨v',g3,g4⟩:=Jb (h:=h) (PR.zip (ps.toList.map (·.1)) g1) hx;exact g4 kk L K (P.here R g3)
 case buildSlice t n ps =>
  obtain ⟨vs,dZ,hx⟩:=W1.1 (show (zm C e _).bind _=some (v,s1) from hx);obtain ⟨vs',g1,g2⟩:=jw R er dZ;rw [g2];exact OX R (PR.zip (ps.toList.map (·.1)) g1) hx P
 case load t x =>
  obtain ⟨u,hu,hx⟩:=W1.1 (show (j4 C e x).bind _=some (v,s1) from hx);obtain ⟨⟨b,off,l,w⟩,hl,hx⟩:=W1.1 hx;cases hx;obtain ⟨u',g1,_,g2⟩:=bP R er hu;rw [g2];obtain ⟨pl,l',w',k1,k2,k3,k4,k5⟩:=zp R g1 hl;exact k5 (fun _ _ v=>kk v) L K (P.here R k3)
 case store t x y =>
  obtain ⟨p,hp,hx⟩:=W1.1 (show (j4 C e x).bind _=some (v,s1) from hx);obtain ⟨u,hu,hx⟩:=W1.1 hx;obtain ⟨s2,hs,hx⟩:=W1.1 hx;cases hx;obtain ⟨p',g1,_,g2⟩:=bP R er hp;obtain ⟨u',g3,_,g4⟩:=bP R er hu;rw [g2,g4];exact JW R g1 g3 hs fun h1 R1=>P ρ undef h1 (Le.refl _) R1 nB
 case nilCheck x =>
  obtain ⟨u,hu,hx⟩:=W1.1 (show (j4 C e x).bind _=some (v,s1) from hx);obtain ⟨hx1,hs⟩:=dU.1 hx;subst hs;clear hx;have hx:=hx1;obtain ⟨u',g1,_,g2⟩:=bP R er hu;rw [g2];unfold notNil at hx;split at hx
  ·cases hx;cases g1 with
   | ptr off hb=>exact P.here R (.ptr off hb)
  ·cases hx
 case binOp op t x y yt =>
  obtain ⟨a,ha,hx⟩:=W1.1 (show (j4 C e x).bind _=some (v,s1) from hx);obtain ⟨b,hb,hx⟩:=W1.1 hx;obtain ⟨hx1,hs⟩:=dU.1 hx;subst hs;clear hx;have hx:=hx1;obtain ⟨a',g1,_,g2⟩:=bP R er ha;obtain ⟨b',g3,_,g4⟩:=bP R er hb;rw [g2,g4];obtain ⟨g5,g6⟩:=P0 (h:=h) g1 g3 hx;exact g6 kk L K (P.here R g5)
 case unOp op t x =>
  obtain ⟨a,ha,hx⟩:=W1.1 (show (j4 C e x).bind _=some (v,s1) from hx);obtain ⟨hx1,hs⟩:=dU.1 hx;subst hs;clear hx;have hx:=hx1;obtain ⟨a',g1,_,g2⟩:=bP R er ha;rw [g2];have g5:=(NI (L:=[]) (K:=fun _ _=>True) (h:=h) (kk:=fun _ _ _ _=>True) g1 hx trivial).2;exact (NI g1 hx (P.here R g5)).1
 case convert a d x =>
  obtain ⟨u,hu,hx⟩:=W1.1 (show (j4 C e x).bind _=some (v,s1) from hx);obtain ⟨hx1,hs⟩:=dU.1 hx;subst hs;clear hx;have hx:=hx1;obtain ⟨u',g1,_,g2⟩:=bP R er hu;rw [g2];have g5:=(DJ (L:=[]) (K:=fun _ _=>True) (h:=h) (kk:=fun _ _ _ _=>True) g1 hx trivial).2;exact (DJ g1 hx (P.here R g5)).1
 case makeFunc fn fi ca =>
  cases fn <;> first | (cases hx; done) | skip
  rename_i f;obtain ⟨a,ha,hx⟩:=W1.1 (show (zm C e fi.toList).bind _=some (v,s1) from hx);obtain ⟨c,hc,hx⟩:=W1.1 hx;cases hx;obtain ⟨a',g1,g2⟩:=jw R er ha;obtain ⟨c',g3,g4⟩:=jw R er hc;rw [g2,g4];exact P.here R (.func f g1 g3)
 case makeMap t r =>
  cases r with
  | some _=>cases hx
  | none=>exact JH R hx P
 case makeSlice t l c =>
  obtain ⟨a,ha,hx⟩:=W1.1 (show (j4 C e l).bind _=some (v,s1) from hx);obtain ⟨b,hb,hx⟩:=W1.1 hx;obtain ⟨a',g1,_,g2⟩:=bP R er ha;obtain ⟨b',g3,_,g4⟩:=bP R er hb;rw [g2,g4];exact ED R g1 g3 hx P
 case lookup t m x ok =>
  obtain ⟨a,ha,hx⟩:=W1.1 (show (j4 C e m).bind _=some (v,s1) from hx);obtain ⟨b,hb,hx⟩:=W1.1 hx;obtain ⟨hx1,hs⟩:=dU.1 hx;subst hs;clear hx;have hx:=hx1;obtain ⟨a',g1,_,g2⟩:=bP R er ha;obtain ⟨b',g3,_,g4⟩:=bP R er hb;rw [g2,g4];obtain ⟨v',g5,g6⟩:=Nn O R g1 g3 hx;exact g6 kk L K (P.here R g5)
 case mapUpdate t m x y =>
  obtain ⟨a,ha,hx⟩:=W1.1 (show (j4 C e m).bind _=some (v,s1) from hx);obtain ⟨b,hb,hx⟩:=W1.1 hx;obtain ⟨c,hc,hx⟩:=W1.1 hx;obtain ⟨s2,hs,hx⟩:=W1.1 hx;cases hx;obtain ⟨a',g1,_,g2⟩:=bP R er ha;obtain ⟨b',g3,_,g4⟩:=bP R er hb;obtain ⟨c',g5,_,g6⟩:=bP R er hc;rw [g2,g4,g6];exact O' O R g1 g3 g5 hs fun h1 R1=>P ρ undef h1 (Le.refl _) R1 nB
 case slice t x lo hi mx =>
  obtain ⟨a,ha,hx⟩:=W1.1 (show (j4 C e x).bind _=some (v,s1) from hx);obtain ⟨vs,dZ,hx⟩:=W1.1 hx;obtain ⟨hx1,hs⟩:=dU.1 hx;subst hs;clear hx;have hx:=hx1;obtain ⟨a',g1,_,g2⟩:=bP R er ha;obtain ⟨vs',g3,g4⟩:=jw R er dZ;rw [g2,g4];obtain ⟨v',g5,g6⟩:=Tv (h:=h) g1 g3 hx;exact g6 kk L K (P.here R g5)
 case fieldAddr t x f =>
  obtain ⟨a,ha,hx⟩:=W1.1 (show (j4 C e x).bind _=some (v,s1) from hx);obtain ⟨hx1,hs⟩:=dU.1 hx;subst hs;clear hx;have hx:=hx1;obtain ⟨a',g1,_,g2⟩:=bP R er ha;rw [g2];obtain ⟨v',g5,g6⟩:=FL (h:=h) g1 hx;exact g6 kk L K (P.here R g5)
 case field t x f =>
  obtain ⟨a,ha,hx⟩:=W1.1 (show (j4 C e x).bind _=some (v,s1) from hx);obtain ⟨cs,hcs,hx⟩:=W1.1 hx;obtain ⟨fd,hfd,hx⟩:=W1.1 hx;obtain ⟨hx9,hs⟩:=dU.1 hx;subst hs;obtain ⟨a',g1,_,g2⟩:=bP R er ha;rw [g2]
  have:=uh.1 hcs
  subst this;have hx:=hx9;obtain ⟨fs,hd,hf⟩:=Kj hfd;cases g1 with
  | agg hl =>
  obtain ⟨v',g5,g6⟩:=MM (h:=h) hl hx;simp only [hd,hf];exact g6 kk L K (P.here R g5)
 case indexAddr t x i =>
  obtain ⟨a,ha,hx⟩:=W1.1 (show (j4 C e x).bind _=some (v,s1) from hx);obtain ⟨b,hb,hx⟩:=W1.1 hx;obtain ⟨hx1,hs⟩:=dU.1 hx;subst hs;clear hx;have hx:=hx1;obtain ⟨a',g1,_,g2⟩:=bP R er ha;obtain ⟨b',g3,_,g4⟩:=bP R er hb;rw [g2,g4];obtain ⟨v',g5,g6⟩:=Lr (h:=h) g1 g3 hx;exact g6 kk L K (P.here R g5)
 case index t x i =>
  obtain ⟨a,ha,hx⟩:=W1.1 (show (j4 C e x).bind _=some (v,s1) from hx);obtain ⟨b,hb,hx⟩:=W1.1 hx;obtain ⟨hx1,hs⟩:=dU.1 hx;subst hs;clear hx;have hx:=hx1;obtain ⟨a',g1,_,g2⟩:=bP R er ha;obtain ⟨b',g3,_,g4⟩:=bP R er hb;rw [g2,g4];obtain ⟨g5,g6⟩:=OF (h:=h) g1 g3 hx;exact g6 kk L K (P.here R g5)
 case extract x i =>
  obtain ⟨a,ha,hx⟩:=W1.1 (show (j4 C e x).bind _=some (v,s1) from hx);obtain ⟨vs,dZ,hx⟩:=W1.1 hx;obtain ⟨hx9,hs⟩:=dU.1 hx;subst hs;obtain ⟨a',g1,_,g2⟩:=bP R er ha;rw [g2]
  have:=DI.1 dZ
  subst this;have hx:=hx9;cases g1 with
  | tuple hl =>
  obtain ⟨v',g5,g6⟩:=hl.get hx;simp only [g5];exact P.here R g6
end
end Go.Sx.Cr
