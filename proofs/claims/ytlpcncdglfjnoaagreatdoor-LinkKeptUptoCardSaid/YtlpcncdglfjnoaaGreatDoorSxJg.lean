/- Part of the framework. No condition. -/
import Derived.Test.YtlpcncdglfjnoaaGreatDoorSxJf
set_option linter.all false
set_option maxHeartbeats 4000000
namespace Go.Sx.Cr
section
variable {C:Cx} {h0:Hp} {ρ:ix} {s s1:CS} {h:Hp} {e:Ev} {e':Env} {L:Lp} {K:Xab->Hp->Prop} {kk:Xab->T}
def Oi (R:Rel C h0 ρ s.σ h) (f:ER ρ e e') {c a b:Operand} {v:Xab} (d:On C e s c a b=some (v,s1)) (P:pA C h0 ρ s1 v kk L K) :
  (cg e' c fun c=>match c with
  | .bool b'=>cond b' (cg e' a kk) (cg e' b kk)
  | _=>T.fail) L K h:=by
 unfold On at d;obtain ⟨u,k,d⟩:=YX.1 d;obtain ⟨m,j,_,l⟩:=bT R f k;rw [l];split at d
 ·cases j;obtain ⟨h1,rfl⟩:=eG.1 d;obtain ⟨v',g,_,i⟩:=bT R f h1;simp only [cond_true];rw [i];exact P.here R g
 ·cases j;obtain ⟨h1,rfl⟩:=eG.1 d;obtain ⟨v',g,_,i⟩:=bT R f h1;simp only [cond_false];rw [i];exact P.here R g
 ·cases d
variable {H:TypeId}
def IR (O:Ok C) {call:gU} (l:oP C h0 call) (R:Rel C h0 ρ s.σ h) {f:FuncId} {g b:List Xab} {v:Xab} (hv:eC ρ g b) (a:IA C call H s f g=some (v,s1)) (P:pA C h0 ρ s1 v kk L K) :
  DD C.P f b H kk L K h:=by
 unfold IA at a;unfold DD;cases j:gp C.P f with
 | true =>
  rw [j] at a;simp only at a ⊢;obtain ⟨h1,h2⟩:=vG.1 a;cases i:Nat.beq f C.TA with
  | true =>
   rw [i] at h1;obtain rfl:f=C.TA:=Zd i;exact D7 (Jg O R hv h1) h2 P
  | false =>
   rw [i] at h1;exact D7 (l f g s v s1 h1 ρ h b R hv) h2 P
 | false =>
  rw [j] at a;simp only at a ⊢;obtain ⟨hi,c⟩:=bI.1 a;clear a;obtain rfl:f=C.idx:=Zd hi;obtain ⟨h1,h2⟩:=vG.1 c;clear c;obtain ⟨d,rfl⟩:=eG.1 h1;clear h1;unfold NA at d;split at d
  ·cases d;cases hv with
   | cons m hv =>
   cases hv with
   | cons n hv =>
   cases hv; cases m; cases n;obtain ⟨y,k⟩:=xn (.int (ρ:=ρ) _ _) h2;refine O.idx _ _ h _ ⟨y,k,?_⟩;rw [dX,<- k];exact P.here R (.int _ _)
  ·cases d
def LX {call:gU} (m:oP C h0 call) (R:Rel C h0 ρ s.σ h) {g j:Xab} {k a:List Xab} {v:Xab} (n:VR ρ g j) (hv:eC ρ k a) (b:OI C call H s g k=some (v,s1)) (P:pA C h0 ρ s1 v kk L K) :
  T.sU C.P j a (lN C.P H).1 (lN C.P H).2 (jW _ fun l=>kk (rv (lN C.P H).1 (lN C.P H).2 l)) L K h:=by
 unfold OI at b;split at b
 ·rename_i f r u;obtain ⟨c,b⟩:=bI.1 b;obtain ⟨h1,h2⟩:=vG.1 b;cases n with
  | @func _ _ d _ i o p =>
  refine ⟨f,⟨d⟩,⟨i⟩,rfl,?_,?_⟩
  ·have:=D7 (t:=H) (kk:=kk) (L:=L) (K:=K) (m f _ s v s1 h1 ρ h (d++a++i) R ((o.append hv).append p)) h2 P
   exact this
  ·unfold gp at c;split at c
   ·rename_i fn q;simp only [Bool.and_eq_true,Bool.not_eq_true',beq_eq_false_iff_ne] at c;exact ⟨fn,q,c.1,c.2⟩
   ·cases c
 ·cases b
variable {I:Call}
def G9 (R:Rel C h0 ρ s.σ h) {b:Builtin} {l f:List Xab} {v:Xab} (hv:eC ρ l f) (a:AM C b H I l s=some (v,s1)) (P:pA C h0 ρ s1 v kk L K) :
  tk C.P b I H f kk L K h:=by
 unfold AM at a;split at a
 ·obtain ⟨u,m,a⟩:=YX.1 a;obtain ⟨d,g⟩:=eG.1 a;subst g;obtain ⟨n,rfl,i⟩:=JX hv m;obtain ⟨j,k⟩:=QD (t:=H) R i d;exact k kk L K (P.here R j)
 ·exact H5 R hv a P
 ·obtain ⟨d,g⟩:=eG.1 a;subst g;obtain ⟨j,k⟩:=Ro (h:=h) (ts:=I.argTypes) hv d;exact k kk L K (P.here R j)
 ·cases a
def OT (O:Ok C) {call:gU} (m:oP C h0 call) (R:Rel C h0 ρ s.σ h) (i:ER ρ e e') {v:Xab} (a:Qj C call e s H I=some (v,s1)) (P:pA C h0 ρ s1 v kk L K) (o:Oper) (n:o.op=.call I) (p:o.type=H) :
  wj C.P o e' kk L K h:=by
 unfold Qj at a;obtain ⟨A,eA,a⟩:=YX.1 a;obtain ⟨q,j,d⟩:=j9 R i eA;unfold wj;rw [n];simp only;obtain ⟨callee,args,argTypes⟩:=I;simp only at a d ⊢;subst p;cases callee with
 | builtin b =>
  simp only at a ⊢;rw [d];exact G9 R j a P
 | value g =>
  cases g with
  | func f =>
   simp only [Gd] at a ⊢;obtain ⟨w,k,r,l⟩:=bT R i (x:=.func f) (v:=.func (.func f) #[] #[]) rfl;rw [l,d];cases k with
   | func f u y =>
   cases u; cases y;simp only [List.nil_append,List.append_nil];exact IR O m R j a P
  | tmp H =>
   simp only [Gd] at a ⊢;obtain ⟨g,z,a⟩:=YX.1 a;obtain ⟨w,k,r,l⟩:=bT R i (x:=.tmp H) z;rw [l,d];exact LX m R k j a P
  | const _=>cases a
  | global _=>cases a
 | invoke _ _=>cases a
def H2 (O:Ok C) {call:gU} (CO:oP C h0 call) (R:Rel C h0 ρ s.σ h) (A:ER ρ e e') {o:Oper} {v:Xab} (hx:VT C call o e s=some (v,s1)) (P:pA C h0 ρ s1 v kk L K):wj C.P o e' kk L K h:=by
 unfold VT at hx;cases J:o.op <;> simp only [J] at hx <;> first
  | (cases hx; done)
  | (exact OT O CO R A hx P o J rfl)
  | (unfold wj; simp only [J])
  | skip
 case move x =>
  obtain ⟨j,B⟩:=eG.1 hx;subst B;clear hx;have hx:=j;obtain ⟨v',k,_,q⟩:=bT R A hx;rw [q]; exact P.here R k
 case assign x =>
  obtain ⟨j,B⟩:=eG.1 hx;subst B;clear hx;have hx:=j;obtain ⟨v',k,_,q⟩:=bT R A hx;rw [q]; exact P.here R k
 case pick c a b=>exact Oi R A hx P
 case alloc t =>
  obtain ⟨z,hz,hx⟩:=YX.1 hx;obtain ⟨zv,h1,rfl,h2⟩:=BF hz;simp only [h1];exact EE R (h2 ρ) hx P
 case box t x =>
  obtain ⟨u,I,hx⟩:=YX.1 (show (kU C e x).bind _=some (v,s1) from hx);obtain ⟨g,hg,hx⟩:=YX.1 hx;obtain ⟨l,hl,N⟩:=YX.1 hx;obtain ⟨U,k,_,q⟩:=bT R A I;rw [q];obtain ⟨D,l',Q,V⟩:=vc k hl;subst V;cases g with
  | true=>simp only [hg,D,cond_true]; exact EE R Q N P
  | false=>simp only [hg,D,cond_false]; exact EE R Q N P
 case build t ps =>
  obtain ⟨W,eA,hx⟩:=YX.1 (show (A6 C e _).bind _=some (v,s1) from hx);obtain ⟨j,B⟩:=eG.1 hx;subst B;clear hx;have hx:=j;obtain ⟨S,k,q⟩:=j9 R A eA;rw [q];obtain ⟨v',E,F⟩:=Lf (h:=h) (PR.zip (ps.toList.map (·.1)) k) hx;exact F kk L K (P.here R E)
 case buildSlice t n ps =>
  obtain ⟨W,eA,hx⟩:=YX.1 (show (A6 C e _).bind _=some (v,s1) from hx);obtain ⟨S,k,q⟩:=j9 R A eA;rw [q];exact Rc R (PR.zip (ps.toList.map (·.1)) k) hx P
 case load t x =>
  obtain ⟨u,I,hx⟩:=YX.1 (show (kU C e x).bind _=some (v,s1) from hx);obtain ⟨⟨b,off,l,w⟩,hl,hx⟩:=YX.1 hx;cases hx;obtain ⟨U,k,_,q⟩:=bT R A I;rw [q];obtain ⟨pl,l',w',k1,k2,k3,k4,k5⟩:=A9 R k hl;exact k5 (fun _ _ v=>kk v) L K (P.here R k3)
 case store t x y =>
  obtain ⟨p,hp,hx⟩:=YX.1 (show (kU C e x).bind _=some (v,s1) from hx);obtain ⟨u,I,hx⟩:=YX.1 hx;obtain ⟨s2,B,hx⟩:=YX.1 hx;cases hx;obtain ⟨p',k,_,q⟩:=bT R A hp;obtain ⟨U,E,_,F⟩:=bT R A I;rw [q,F];exact L9 R k E B fun h1 X=>P ρ undef h1 (Le.refl _) X pn
 case nilCheck x =>
  obtain ⟨u,I,hx⟩:=YX.1 (show (kU C e x).bind _=some (v,s1) from hx);obtain ⟨j,B⟩:=eG.1 hx;subst B;clear hx;have hx:=j;obtain ⟨U,k,_,q⟩:=bT R A I;rw [q];unfold notNil at hx;split at hx
  ·cases hx;cases k with
   | ptr off H=>exact P.here R (.ptr off H)
  ·cases hx
 case binOp op t x y yt =>
  obtain ⟨a,D,hx⟩:=YX.1 (show (kU C e x).bind _=some (v,s1) from hx);obtain ⟨b,H,hx⟩:=YX.1 hx;obtain ⟨j,B⟩:=eG.1 hx;subst B;clear hx;have hx:=j;obtain ⟨a',k,_,q⟩:=bT R A D;obtain ⟨b',E,_,F⟩:=bT R A H;rw [q,F];obtain ⟨g5,G⟩:=Sf (h:=h) k E hx;exact G kk L K (P.here R g5)
 case unOp op t x =>
  obtain ⟨a,D,hx⟩:=YX.1 (show (kU C e x).bind _=some (v,s1) from hx);obtain ⟨j,B⟩:=eG.1 hx;subst B;clear hx;have hx:=j;obtain ⟨a',k,_,q⟩:=bT R A D;rw [q];have g5:=(PV (L:=[]) (K:=fun _ _=>True) (h:=h) (kk:=fun _ _ _ _=>True) k hx trivial).2;exact (PV k hx (P.here R g5)).1
 case convert a d x =>
  obtain ⟨u,I,hx⟩:=YX.1 (show (kU C e x).bind _=some (v,s1) from hx);obtain ⟨j,B⟩:=eG.1 hx;subst B;clear hx;have hx:=j;obtain ⟨U,k,_,q⟩:=bT R A I;rw [q];have g5:=(FG (L:=[]) (K:=fun _ _=>True) (h:=h) (kk:=fun _ _ _ _=>True) k hx trivial).2;exact (FG k hx (P.here R g5)).1
 case makeFunc fn fi ca =>
  cases fn <;> first | (cases hx; done) | skip
  rename_i f;obtain ⟨a,D,hx⟩:=YX.1 (show (A6 C e fi.toList).bind _=some (v,s1) from hx);obtain ⟨c,hc,hx⟩:=YX.1 hx;cases hx;obtain ⟨a',k,q⟩:=j9 R A D;obtain ⟨c',E,F⟩:=j9 R A hc;rw [q,F];exact P.here R (.func f k E)
 case makeMap t r =>
  cases r with
  | some _=>cases hx
  | none=>exact LN R hx P
 case makeSlice t l c =>
  obtain ⟨a,D,hx⟩:=YX.1 (show (kU C e l).bind _=some (v,s1) from hx);obtain ⟨b,H,hx⟩:=YX.1 hx;obtain ⟨a',k,_,q⟩:=bT R A D;obtain ⟨b',E,_,F⟩:=bT R A H;rw [q,F];exact GA R k E hx P
 case lookup t m x ok =>
  obtain ⟨a,D,hx⟩:=YX.1 (show (kU C e m).bind _=some (v,s1) from hx);obtain ⟨b,H,hx⟩:=YX.1 hx;obtain ⟨j,B⟩:=eG.1 hx;subst B;clear hx;have hx:=j;obtain ⟨a',k,_,q⟩:=bT R A D;obtain ⟨b',E,_,F⟩:=bT R A H;rw [q,F];obtain ⟨v',g5,G⟩:=Pz O R k E hx;exact G kk L K (P.here R g5)
 case mapUpdate t m x y =>
  obtain ⟨a,D,hx⟩:=YX.1 (show (kU C e m).bind _=some (v,s1) from hx);obtain ⟨b,H,hx⟩:=YX.1 hx;obtain ⟨c,hc,hx⟩:=YX.1 hx;obtain ⟨s2,B,hx⟩:=YX.1 hx;cases hx;obtain ⟨a',k,_,q⟩:=bT R A D;obtain ⟨b',E,_,F⟩:=bT R A H;obtain ⟨c',g5,_,G⟩:=bT R A hc;rw [q,F,G];exact Rs O R k E g5 B fun h1 X=>P ρ undef h1 (Le.refl _) X pn
 case slice t x lo hi mx =>
  obtain ⟨a,D,hx⟩:=YX.1 (show (kU C e x).bind _=some (v,s1) from hx);obtain ⟨W,eA,hx⟩:=YX.1 hx;obtain ⟨j,B⟩:=eG.1 hx;subst B;clear hx;have hx:=j;obtain ⟨a',k,_,q⟩:=bT R A D;obtain ⟨S,E,F⟩:=j9 R A eA;rw [q,F];obtain ⟨v',g5,G⟩:=Vy (h:=h) k E hx;exact G kk L K (P.here R g5)
 case fieldAddr t x f =>
  obtain ⟨a,D,hx⟩:=YX.1 (show (kU C e x).bind _=some (v,s1) from hx);obtain ⟨j,B⟩:=eG.1 hx;subst B;clear hx;have hx:=j;obtain ⟨a',k,_,q⟩:=bT R A D;rw [q];obtain ⟨v',g5,G⟩:=HE (h:=h) k hx;exact G kk L K (P.here R g5)
 case field t x f =>
  obtain ⟨a,D,hx⟩:=YX.1 (show (kU C e x).bind _=some (v,s1) from hx);obtain ⟨cs,Y,hx⟩:=YX.1 hx;obtain ⟨fd,Z,hx⟩:=YX.1 hx;obtain ⟨M,B⟩:=eG.1 hx;subst B;obtain ⟨a',k,_,q⟩:=bT R A D;rw [q]
  have:=wH.1 Y
  subst this;have hx:=M;obtain ⟨fs,hd,hf⟩:=Mw Z;cases k with
  | agg hl =>
  obtain ⟨v',g5,G⟩:=OZ (h:=h) hl hx;simp only [hd,hf];exact G kk L K (P.here R g5)
 case indexAddr t x i =>
  obtain ⟨a,D,hx⟩:=YX.1 (show (kU C e x).bind _=some (v,s1) from hx);obtain ⟨b,H,hx⟩:=YX.1 hx;obtain ⟨j,B⟩:=eG.1 hx;subst B;clear hx;have hx:=j;obtain ⟨a',k,_,q⟩:=bT R A D;obtain ⟨b',E,_,F⟩:=bT R A H;rw [q,F];obtain ⟨v',g5,G⟩:=NJ (h:=h) k E hx;exact G kk L K (P.here R g5)
 case index t x i =>
  obtain ⟨a,D,hx⟩:=YX.1 (show (kU C e x).bind _=some (v,s1) from hx);obtain ⟨b,H,hx⟩:=YX.1 hx;obtain ⟨j,B⟩:=eG.1 hx;subst B;clear hx;have hx:=j;obtain ⟨a',k,_,q⟩:=bT R A D;obtain ⟨b',E,_,F⟩:=bT R A H;rw [q,F];obtain ⟨g5,G⟩:=QO (h:=h) k E hx;exact G kk L K (P.here R g5)
 case extract x i =>
  obtain ⟨a,D,hx⟩:=YX.1 (show (kU C e x).bind _=some (v,s1) from hx);obtain ⟨W,eA,hx⟩:=YX.1 hx;obtain ⟨M,B⟩:=eG.1 hx;subst B;obtain ⟨a',k,_,q⟩:=bT R A D;rw [q]
  have:=FF.1 eA
  subst this;have hx:=M;cases k with
  | tuple hl =>
  obtain ⟨v',g5,G⟩:=hl.get hx;simp only [g5];exact P.here R G
end
end Go.Sx.Cr
