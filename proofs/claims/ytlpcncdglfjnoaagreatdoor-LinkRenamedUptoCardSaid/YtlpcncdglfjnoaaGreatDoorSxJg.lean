/- Part of the framework. No condition. -/
import Derived.Test.YtlpcncdglfjnoaaGreatDoorSxJf
set_option linter.all false
set_option maxHeartbeats 4000000
namespace Go.Sx.Cr
section
variable {C:Cx} {h0:Hp} {ρ:fY} {s s1:CS} {h:Hp} {e:Ev} {e':Env} {L:Lp} {K:XB->Hp->Prop} {kk:XB->T}
def LA (R:Rel C h0 ρ s.σ h) (f:ER ρ e e') {c a b:Operand} {v:XB} (d:LG C e s c a b=some (v,s1)) (P:nr C h0 ρ s1 v kk L K) :
  (bK e' c fun c=>match c with
  | .bool b'=>cond b' (bK e' a kk) (bK e' b kk)
  | _=>T.fail) L K h:=by
 unfold LG at d;obtain ⟨u,k,d⟩:=Vq.1 d;obtain ⟨m,j,_,l⟩:=bG R f k;rw [l];split at d
 ·cases j;obtain ⟨h1,rfl⟩:=dP.1 d;obtain ⟨v',g,_,i⟩:=bG R f h1;simp only [cond_true];rw [i];exact P.here R g
 ·cases j;obtain ⟨h1,rfl⟩:=dP.1 d;obtain ⟨v',g,_,i⟩:=bG R f h1;simp only [cond_false];rw [i];exact P.here R g
 ·cases d
variable {H:TypeId}
def GC (O:Ok C) {call:fL} (l:mM C h0 call) (R:Rel C h0 ρ s.σ h) {f:FuncId} {g b:List XB} {v:XB} (hv:dO ρ g b) (a:Gn C call H s f g=some (v,s1)) (P:nr C h0 ρ s1 v kk L K) :
  BF C.P f b H kk L K h:=by
 unfold Gn at a;unfold BF;cases j:fv C.P f with
 | true =>
  rw [j] at a;simp only at a ⊢;obtain ⟨h1,h2⟩:=tf.1 a;cases i:Nat.beq f C.PW with
  | true =>
   rw [i] at h1;obtain rfl:f=C.PW:=VF i;exact B5 (GY O R hv h1) h2 P
  | false =>
   rw [i] at h1;exact B5 (l f g s v s1 h1 ρ h b R hv) h2 P
 | false =>
  rw [j] at a;simp only at a ⊢;obtain ⟨hi,c⟩:=bi.1 a;clear a;obtain rfl:f=C.idx:=VF hi;obtain ⟨h1,h2⟩:=tf.1 c;clear c;obtain ⟨d,rfl⟩:=dP.1 h1;clear h1;unfold KL at d;split at d
  ·cases d;cases hv with
   | cons m hv =>
   cases hv with
   | cons n hv =>
   cases hv; cases m; cases n;obtain ⟨y,k⟩:=uZ (.int (ρ:=ρ) _ _) h2;refine O.idx _ _ h _ ⟨y,k,?_⟩;rw [dC,<- k];exact P.here R (.int _ _)
  ·cases d
def Jf {call:fL} (m:mM C h0 call) (R:Rel C h0 ρ s.σ h) {g j:XB} {k a:List XB} {v:XB} (n:VR ρ g j) (hv:dO ρ k a) (b:L0 C call H s g k=some (v,s1)) (P:nr C h0 ρ s1 v kk L K) :
  T.uG C.P j a (ka C.P H).1 (ka C.P H).2 (iV _ fun l=>kk (rv (ka C.P H).1 (ka C.P H).2 l)) L K h:=by
 unfold L0 at b;split at b
 ·rename_i f r u;obtain ⟨c,b⟩:=bi.1 b;obtain ⟨h1,h2⟩:=tf.1 b;cases n with
  | @func _ _ d _ i o p =>
  refine ⟨f,⟨d⟩,⟨i⟩,rfl,?_,?_⟩
  ·have:=B5 (t:=H) (kk:=kk) (L:=L) (K:=K) (m f _ s v s1 h1 ρ h (d++a++i) R ((o.append hv).append p)) h2 P
   exact this
  ·unfold fv at c;split at c
   ·rename_i fn q;simp only [Bool.and_eq_true,Bool.not_eq_true',beq_eq_false_iff_ne] at c;exact ⟨fn,q,c.1,c.2⟩
   ·cases c
 ·cases b
variable {I:Call}
def EM (R:Rel C h0 ρ s.σ h) {b:Builtin} {l f:List XB} {v:XB} (hv:dO ρ l f) (a:yX C b H I l s=some (v,s1)) (P:nr C h0 ρ s1 v kk L K) :
  qD C.P b I H f kk L K h:=by
 unfold yX at a;split at a
 ·obtain ⟨u,m,a⟩:=Vq.1 a;obtain ⟨d,g⟩:=dP.1 a;subst g;obtain ⟨n,rfl,i⟩:=Hz hv m;obtain ⟨j,k⟩:=NP (t:=H) R i d;exact k kk L K (P.here R j)
 ·exact FX R hv a P
 ·obtain ⟨d,g⟩:=dP.1 a;subst g;obtain ⟨j,k⟩:=On (h:=h) (ts:=I.argTypes) hv d;exact k kk L K (P.here R j)
 ·cases a
def Mc (O:Ok C) {call:fL} (m:mM C h0 call) (R:Rel C h0 ρ s.σ h) (i:ER ρ e e') {v:XB} (a:Nw C call e s H I=some (v,s1)) (P:nr C h0 ρ s1 v kk L K) (o:Oper) (n:o.op=.call I) (p:o.type=H) :
  tO C.P o e' kk L K h:=by
 unfold Nw at a;obtain ⟨A,dS,a⟩:=Vq.1 a;obtain ⟨q,j,d⟩:=jg R i dS;unfold tO;rw [n];simp only;obtain ⟨callee,args,argTypes⟩:=I;simp only at a d ⊢;subst p;cases callee with
 | builtin b =>
  simp only at a ⊢;rw [d];exact EM R j a P
 | value g =>
  cases g with
  | func f =>
   simp only [DX] at a ⊢;obtain ⟨w,k,r,l⟩:=bG R i (x:=.func f) (v:=.func (.func f) #[] #[]) rfl;rw [l,d];cases k with
   | func f u y =>
   cases u; cases y;simp only [List.nil_append,List.append_nil];exact GC O m R j a P
  | tmp H =>
   simp only [DX] at a ⊢;obtain ⟨g,z,a⟩:=Vq.1 a;obtain ⟨w,k,r,l⟩:=bG R i (x:=.tmp H) z;rw [l,d];exact Jf m R k j a P
  | const _=>cases a
  | global _=>cases a
 | invoke _ _=>cases a
def FP (O:Ok C) {call:fL} (CO:mM C h0 call) (R:Rel C h0 ρ s.σ h) (A:ER ρ e e') {o:Oper} {v:XB} (hx:Si C call o e s=some (v,s1)) (P:nr C h0 ρ s1 v kk L K):tO C.P o e' kk L K h:=by
 unfold Si at hx;cases J:o.op <;> simp only [J] at hx <;> first
  | (cases hx; done)
  | (exact Mc O CO R A hx P o J rfl)
  | (unfold tO; simp only [J])
  | skip
 case move x =>
  obtain ⟨j,B⟩:=dP.1 hx;subst B;clear hx;have hx:=j;obtain ⟨v',k,_,q⟩:=bG R A hx;rw [q]; exact P.here R k
 case assign x =>
  obtain ⟨j,B⟩:=dP.1 hx;subst B;clear hx;have hx:=j;obtain ⟨v',k,_,q⟩:=bG R A hx;rw [q]; exact P.here R k
 case pick c a b=>exact LA R A hx P
 case alloc t =>
  obtain ⟨z,hz,hx⟩:=Vq.1 hx;obtain ⟨zv,h1,rfl,h2⟩:=zN hz;simp only [h1];exact Cy R (h2 ρ) hx P
 case box t x =>
  obtain ⟨u,I,hx⟩:=Vq.1 (show (jO C e x).bind _=some (v,s1) from hx);obtain ⟨g,hg,hx⟩:=Vq.1 hx;obtain ⟨l,hl,N⟩:=Vq.1 hx;obtain ⟨U,k,_,q⟩:=bG R A I;rw [q];obtain ⟨D,l',Q,V⟩:=sP k hl;subst V;cases g with
  | true=>simp only [hg,D,cond_true]; exact Cy R Q N P
  | false=>simp only [hg,D,cond_false]; exact Cy R Q N P
 case build t ps =>
  obtain ⟨W,dS,hx⟩:=Vq.1 (show (zf C e _).bind _=some (v,s1) from hx);obtain ⟨j,B⟩:=dP.1 hx;subst B;clear hx;have hx:=j;obtain ⟨S,k,q⟩:=jg R A dS;rw [q];obtain ⟨v',E,F⟩:=IH (h:=h) (PR.zip (ps.toList.map (·.1)) k) hx;exact F kk L K (P.here R E)
 case buildSlice t n ps =>
  obtain ⟨W,dS,hx⟩:=Vq.1 (show (zf C e _).bind _=some (v,s1) from hx);obtain ⟨S,k,q⟩:=jg R A dS;rw [q];exact Oc R (PR.zip (ps.toList.map (·.1)) k) hx P
 case load t x =>
  obtain ⟨u,I,hx⟩:=Vq.1 (show (jO C e x).bind _=some (v,s1) from hx);obtain ⟨⟨b,off,l,w⟩,hl,hx⟩:=Vq.1 hx;cases hx;obtain ⟨U,k,_,q⟩:=bG R A I;rw [q];obtain ⟨pl,l',w',k1,k2,k3,k4,k5⟩:=zm R k hl;exact k5 (fun _ _ v=>kk v) L K (P.here R k3)
 case store t x y =>
  obtain ⟨p,hp,hx⟩:=Vq.1 (show (jO C e x).bind _=some (v,s1) from hx);obtain ⟨u,I,hx⟩:=Vq.1 hx;obtain ⟨s2,B,hx⟩:=Vq.1 hx;cases hx;obtain ⟨p',k,_,q⟩:=bG R A hp;obtain ⟨U,E,_,F⟩:=bG R A I;rw [q,F];exact Jo R k E B fun h1 X=>P ρ undef h1 (Le.refl _) X ni
 case nilCheck x =>
  obtain ⟨u,I,hx⟩:=Vq.1 (show (jO C e x).bind _=some (v,s1) from hx);obtain ⟨j,B⟩:=dP.1 hx;subst B;clear hx;have hx:=j;obtain ⟨U,k,_,q⟩:=bG R A I;rw [q];unfold notNil at hx;split at hx
  ·cases hx;cases k with
   | ptr off H=>exact P.here R (.ptr off H)
  ·cases hx
 case binOp op t x y yt =>
  obtain ⟨a,D,hx⟩:=Vq.1 (show (jO C e x).bind _=some (v,s1) from hx);obtain ⟨b,H,hx⟩:=Vq.1 hx;obtain ⟨j,B⟩:=dP.1 hx;subst B;clear hx;have hx:=j;obtain ⟨a',k,_,q⟩:=bG R A D;obtain ⟨b',E,_,F⟩:=bG R A H;rw [q,F];obtain ⟨g5,G⟩:=O0 (h:=h) k E hx;exact G kk L K (P.here R g5)
 case unOp op t x =>
  obtain ⟨a,D,hx⟩:=Vq.1 (show (jO C e x).bind _=some (v,s1) from hx);obtain ⟨j,B⟩:=dP.1 hx;subst B;clear hx;have hx:=j;obtain ⟨a',k,_,q⟩:=bG R A D;rw [q];have g5:=(M5 (L:=[]) (K:=fun _ _=>True) (h:=h) (kk:=fun _ _ _ _=>True) k hx trivial).2;exact (M5 k hx (P.here R g5)).1
 case convert a d x =>
  obtain ⟨u,I,hx⟩:=Vq.1 (show (jO C e x).bind _=some (v,s1) from hx);obtain ⟨j,B⟩:=dP.1 hx;subst B;clear hx;have hx:=j;obtain ⟨U,k,_,q⟩:=bG R A I;rw [q];have g5:=(Dp (L:=[]) (K:=fun _ _=>True) (h:=h) (kk:=fun _ _ _ _=>True) k hx trivial).2;exact (Dp k hx (P.here R g5)).1
 case makeFunc fn fi ca =>
  cases fn <;> first | (cases hx; done) | skip
  rename_i f;obtain ⟨a,D,hx⟩:=Vq.1 (show (zf C e fi.toList).bind _=some (v,s1) from hx);obtain ⟨c,hc,hx⟩:=Vq.1 hx;cases hx;obtain ⟨a',k,q⟩:=jg R A D;obtain ⟨c',E,F⟩:=jg R A hc;rw [q,F];exact P.here R (.func f k E)
 case makeMap t r =>
  cases r with
  | some _=>cases hx
  | none=>exact I6 R hx P
 case makeSlice t l c =>
  obtain ⟨a,D,hx⟩:=Vq.1 (show (jO C e l).bind _=some (v,s1) from hx);obtain ⟨b,H,hx⟩:=Vq.1 hx;obtain ⟨a',k,_,q⟩:=bG R A D;obtain ⟨b',E,_,F⟩:=bG R A H;rw [q,F];exact Eh R k E hx P
 case lookup t m x ok =>
  obtain ⟨a,D,hx⟩:=Vq.1 (show (jO C e m).bind _=some (v,s1) from hx);obtain ⟨b,H,hx⟩:=Vq.1 hx;obtain ⟨j,B⟩:=dP.1 hx;subst B;clear hx;have hx:=j;obtain ⟨a',k,_,q⟩:=bG R A D;obtain ⟨b',E,_,F⟩:=bG R A H;rw [q,F];obtain ⟨v',g5,G⟩:=MK O R k E hx;exact G kk L K (P.here R g5)
 case mapUpdate t m x y =>
  obtain ⟨a,D,hx⟩:=Vq.1 (show (jO C e m).bind _=some (v,s1) from hx);obtain ⟨b,H,hx⟩:=Vq.1 hx;obtain ⟨c,hc,hx⟩:=Vq.1 hx;obtain ⟨s2,B,hx⟩:=Vq.1 hx;cases hx;obtain ⟨a',k,_,q⟩:=bG R A D;obtain ⟨b',E,_,F⟩:=bG R A H;obtain ⟨c',g5,_,G⟩:=bG R A hc;rw [q,F,G];exact Oq O R k E g5 B fun h1 X=>P ρ undef h1 (Le.refl _) X ni
 case slice t x lo hi mx =>
  obtain ⟨a,D,hx⟩:=Vq.1 (show (jO C e x).bind _=some (v,s1) from hx);obtain ⟨W,dS,hx⟩:=Vq.1 hx;obtain ⟨j,B⟩:=dP.1 hx;subst B;clear hx;have hx:=j;obtain ⟨a',k,_,q⟩:=bG R A D;obtain ⟨S,E,F⟩:=jg R A dS;rw [q,F];obtain ⟨v',g5,G⟩:=RU (h:=h) k E hx;exact G kk L K (P.here R g5)
 case fieldAddr t x f =>
  obtain ⟨a,D,hx⟩:=Vq.1 (show (jO C e x).bind _=some (v,s1) from hx);obtain ⟨j,B⟩:=dP.1 hx;subst B;clear hx;have hx:=j;obtain ⟨a',k,_,q⟩:=bG R A D;rw [q];obtain ⟨v',g5,G⟩:=Fv (h:=h) k hx;exact G kk L K (P.here R g5)
 case field t x f =>
  obtain ⟨a,D,hx⟩:=Vq.1 (show (jO C e x).bind _=some (v,s1) from hx);obtain ⟨cs,Y,hx⟩:=Vq.1 hx;obtain ⟨fd,Z,hx⟩:=Vq.1 hx;obtain ⟨M,B⟩:=dP.1 hx;subst B;obtain ⟨a',k,_,q⟩:=bG R A D;rw [q]
  have:=ug.1 Y
  subst this;have hx:=M;obtain ⟨fs,hd,hf⟩:=JM Z;cases k with
  | agg hl =>
  obtain ⟨v',g5,G⟩:=Mg (h:=h) hl hx;simp only [hd,hf];exact G kk L K (P.here R g5)
 case indexAddr t x i =>
  obtain ⟨a,D,hx⟩:=Vq.1 (show (jO C e x).bind _=some (v,s1) from hx);obtain ⟨b,H,hx⟩:=Vq.1 hx;obtain ⟨j,B⟩:=dP.1 hx;subst B;clear hx;have hx:=j;obtain ⟨a',k,_,q⟩:=bG R A D;obtain ⟨b',E,_,F⟩:=bG R A H;rw [q,F];obtain ⟨v',g5,G⟩:=KU (h:=h) k E hx;exact G kk L K (P.here R g5)
 case index t x i =>
  obtain ⟨a,D,hx⟩:=Vq.1 (show (jO C e x).bind _=some (v,s1) from hx);obtain ⟨b,H,hx⟩:=Vq.1 hx;obtain ⟨j,B⟩:=dP.1 hx;subst B;clear hx;have hx:=j;obtain ⟨a',k,_,q⟩:=bG R A D;obtain ⟨b',E,_,F⟩:=bG R A H;rw [q,F];obtain ⟨g5,G⟩:=NV (h:=h) k E hx;exact G kk L K (P.here R g5)
 case extract x i =>
  obtain ⟨a,D,hx⟩:=Vq.1 (show (jO C e x).bind _=some (v,s1) from hx);obtain ⟨W,dS,hx⟩:=Vq.1 hx;obtain ⟨M,B⟩:=dP.1 hx;subst B;obtain ⟨a',k,_,q⟩:=bG R A D;rw [q]
  have:=Dn.1 dS
  subst this;have hx:=M;cases k with
  | tuple hl =>
  obtain ⟨v',g5,G⟩:=hl.get hx;simp only [g5];exact P.here R G
end
end Go.Sx.Cr
