/- Part of the framework. No condition. -/
import Derived.Test.YtmdncdaladplkaaGreatDoorSxJf
set_option linter.all false
set_option maxHeartbeats 4000000
namespace Go.Sx.Cr
section
variable {C:Cx} {h0:Hp} {ρ:iG} {s s1:CS} {h:Hp} {e:Ev} {e':Env} {L:Lp} {K:Xab->Hp->Prop} {kk:Xab->T}
def Qg (R:Rel C h0 ρ s.σ h) (f:ER ρ e e') {c a b:Operand} {v:Xab} (d:Qm C e s c a b=some (v,s1)) (P:pJ C h0 ρ s1 v kk L K) :
  (cd e' c λc=>match c with
  | .bool b'=>cond b' (cd e' a kk) (cd e' b kk)
  | _=>T.fail) L K h:=by
 unfold Qm at d;obtain ⟨u,k,d⟩:=aa9.1 d;obtain ⟨m,j,_,l⟩:=bQ R f k;rw [l];split at d
 ·cases j;obtain ⟨h1,rfl⟩:=eD.1 d;obtain ⟨v',g,_,i⟩:=bQ R f h1;simp only [cond_true];rw [i];exact P.here R g
 ·cases j;obtain ⟨h1,rfl⟩:=eD.1 d;obtain ⟨v',g,_,i⟩:=bQ R f h1;simp only [cond_false];rw [i];exact P.here R g
 ·cases d
variable {H:TypeId}
def Kc (O:Ok C) {call:gY} (l:oU C h0 call) (R:Rel C h0 ρ s.σ h) {f:FuncId} {g b:List Xab} {v:Xab} (hv:eA ρ g b) (a:JV C call H s f g=some (v,s1)) (P:pJ C h0 ρ s1 v kk L K) :
  Et C.P f b H kk L K h:=by
 unfold JV at a;unfold Et;cases j:gC C.P f with
 | true =>
  rw [j] at a;simp only at a ⊢;obtain ⟨h1,h2⟩:=vP.1 a;cases i:Nat.beq f C.VY with
  | true =>
   rw [i] at h1;obtain rfl:f=C.VY:=av9 i;exact EV (KA O R hv h1) h2 P
  | false =>
   rw [i] at h1;exact EV (l f g s v s1 h1 ρ h b R hv) h2 P
 | false =>
  rw [j] at a;simp only at a ⊢;obtain ⟨hi,c⟩:=bt.1 a;clear a;obtain rfl:f=C.idx:=av9 hi;obtain ⟨h1,h2⟩:=vP.1 c;clear c;obtain ⟨d,rfl⟩:=eD.1 h1;clear h1;unfold Pm at d;split at d
  ·cases d;cases hv with
   | cons m hv =>
   cases hv with
   | cons n hv =>
   cases hv; cases m; cases n;obtain ⟨y,k⟩:=xC (.int (ρ:=ρ) _ _) h2;refine O.idx _ _ h _ ⟨y,k,?_⟩;rw [dX,<- k];exact P.here R (.int _ _)
  ·cases d
def ND {call:gY} (m:oU C h0 call) (R:Rel C h0 ρ s.σ h) {g j:Xab} {k a:List Xab} {v:Xab} (n:VR ρ g j) (hv:eA ρ k a) (b:QG C call H s g k=some (v,s1)) (P:pJ C h0 ρ s1 v kk L K) :
  T.xk C.P j a (mv C.P H).1 (mv C.P H).2 (j7 _ λl=>kk (rv (mv C.P H).1 (mv C.P H).2 l)) L K h:=by
 unfold QG at b;split at b
 ·rename_i f r u;obtain ⟨c,b⟩:=bt.1 b;obtain ⟨h1,h2⟩:=vP.1 b;cases n with
  | @func _ _ d _ i o p =>
  refine ⟨f,⟨d⟩,⟨i⟩,rfl,?_,?_⟩
  ·have:=EV (t:=H) (kk:=kk) (L:=L) (K:=K) (m f _ s v s1 h1 ρ h (d++a++i) R ((o.append hv).append p)) h2 P
   exact this
  ·unfold gC at c;split at c
   ·rename_i fn q;simp only [Bool.and_eq_true,Bool.not_eq_true',beq_eq_false_iff_ne] at c;exact ⟨fn,q,c.1,c.2⟩
   ·cases c
 ·cases b
variable {O:Call}
def H' (R:Rel C h0 ρ s.σ h) {b:Builtin} {l f:List Xab} {v:Xab} (hv:eA ρ l f) (a:Bf C b H O l s=some (v,s1)) (P:pJ C h0 ρ s1 v kk L K) :
  tC C.P b O H f kk L K h:=by
 unfold Bf at a;split at a
 ·obtain ⟨u,m,a⟩:=aa9.1 a;obtain ⟨d,g⟩:=eD.1 a;subst g;obtain ⟨n,rfl,i⟩:=Lj hv m;obtain ⟨j,k⟩:=Tb (t:=H) R i d;exact k kk L K (P.here R j)
 ·exact Jo R hv a P
 ·obtain ⟨d,g⟩:=eD.1 a;subst g;obtain ⟨j,k⟩:=TY (h:=h) (ts:=O.argTypes) hv d;exact k kk L K (P.here R j)
 ·cases a
def QX (a:Ok C) {call:gY} (n:oU C h0 call) (R:Rel C h0 ρ s.σ h) (j:ER ρ e e') {v:Xab} (d:SM C call e s H O=some (v,s1)) (P:pJ C h0 ρ s1 v kk L K) (o:Oper) (p:o.op=.call O) (ht:o.type=H) :
  wy C.P o e' kk L K h:=by
 unfold SM at d;obtain ⟨A,et,d⟩:=aa9.1 d;obtain ⟨q,k,i⟩:=kx R j et;unfold wy;rw [p];simp only;obtain ⟨callee,args,argTypes⟩:=O;simp only at d i ⊢;subst ht;cases callee with
 | builtin b =>
  simp only at d ⊢;rw [i];exact H' R k d P
 | value g =>
  cases g with
  | func f =>
   simp only [Hi] at d ⊢;obtain ⟨w,l,r,m⟩:=bQ R j (x:=.func f) (v:=.func (.func f) #[] #[]) rfl;rw [m,i];cases l with
   | func f u y =>
   cases u; cases y;simp only [List.nil_append,List.append_nil];exact Kc a n R k d P
  | tmp H =>
   simp only [Hi] at d ⊢;obtain ⟨g,z,d⟩:=aa9.1 d;obtain ⟨w,l,r,m⟩:=bQ R j (x:=.tmp H) z;rw [m,i];exact ND n R l k d P
  | const _=>cases d
  | global _=>cases d
 | invoke _ _=>cases d
def Jh (O:Ok C) {call:gY} (CO:oU C h0 call) (R:Rel C h0 ρ s.σ h) (A:ER ρ e e') {o:Oper} {v:Xab} (hx:Yx C call o e s=some (v,s1)) (P:pJ C h0 ρ s1 v kk L K):wy C.P o e' kk L K h:=by
 unfold Yx at hx;cases J:o.op <;> simp only [J] at hx <;> first
  | (cases hx; done)
  | (exact QX O CO R A hx P o J rfl)
  | (unfold wy; simp only [J])
  | skip
 case move x =>
  obtain ⟨j,B⟩:=eD.1 hx;subst B;clear hx;have hx:=j;obtain ⟨v',k,_,q⟩:=bQ R A hx;rw [q]; exact P.here R k
 case assign x =>
  obtain ⟨j,B⟩:=eD.1 hx;subst B;clear hx;have hx:=j;obtain ⟨v',k,_,q⟩:=bQ R A hx;rw [q]; exact P.here R k
 case pick c a b=>exact Qg R A hx P
 case alloc t =>
  obtain ⟨z,hz,hx⟩:=aa9.1 hx;obtain ⟨zv,h1,rfl,h2⟩:=Cj hz;simp only [h1];exact Fz R (h2 ρ) hx P
 case box t x =>
  obtain ⟨u,I,hx⟩:=aa9.1 (show (lJ C e x).bind _=some (v,s1) from hx);obtain ⟨g,hg,hx⟩:=aa9.1 hx;obtain ⟨l,hl,N⟩:=aa9.1 hx;obtain ⟨U,k,_,q⟩:=bQ R A I;rw [q];obtain ⟨D,l',Q,V⟩:=vA k hl;subst V;cases g with
  | true=>simp only [hg,D,cond_true]; exact Fz R Q N P
  | false=>simp only [hg,D,cond_false]; exact Fz R Q N P
 case build t ps =>
  obtain ⟨W,et,hx⟩:=aa9.1 (show (BA C e _).bind _=some (v,s1) from hx);obtain ⟨j,B⟩:=eD.1 hx;subst B;clear hx;have hx:=j;obtain ⟨S,k,q⟩:=kx R A et;rw [q];obtain ⟨v',E,F⟩:=MT (h:=h) (PR.zip (ps.toList.map (·.1)) k) hx;exact F kk L K (P.here R E)
 case buildSlice t n ps =>
  obtain ⟨W,et,hx⟩:=aa9.1 (show (BA C e _).bind _=some (v,s1) from hx);obtain ⟨S,k,q⟩:=kx R A et;rw [q];exact TL R (PR.zip (ps.toList.map (·.1)) k) hx P
 case load t x =>
  obtain ⟨u,I,hx⟩:=aa9.1 (show (lJ C e x).bind _=some (v,s1) from hx);obtain ⟨⟨b,off,l,w⟩,hl,hx⟩:=aa9.1 hx;cases hx;obtain ⟨U,k,_,q⟩:=bQ R A I;rw [q];obtain ⟨pl,l',w',k1,k2,k3,k4,k5⟩:=BG R k hl;exact k5 (λ_ _ v=>kk v) L K (P.here R k3)
 case store t x y =>
  obtain ⟨p,hp,hx⟩:=aa9.1 (show (lJ C e x).bind _=some (v,s1) from hx);obtain ⟨u,I,hx⟩:=aa9.1 hx;obtain ⟨s2,B,hx⟩:=aa9.1 hx;cases hx;obtain ⟨p',k,_,q⟩:=bQ R A hp;obtain ⟨U,E,_,F⟩:=bQ R A I;rw [q,F];exact NN R k E B λh1 X=>P ρ undef h1 (Le.refl _) X pA
 case nilCheck x =>
  obtain ⟨u,I,hx⟩:=aa9.1 (show (lJ C e x).bind _=some (v,s1) from hx);obtain ⟨j,B⟩:=eD.1 hx;subst B;clear hx;have hx:=j;obtain ⟨U,k,_,q⟩:=bQ R A I;rw [q];unfold notNil at hx;split at hx
  ·cases hx;cases k with
   | ptr off H=>exact P.here R (.ptr off H)
  ·cases hx
 case binOp op t x y yt =>
  obtain ⟨a,D,hx⟩:=aa9.1 (show (lJ C e x).bind _=some (v,s1) from hx);obtain ⟨b,H,hx⟩:=aa9.1 hx;obtain ⟨j,B⟩:=eD.1 hx;subst B;clear hx;have hx:=j;obtain ⟨a',k,_,q⟩:=bQ R A D;obtain ⟨b',E,_,F⟩:=bQ R A H;rw [q,F];obtain ⟨g5,G⟩:=UL (h:=h) k E hx;exact G kk L K (P.here R g5)
 case unOp op t x =>
  obtain ⟨a,D,hx⟩:=aa9.1 (show (lJ C e x).bind _=some (v,s1) from hx);obtain ⟨j,B⟩:=eD.1 hx;subst B;clear hx;have hx:=j;obtain ⟨a',k,_,q⟩:=bQ R A D;rw [q];have g5:=(R8 (L:=[]) (K:=λ_ _=>True) (h:=h) (kk:=λ_ _ _ _=>True) k hx trivial).2;exact (R8 k hx (P.here R g5)).1
 case convert a d x =>
  obtain ⟨u,I,hx⟩:=aa9.1 (show (lJ C e x).bind _=some (v,s1) from hx);obtain ⟨j,B⟩:=eD.1 hx;subst B;clear hx;have hx:=j;obtain ⟨U,k,_,q⟩:=bQ R A I;rw [q];have g5:=(GD (L:=[]) (K:=λ_ _=>True) (h:=h) (kk:=λ_ _ _ _=>True) k hx trivial).2;exact (GD k hx (P.here R g5)).1
 case makeFunc fn fi ca =>
  cases fn <;> first | (cases hx; done) | skip
  rename_i f;obtain ⟨a,D,hx⟩:=aa9.1 (show (BA C e fi.toList).bind _=some (v,s1) from hx);obtain ⟨c,hc,hx⟩:=aa9.1 hx;cases hx;obtain ⟨a',k,q⟩:=kx R A D;obtain ⟨c',E,F⟩:=kx R A hc;rw [q,F];exact P.here R (.func f k E)
 case makeMap t r =>
  cases r with
  | some _=>cases hx
  | none=>exact Nu R hx P
 case makeSlice t l c =>
  obtain ⟨a,D,hx⟩:=aa9.1 (show (lJ C e l).bind _=some (v,s1) from hx);obtain ⟨b,H,hx⟩:=aa9.1 hx;obtain ⟨a',k,_,q⟩:=bQ R A D;obtain ⟨b',E,_,F⟩:=bQ R A H;rw [q,F];exact HG R k E hx P
 case lookup t m x ok =>
  obtain ⟨a,D,hx⟩:=aa9.1 (show (lJ C e m).bind _=some (v,s1) from hx);obtain ⟨b,H,hx⟩:=aa9.1 hx;obtain ⟨j,B⟩:=eD.1 hx;subst B;clear hx;have hx:=j;obtain ⟨a',k,_,q⟩:=bQ R A D;obtain ⟨b',E,_,F⟩:=bQ R A H;rw [q,F];obtain ⟨v',g5,G⟩:=RH O R k E hx;exact G kk L K (P.here R g5)
 case mapUpdate t m x y =>
  obtain ⟨a,D,hx⟩:=aa9.1 (show (lJ C e m).bind _=some (v,s1) from hx);obtain ⟨b,H,hx⟩:=aa9.1 hx;obtain ⟨c,hc,hx⟩:=aa9.1 hx;obtain ⟨s2,B,hx⟩:=aa9.1 hx;cases hx;obtain ⟨a',k,_,q⟩:=bQ R A D;obtain ⟨b',E,_,F⟩:=bQ R A H;obtain ⟨c',g5,_,G⟩:=bQ R A hc;rw [q,F,G];exact T2 O R k E g5 B λh1 X=>P ρ undef h1 (Le.refl _) X pA
 case slice t x lo hi mx =>
  obtain ⟨a,D,hx⟩:=aa9.1 (show (lJ C e x).bind _=some (v,s1) from hx);obtain ⟨W,et,hx⟩:=aa9.1 hx;obtain ⟨j,B⟩:=eD.1 hx;subst B;clear hx;have hx:=j;obtain ⟨a',k,_,q⟩:=bQ R A D;obtain ⟨S,E,F⟩:=kx R A et;rw [q,F];obtain ⟨v',g5,G⟩:=Yf (h:=h) k E hx;exact G kk L K (P.here R g5)
 case fieldAddr t x f =>
  obtain ⟨a,D,hx⟩:=aa9.1 (show (lJ C e x).bind _=some (v,s1) from hx);obtain ⟨j,B⟩:=eD.1 hx;subst B;clear hx;have hx:=j;obtain ⟨a',k,_,q⟩:=bQ R A D;rw [q];obtain ⟨v',g5,G⟩:=IL (h:=h) k hx;exact G kk L K (P.here R g5)
 case field t x f =>
  obtain ⟨a,D,hx⟩:=aa9.1 (show (lJ C e x).bind _=some (v,s1) from hx);obtain ⟨cs,Y,hx⟩:=aa9.1 hx;obtain ⟨fd,Z,hx⟩:=aa9.1 hx;obtain ⟨M,B⟩:=eD.1 hx;subst B;obtain ⟨a',k,_,q⟩:=bQ R A D;rw [q]
  have:=wQ.1 Y
  subst this;have hx:=M;obtain ⟨fs,hd,hf⟩:=Oc Z;cases k with
  | agg hl =>
  obtain ⟨v',g5,G⟩:=Q3 (h:=h) hl hx;simp only [hd,hf];exact G kk L K (P.here R g5)
 case indexAddr t x i =>
  obtain ⟨a,D,hx⟩:=aa9.1 (show (lJ C e x).bind _=some (v,s1) from hx);obtain ⟨b,H,hx⟩:=aa9.1 hx;obtain ⟨j,B⟩:=eD.1 hx;subst B;clear hx;have hx:=j;obtain ⟨a',k,_,q⟩:=bQ R A D;obtain ⟨b',E,_,F⟩:=bQ R A H;rw [q,F];obtain ⟨v',g5,G⟩:=Pv (h:=h) k E hx;exact G kk L K (P.here R g5)
 case index t x i =>
  obtain ⟨a,D,hx⟩:=aa9.1 (show (lJ C e x).bind _=some (v,s1) from hx);obtain ⟨b,H,hx⟩:=aa9.1 hx;obtain ⟨j,B⟩:=eD.1 hx;subst B;clear hx;have hx:=j;obtain ⟨a',k,_,q⟩:=bQ R A D;obtain ⟨b',E,_,F⟩:=bQ R A H;rw [q,F];obtain ⟨g5,G⟩:=Tm (h:=h) k E hx;exact G kk L K (P.here R g5)
 case extract x i =>
  obtain ⟨a,D,hx⟩:=aa9.1 (show (lJ C e x).bind _=some (v,s1) from hx);obtain ⟨W,et,hx⟩:=aa9.1 hx;obtain ⟨M,B⟩:=eD.1 hx;subst B;obtain ⟨a',k,_,q⟩:=bQ R A D;rw [q]
  have:=GC.1 et
  subst this;have hx:=M;cases k with
  | tuple hl =>
  obtain ⟨v',g5,G⟩:=hl.get hx;simp only [g5];exact P.here R G
end
end Go.Sx.Cr
