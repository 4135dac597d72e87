/- Part of the framework. No condition. -/
import Derived.Test.YtmdncdaladplkaaGreatDoorSxJf
set_option linter.all false
set_option maxHeartbeats 4000000
namespace Go.Sx.Cr
section
variable {C:Cx} {h0:Hp} {ρ:gX} {s s1:CS} {h:Hp} {e:Ev} {e':Env} {L:Lp} {K:Xab->Hp->Prop} {kk:Xab->T}
def Pp (R:Rel C h0 ρ s.σ h) (f:ER ρ e e') {c a b:Operand} {v:Xab} (d:Pt C e s c a b=some (v,s1)) (P:oW C h0 ρ s1 v kk L K) :
  (cd e' c fun c=>match c with
  | .bool b'=>cond b' (cd e' a kk) (cd e' b kk)
  | _=>T.fail) L K h:=by
 unfold Pt at d;obtain ⟨u,k,d⟩:=aa9.1 d;obtain ⟨m,j,_,l⟩:=bT R f k;rw [l];split at d
 ·cases j;obtain ⟨h1,rfl⟩:=ey.1 d;obtain ⟨v',g,_,i⟩:=bT R f h1;simp only [cond_true];rw [i];exact P.here R g
 ·cases j;obtain ⟨h1,rfl⟩:=ey.1 d;obtain ⟨v',g,_,i⟩:=bT R f h1;simp only [cond_false];rw [i];exact P.here R g
 ·cases d
variable {H:TypeId}
def Ju (O:Ok C) {call:gp} (l:ox C h0 call) (R:Rel C h0 ρ s.σ h) {f:FuncId} {g b:List Xab} {v:Xab} (hv:et ρ g b) (a:Je C call H s f g=some (v,s1)) (P:oW C h0 ρ s1 v kk L K) :
  DQ C.P f b H kk L K h:=by
 unfold Je at a;unfold DQ;cases j:fX C.P f with
 | true =>
  rw [j] at a;simp only at a ⊢;obtain ⟨h1,h2⟩:=uR.1 a;cases i:Nat.beq f C.UT with
  | true =>
   rw [i] at h1;obtain rfl:f=C.UT:=av9 i;exact Eh (JQ O R hv h1) h2 P
  | false =>
   rw [i] at h1;exact Eh (l f g s v s1 h1 ρ h b R hv) h2 P
 | false =>
  rw [j] at a;simp only at a ⊢;obtain ⟨hi,c⟩:=bt.1 a;clear a;obtain rfl:f=C.idx:=av9 hi;obtain ⟨h1,h2⟩:=uR.1 c;clear c;obtain ⟨d,rfl⟩:=ey.1 h1;clear h1;unfold Ou at d;split at d
  ·cases d;cases hv with
   | cons m hv =>
   cases hv with
   | cons n hv =>
   cases hv; cases m; cases n;obtain ⟨y,k⟩:=wU (.int (ρ:=ρ) _ _) h2;refine O.idx _ _ h _ ⟨y,k,?_⟩;rw [dP,<- k];exact P.here R (.int _ _)
  ·cases d
def MI {call:gp} (m:ox C h0 call) (R:Rel C h0 ρ s.σ h) {g j:Xab} {k a:List Xab} {v:Xab} (n:VR ρ g j) (hv:et ρ k a) (b:PL C call H s g k=some (v,s1)) (P:oW C h0 ρ s1 v kk L K) :
  T.wB C.P j a (lM C.P H).1 (lM C.P H).2 (jJ _ fun l=>kk (rv (lM C.P H).1 (lM C.P H).2 l)) L K h:=by
 unfold PL at b;split at b
 ·rename_i f r u;obtain ⟨c,b⟩:=bt.1 b;obtain ⟨h1,h2⟩:=uR.1 b;cases n with
  | @func _ _ d _ i o p =>
  refine ⟨f,⟨d⟩,⟨i⟩,rfl,?_,?_⟩
  ·have:=Eh (t:=H) (kk:=kk) (L:=L) (K:=K) (m f _ s v s1 h1 ρ h (d++a++i) R ((o.append hv).append p)) h2 P
   exact this
  ·unfold fX at c;split at c
   ·rename_i fn q;simp only [Bool.and_eq_true,Bool.not_eq_true',beq_eq_false_iff_ne] at c;exact ⟨fn,q,c.1,c.2⟩
   ·cases c
 ·cases b
variable {O:Call}
def Hv (R:Rel C h0 ρ s.σ h) {b:Builtin} {l f:List Xab} {v:Xab} (hv:et ρ l f) (a:AR C b H O l s=some (v,s1)) (P:oW C h0 ρ s1 v kk L K) :
  sI C.P b O H f kk L K h:=by
 unfold AR at a;split at a
 ·obtain ⟨u,m,a⟩:=aa9.1 a;obtain ⟨d,g⟩:=ey.1 a;subst g;obtain ⟨n,rfl,i⟩:=Kz hv m;obtain ⟨j,k⟩:=R0 (t:=H) R i d;exact k kk L K (P.here R j)
 ·exact IC R hv a P
 ·obtain ⟨d,g⟩:=ey.1 a;subst g;obtain ⟨j,k⟩:=SR (h:=h) (ts:=O.argTypes) hv d;exact k kk L K (P.here R j)
 ·cases a
def PZ (a:Ok C) {call:gp} (n:ox C h0 call) (R:Rel C h0 ρ s.σ h) (j:ER ρ e e') {v:Xab} (d:RF C call e s H O=some (v,s1)) (P:oW C h0 ρ s1 v kk L K) (o:Oper) (p:o.op=.call O) (ht:o.type=H) :
  vD C.P o e' kk L K h:=by
 unfold RF at d;obtain ⟨A,ep,d⟩:=aa9.1 d;obtain ⟨q,k,i⟩:=jX R j ep;unfold vD;rw [p];simp only;obtain ⟨callee,args,argTypes⟩:=O;simp only at d i ⊢;subst ht;cases callee with
 | builtin b =>
  simp only at d ⊢;rw [i];exact Hv R k d P
 | value g =>
  cases g with
  | func f =>
   simp only [GD] at d ⊢;obtain ⟨w,l,r,m⟩:=bT R j (x:=.func f) (v:=.func (.func f) #[] #[]) rfl;rw [m,i];cases l with
   | func f u y =>
   cases u; cases y;simp only [List.nil_append,List.append_nil];exact Ju a n R k d P
  | tmp H =>
   simp only [GD] at d ⊢;obtain ⟨g,z,d⟩:=aa9.1 d;obtain ⟨w,l,r,m⟩:=bT R j (x:=.tmp H) z;rw [m,i];exact MI n R l k d P
  | const _=>cases d
  | global _=>cases d
 | invoke _ _=>cases d
def Ix (O:Ok C) {call:gp} (CO:ox C h0 call) (R:Rel C h0 ρ s.σ h) (A:ER ρ e e') {o:Oper} {v:Xab} (hx:Xs C call o e s=some (v,s1)) (P:oW C h0 ρ s1 v kk L K):vD C.P o e' kk L K h:=by
 unfold Xs at hx;cases J:o.op <;> simp only [J] at hx <;> first
  | (cases hx; done)
  | (exact PZ O CO R A hx P o J rfl)
  | (unfold vD; simp only [J])
  | skip
 case move x =>
  obtain ⟨j,B⟩:=ey.1 hx;subst B;clear hx;have hx:=j;obtain ⟨v',k,_,q⟩:=bT R A hx;rw [q]; exact P.here R k
 case assign x =>
  obtain ⟨j,B⟩:=ey.1 hx;subst B;clear hx;have hx:=j;obtain ⟨v',k,_,q⟩:=bT R A hx;rw [q]; exact P.here R k
 case pick c a b=>exact Pp R A hx P
 case alloc t =>
  obtain ⟨z,hz,hx⟩:=aa9.1 hx;obtain ⟨zv,h1,rfl,h2⟩:=BN hz;simp only [h1];exact EO R (h2 ρ) hx P
 case box t x =>
  obtain ⟨u,I,hx⟩:=aa9.1 (show (kU C e x).bind _=some (v,s1) from hx);obtain ⟨g,hg,hx⟩:=aa9.1 hx;obtain ⟨l,hl,N⟩:=aa9.1 hx;obtain ⟨U,k,_,q⟩:=bT R A I;rw [q];obtain ⟨D,l',Q,V⟩:=uF k hl;subst V;cases g with
  | true=>simp only [hg,D,cond_true]; exact EO R Q N P
  | false=>simp only [hg,D,cond_false]; exact EO R Q N P
 case build t ps =>
  obtain ⟨W,ep,hx⟩:=aa9.1 (show (A' C e _).bind _=some (v,s1) from hx);obtain ⟨j,B⟩:=ey.1 hx;subst B;clear hx;have hx:=j;obtain ⟨S,k,q⟩:=jX R A ep;rw [q];obtain ⟨v',E,F⟩:=L5 (h:=h) (PR.zip (ps.toList.map (·.1)) k) hx;exact F kk L K (P.here R E)
 case buildSlice t n ps =>
  obtain ⟨W,ep,hx⟩:=aa9.1 (show (A' C e _).bind _=some (v,s1) from hx);obtain ⟨S,k,q⟩:=jX R A ep;rw [q];exact SC R (PR.zip (ps.toList.map (·.1)) k) hx P
 case load t x =>
  obtain ⟨u,I,hx⟩:=aa9.1 (show (kU C e x).bind _=some (v,s1) from hx);obtain ⟨⟨b,off,l,w⟩,hl,hx⟩:=aa9.1 hx;cases hx;obtain ⟨U,k,_,q⟩:=bT R A I;rw [q];obtain ⟨pl,l',w',k1,k2,k3,k4,k5⟩:=Bd R k hl;exact k5 (fun _ _ v=>kk v) L K (P.here R k3)
 case store t x y =>
  obtain ⟨p,hp,hx⟩:=aa9.1 (show (kU C e x).bind _=some (v,s1) from hx);obtain ⟨u,I,hx⟩:=aa9.1 hx;obtain ⟨s2,B,hx⟩:=aa9.1 hx;cases hx;obtain ⟨p',k,_,q⟩:=bT R A hp;obtain ⟨U,E,_,F⟩:=bT R A I;rw [q,F];exact MT R k E B fun h1 X=>P ρ undef h1 (Le.refl _) X oN
 case nilCheck x =>
  obtain ⟨u,I,hx⟩:=aa9.1 (show (kU C e x).bind _=some (v,s1) from hx);obtain ⟨j,B⟩:=ey.1 hx;subst B;clear hx;have hx:=j;obtain ⟨U,k,_,q⟩:=bT R A I;rw [q];unfold notNil at hx;split at hx
  ·cases hx;cases k with
   | ptr off H=>exact P.here R (.ptr off H)
  ·cases hx
 case binOp op t x y yt =>
  obtain ⟨a,D,hx⟩:=aa9.1 (show (kU C e x).bind _=some (v,s1) from hx);obtain ⟨b,H,hx⟩:=aa9.1 hx;obtain ⟨j,B⟩:=ey.1 hx;subst B;clear hx;have hx:=j;obtain ⟨a',k,_,q⟩:=bT R A D;obtain ⟨b',E,_,F⟩:=bT R A H;rw [q,F];obtain ⟨g5,G⟩:=TJ (h:=h) k E hx;exact G kk L K (P.here R g5)
 case unOp op t x =>
  obtain ⟨a,D,hx⟩:=aa9.1 (show (kU C e x).bind _=some (v,s1) from hx);obtain ⟨j,B⟩:=ey.1 hx;subst B;clear hx;have hx:=j;obtain ⟨a',k,_,q⟩:=bT R A D;rw [q];have g5:=(Rc (L:=[]) (K:=fun _ _=>True) (h:=h) (kk:=fun _ _ _ _=>True) k hx trivial).2;exact (Rc k hx (P.here R g5)).1
 case convert a d x =>
  obtain ⟨u,I,hx⟩:=aa9.1 (show (kU C e x).bind _=some (v,s1) from hx);obtain ⟨j,B⟩:=ey.1 hx;subst B;clear hx;have hx:=j;obtain ⟨U,k,_,q⟩:=bT R A I;rw [q];have g5:=(F2 (L:=[]) (K:=fun _ _=>True) (h:=h) (kk:=fun _ _ _ _=>True) k hx trivial).2;exact (F2 k hx (P.here R g5)).1
 case makeFunc fn fi ca =>
  cases fn <;> first | (cases hx; done) | skip
  rename_i f;obtain ⟨a,D,hx⟩:=aa9.1 (show (A' C e fi.toList).bind _=some (v,s1) from hx);obtain ⟨c,hc,hx⟩:=aa9.1 hx;cases hx;obtain ⟨a',k,q⟩:=jX R A D;obtain ⟨c',E,F⟩:=jX R A hc;rw [q,F];exact P.here R (.func f k E)
 case makeMap t r =>
  cases r with
  | some _=>cases hx
  | none=>exact MA R hx P
 case makeSlice t l c =>
  obtain ⟨a,D,hx⟩:=aa9.1 (show (kU C e l).bind _=some (v,s1) from hx);obtain ⟨b,H,hx⟩:=aa9.1 hx;obtain ⟨a',k,_,q⟩:=bT R A D;obtain ⟨b',E,_,F⟩:=bT R A H;rw [q,F];exact G1 R k E hx P
 case lookup t m x ok =>
  obtain ⟨a,D,hx⟩:=aa9.1 (show (kU C e m).bind _=some (v,s1) from hx);obtain ⟨b,H,hx⟩:=aa9.1 hx;obtain ⟨j,B⟩:=ey.1 hx;subst B;clear hx;have hx:=j;obtain ⟨a',k,_,q⟩:=bT R A D;obtain ⟨b',E,_,F⟩:=bT R A H;rw [q,F];obtain ⟨v',g5,G⟩:=QK O R k E hx;exact G kk L K (P.here R g5)
 case mapUpdate t m x y =>
  obtain ⟨a,D,hx⟩:=aa9.1 (show (kU C e m).bind _=some (v,s1) from hx);obtain ⟨b,H,hx⟩:=aa9.1 hx;obtain ⟨c,hc,hx⟩:=aa9.1 hx;obtain ⟨s2,B,hx⟩:=aa9.1 hx;cases hx;obtain ⟨a',k,_,q⟩:=bT R A D;obtain ⟨b',E,_,F⟩:=bT R A H;obtain ⟨c',g5,_,G⟩:=bT R A hc;rw [q,F,G];exact SV O R k E g5 B fun h1 X=>P ρ undef h1 (Le.refl _) X oN
 case slice t x lo hi mx =>
  obtain ⟨a,D,hx⟩:=aa9.1 (show (kU C e x).bind _=some (v,s1) from hx);obtain ⟨W,ep,hx⟩:=aa9.1 hx;obtain ⟨j,B⟩:=ey.1 hx;subst B;clear hx;have hx:=j;obtain ⟨a',k,_,q⟩:=bT R A D;obtain ⟨S,E,F⟩:=jX R A ep;rw [q,F];obtain ⟨v',g5,G⟩:=Xc (h:=h) k E hx;exact G kk L K (P.here R g5)
 case fieldAddr t x f =>
  obtain ⟨a,D,hx⟩:=aa9.1 (show (kU C e x).bind _=some (v,s1) from hx);obtain ⟨j,B⟩:=ey.1 hx;subst B;clear hx;have hx:=j;obtain ⟨a',k,_,q⟩:=bT R A D;rw [q];obtain ⟨v',g5,G⟩:=H5 (h:=h) k hx;exact G kk L K (P.here R g5)
 case field t x f =>
  obtain ⟨a,D,hx⟩:=aa9.1 (show (kU C e x).bind _=some (v,s1) from hx);obtain ⟨cs,Y,hx⟩:=aa9.1 hx;obtain ⟨fd,Z,hx⟩:=aa9.1 hx;obtain ⟨M,B⟩:=ey.1 hx;subst B;obtain ⟨a',k,_,q⟩:=bT R A D;rw [q]
  have:=vW.1 Y
  subst this;have hx:=M;obtain ⟨fs,hd,hf⟩:=Nj Z;cases k with
  | agg hl =>
  obtain ⟨v',g5,G⟩:=P5 (h:=h) hl hx;simp only [hd,hf];exact G kk L K (P.here R g5)
 case indexAddr t x i =>
  obtain ⟨a,D,hx⟩:=aa9.1 (show (kU C e x).bind _=some (v,s1) from hx);obtain ⟨b,H,hx⟩:=aa9.1 hx;obtain ⟨j,B⟩:=ey.1 hx;subst B;clear hx;have hx:=j;obtain ⟨a',k,_,q⟩:=bT R A D;obtain ⟨b',E,_,F⟩:=bT R A H;rw [q,F];obtain ⟨v',g5,G⟩:=OD (h:=h) k E hx;exact G kk L K (P.here R g5)
 case index t x i =>
  obtain ⟨a,D,hx⟩:=aa9.1 (show (kU C e x).bind _=some (v,s1) from hx);obtain ⟨b,H,hx⟩:=aa9.1 hx;obtain ⟨j,B⟩:=ey.1 hx;subst B;clear hx;have hx:=j;obtain ⟨a',k,_,q⟩:=bT R A D;obtain ⟨b',E,_,F⟩:=bT R A H;rw [q,F];obtain ⟨g5,G⟩:=Sb (h:=h) k E hx;exact G kk L K (P.here R g5)
 case extract x i =>
  obtain ⟨a,D,hx⟩:=aa9.1 (show (kU C e x).bind _=some (v,s1) from hx);obtain ⟨W,ep,hx⟩:=aa9.1 hx;obtain ⟨M,B⟩:=ey.1 hx;subst B;obtain ⟨a',k,_,q⟩:=bT R A D;rw [q]
  have:=F1.1 ep
  subst this;have hx:=M;cases k with
  | tuple hl =>
  obtain ⟨v',g5,G⟩:=hl.get hx;simp only [g5];exact P.here R G
end
end Go.Sx.Cr
