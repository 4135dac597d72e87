/- Part of the framework. No condition. -/
import Derived.Test.YtmdncdaladplkaaGreatDoorSxJf
set_option linter.all false
set_option maxHeartbeats 4000000
namespace Go.Sx.Cr
section
variable {C:Cx} {h0:Hp} {ρ:iv} {s s1:CS} {h:Hp} {e:Ev} {e':Env} {L:Lp} {K:Xab->Hp->Prop} {kk:Xab->T}
def Py (R:Rel C h0 ρ s.σ h) (f:ER ρ e e') {c a b:Operand} {v:Xab} (d:PC C e s c a b=some (v,s1)) (P:oV C h0 ρ s1 v kk L K) :
  (ct e' c fun c=>match c with
  | .bool b'=>cond b' (ct e' a kk) (ct e' b kk)
  | _=>T.fail) L K h:=by
 unfold PC at d;obtain ⟨u,k,d⟩:=aa9.1 d;obtain ⟨m,j,_,l⟩:=bX R f k;rw [l];split at d
 ·cases j;obtain ⟨h1,rfl⟩:=eA.1 d;obtain ⟨v',g,_,i⟩:=bX R f h1;simp only [cond_true];rw [i];exact P.here R g
 ·cases j;obtain ⟨h1,rfl⟩:=eA.1 d;obtain ⟨v',g,_,i⟩:=bX R f h1;simp only [cond_false];rw [i];exact P.here R g
 ·cases d
variable {H:TypeId}
def Jz (O:Ok C) {call:gJ} (l:ov C h0 call) (R:Rel C h0 ρ s.σ h) {f:FuncId} {g b:List Xab} {v:Xab} (hv:eu ρ g b) (a:Jj C call H s f g=some (v,s1)) (P:oV C h0 ρ s1 v kk L K) :
  D3 C.P f b H kk L K h:=by
 unfold Jj at a;unfold D3;cases j:gi C.P f with
 | true =>
  rw [j] at a;simp only at a ⊢;obtain ⟨h1,h2⟩:=uU.1 a;cases i:Nat.beq f C.U9 with
  | true =>
   rw [i] at h1;obtain rfl:f=C.U9:=au9 i;exact Et (JU O R hv h1) h2 P
  | false =>
   rw [i] at h1;exact Et (l f g s v s1 h1 ρ h b R hv) h2 P
 | false =>
  rw [j] at a;simp only at a ⊢;obtain ⟨hi,c⟩:=bF.1 a;clear a;obtain rfl:f=C.idx:=au9 hi;obtain ⟨h1,h2⟩:=uU.1 c;clear c;obtain ⟨d,rfl⟩:=eA.1 h1;clear h1;unfold OE at d;split at d
  ·cases d;cases hv with
   | cons m hv =>
   cases hv with
   | cons n hv =>
   cases hv; cases m; cases n;obtain ⟨y,k⟩:=w7 (.int (ρ:=ρ) _ _) h2;refine O.idx _ _ h _ ⟨y,k,?_⟩;rw [dU,<- k];exact P.here R (.int _ _)
  ·cases d
def MQ {call:gJ} (m:ov C h0 call) (R:Rel C h0 ρ s.σ h) {g j:Xab} {k a:List Xab} {v:Xab} (n:VR ρ g j) (hv:eu ρ k a) (b:PW C call H s g k=some (v,s1)) (P:oV C h0 ρ s1 v kk L K) :
  T.wI C.P j a (lJ C.P H).1 (lJ C.P H).2 (jO _ fun l=>kk (rv (lJ C.P H).1 (lJ C.P H).2 l)) L K h:=by
 unfold PW at b;split at b
 ·rename_i f r u;obtain ⟨c,b⟩:=bF.1 b;obtain ⟨h1,h2⟩:=uU.1 b;cases n with
  | @func _ _ d _ i o p =>
  refine ⟨f,⟨d⟩,⟨i⟩,rfl,?_,?_⟩
  ·have:=Et (t:=H) (kk:=kk) (L:=L) (K:=K) (m f _ s v s1 h1 ρ h (d++a++i) R ((o.append hv).append p)) h2 P
   exact this
  ·unfold gi at c;split at c
   ·rename_i fn q;simp only [Bool.and_eq_true,Bool.not_eq_true',beq_eq_false_iff_ne] at c;exact ⟨fn,q,c.1,c.2⟩
   ·cases c
 ·cases b
variable {O:Call}
def HA (R:Rel C h0 ρ s.σ h) {b:Builtin} {l f:List Xab} {v:Xab} (hv:eu ρ l f) (a:AZ C b H O l s=some (v,s1)) (P:oV C h0 ρ s1 v kk L K) :
  sM C.P b O H f kk L K h:=by
 unfold AZ at a;split at a
 ·obtain ⟨u,m,a⟩:=aa9.1 a;obtain ⟨d,g⟩:=eA.1 a;subst g;obtain ⟨n,rfl,i⟩:=KD hv m;obtain ⟨j,k⟩:=Se (t:=H) R i d;exact k kk L K (P.here R j)
 ·exact IG R hv a P
 ·obtain ⟨d,g⟩:=eA.1 a;subst g;obtain ⟨j,k⟩:=S9 (h:=h) (ts:=O.argTypes) hv d;exact k kk L K (P.here R j)
 ·cases a
def P9 (a:Ok C) {call:gJ} (n:ov C h0 call) (R:Rel C h0 ρ s.σ h) (j:ER ρ e e') {v:Xab} (d:RS C call e s H O=some (v,s1)) (P:oV C h0 ρ s1 v kk L K) (o:Oper) (p:o.op=.call O) (ht:o.type=H) :
  vJ C.P o e' kk L K h:=by
 unfold RS at d;obtain ⟨A,et,d⟩:=aa9.1 d;obtain ⟨q,k,i⟩:=j0 R j et;unfold vJ;rw [p];simp only;obtain ⟨callee,args,argTypes⟩:=O;simp only at d i ⊢;subst ht;cases callee with
 | builtin b =>
  simp only at d ⊢;rw [i];exact HA R k d P
 | value g =>
  cases g with
  | func f =>
   simp only [GJ] at d ⊢;obtain ⟨w,l,r,m⟩:=bX R j (x:=.func f) (v:=.func (.func f) #[] #[]) rfl;rw [m,i];cases l with
   | func f u y =>
   cases u; cases y;simp only [List.nil_append,List.append_nil];exact Jz a n R k d P
  | tmp H =>
   simp only [GJ] at d ⊢;obtain ⟨g,z,d⟩:=aa9.1 d;obtain ⟨w,l,r,m⟩:=bX R j (x:=.tmp H) z;rw [m,i];exact MQ n R l k d P
  | const _=>cases d
  | global _=>cases d
 | invoke _ _=>cases d
def IB (O:Ok C) {call:gJ} (CO:ov C h0 call) (R:Rel C h0 ρ s.σ h) (A:ER ρ e e') {o:Oper} {v:Xab} (hx:XG C call o e s=some (v,s1)) (P:oV C h0 ρ s1 v kk L K):vJ C.P o e' kk L K h:=by
 unfold XG at hx;cases J:o.op <;> simp only [J] at hx <;> first
  | (cases hx; done)
  | (exact P9 O CO R A hx P o J rfl)
  | (unfold vJ; simp only [J])
  | skip
 case move x =>
  obtain ⟨j,B⟩:=eA.1 hx;subst B;clear hx;have hx:=j;obtain ⟨v',k,_,q⟩:=bX R A hx;rw [q]; exact P.here R k
 case assign x =>
  obtain ⟨j,B⟩:=eA.1 hx;subst B;clear hx;have hx:=j;obtain ⟨v',k,_,q⟩:=bX R A hx;rw [q]; exact P.here R k
 case pick c a b=>exact Py R A hx P
 case alloc t =>
  obtain ⟨z,hz,hx⟩:=aa9.1 hx;obtain ⟨zv,h1,rfl,h2⟩:=BU hz;simp only [h1];exact E0 R (h2 ρ) hx P
 case box t x =>
  obtain ⟨u,I,hx⟩:=aa9.1 (show (kR C e x).bind _=some (v,s1) from hx);obtain ⟨g,hg,hx⟩:=aa9.1 hx;obtain ⟨l,hl,N⟩:=aa9.1 hx;obtain ⟨U,k,_,q⟩:=bX R A I;rw [q];obtain ⟨D,l',Q,V⟩:=uI k hl;subst V;cases g with
  | true=>simp only [hg,D,cond_true]; exact E0 R Q N P
  | false=>simp only [hg,D,cond_false]; exact E0 R Q N P
 case build t ps =>
  obtain ⟨W,et,hx⟩:=aa9.1 (show (Bi C e _).bind _=some (v,s1) from hx);obtain ⟨j,B⟩:=eA.1 hx;subst B;clear hx;have hx:=j;obtain ⟨S,k,q⟩:=j0 R A et;rw [q];obtain ⟨v',E,F⟩:=Ma (h:=h) (PR.zip (ps.toList.map (·.1)) k) hx;exact F kk L K (P.here R E)
 case buildSlice t n ps =>
  obtain ⟨W,et,hx⟩:=aa9.1 (show (Bi C e _).bind _=some (v,s1) from hx);obtain ⟨S,k,q⟩:=j0 R A et;rw [q];exact SU R (PR.zip (ps.toList.map (·.1)) k) hx P
 case load t x =>
  obtain ⟨u,I,hx⟩:=aa9.1 (show (kR C e x).bind _=some (v,s1) from hx);obtain ⟨⟨b,off,l,w⟩,hl,hx⟩:=aa9.1 hx;cases hx;obtain ⟨U,k,_,q⟩:=bX R A I;rw [q];obtain ⟨pl,l',w',k1,k2,k3,k4,k5⟩:=Bl R k hl;exact k5 (fun _ _ v=>kk v) L K (P.here R k3)
 case store t x y =>
  obtain ⟨p,hp,hx⟩:=aa9.1 (show (kR C e x).bind _=some (v,s1) from hx);obtain ⟨u,I,hx⟩:=aa9.1 hx;obtain ⟨s2,B,hx⟩:=aa9.1 hx;cases hx;obtain ⟨p',k,_,q⟩:=bX R A hp;obtain ⟨U,E,_,F⟩:=bX R A I;rw [q,F];exact M2 R k E B fun h1 X=>P ρ undef h1 (Le.refl _) X oM
 case nilCheck x =>
  obtain ⟨u,I,hx⟩:=aa9.1 (show (kR C e x).bind _=some (v,s1) from hx);obtain ⟨j,B⟩:=eA.1 hx;subst B;clear hx;have hx:=j;obtain ⟨U,k,_,q⟩:=bX R A I;rw [q];unfold notNil at hx;split at hx
  ·cases hx;cases k with
   | ptr off H=>exact P.here R (.ptr off H)
  ·cases hx
 case binOp op t x y yt =>
  obtain ⟨a,D,hx⟩:=aa9.1 (show (kR C e x).bind _=some (v,s1) from hx);obtain ⟨b,H,hx⟩:=aa9.1 hx;obtain ⟨j,B⟩:=eA.1 hx;subst B;clear hx;have hx:=j;obtain ⟨a',k,_,q⟩:=bX R A D;obtain ⟨b',E,_,F⟩:=bX R A H;rw [q,F];obtain ⟨g5,G⟩:=TY (h:=h) k E hx;exact G kk L K (P.here R g5)
 case unOp op t x =>
  obtain ⟨a,D,hx⟩:=aa9.1 (show (kR C e x).bind _=some (v,s1) from hx);obtain ⟨j,B⟩:=eA.1 hx;subst B;clear hx;have hx:=j;obtain ⟨a',k,_,q⟩:=bX R A D;rw [q];have g5:=(Rm (L:=[]) (K:=fun _ _=>True) (h:=h) (kk:=fun _ _ _ _=>True) k hx trivial).2;exact (Rm k hx (P.here R g5)).1
 case convert a d x =>
  obtain ⟨u,I,hx⟩:=aa9.1 (show (kR C e x).bind _=some (v,s1) from hx);obtain ⟨j,B⟩:=eA.1 hx;subst B;clear hx;have hx:=j;obtain ⟨U,k,_,q⟩:=bX R A I;rw [q];have g5:=(F7 (L:=[]) (K:=fun _ _=>True) (h:=h) (kk:=fun _ _ _ _=>True) k hx trivial).2;exact (F7 k hx (P.here R g5)).1
 case makeFunc fn fi ca =>
  cases fn <;> first | (cases hx; done) | skip
  rename_i f;obtain ⟨a,D,hx⟩:=aa9.1 (show (Bi C e fi.toList).bind _=some (v,s1) from hx);obtain ⟨c,hc,hx⟩:=aa9.1 hx;cases hx;obtain ⟨a',k,q⟩:=j0 R A D;obtain ⟨c',E,F⟩:=j0 R A hc;rw [q,F];exact P.here R (.func f k E)
 case makeMap t r =>
  cases r with
  | some _=>cases hx
  | none=>exact MI R hx P
 case makeSlice t l c =>
  obtain ⟨a,D,hx⟩:=aa9.1 (show (kR C e l).bind _=some (v,s1) from hx);obtain ⟨b,H,hx⟩:=aa9.1 hx;obtain ⟨a',k,_,q⟩:=bX R A D;obtain ⟨b',E,_,F⟩:=bX R A H;rw [q,F];exact G6 R k E hx P
 case lookup t m x ok =>
  obtain ⟨a,D,hx⟩:=aa9.1 (show (kR C e m).bind _=some (v,s1) from hx);obtain ⟨b,H,hx⟩:=aa9.1 hx;obtain ⟨j,B⟩:=eA.1 hx;subst B;clear hx;have hx:=j;obtain ⟨a',k,_,q⟩:=bX R A D;obtain ⟨b',E,_,F⟩:=bX R A H;rw [q,F];obtain ⟨v',g5,G⟩:=QX O R k E hx;exact G kk L K (P.here R g5)
 case mapUpdate t m x y =>
  obtain ⟨a,D,hx⟩:=aa9.1 (show (kR C e m).bind _=some (v,s1) from hx);obtain ⟨b,H,hx⟩:=aa9.1 hx;obtain ⟨c,hc,hx⟩:=aa9.1 hx;obtain ⟨s2,B,hx⟩:=aa9.1 hx;cases hx;obtain ⟨a',k,_,q⟩:=bX R A D;obtain ⟨b',E,_,F⟩:=bX R A H;obtain ⟨c',g5,_,G⟩:=bX R A hc;rw [q,F,G];exact Tc O R k E g5 B fun h1 X=>P ρ undef h1 (Le.refl _) X oM
 case slice t x lo hi mx =>
  obtain ⟨a,D,hx⟩:=aa9.1 (show (kR C e x).bind _=some (v,s1) from hx);obtain ⟨W,et,hx⟩:=aa9.1 hx;obtain ⟨j,B⟩:=eA.1 hx;subst B;clear hx;have hx:=j;obtain ⟨a',k,_,q⟩:=bX R A D;obtain ⟨S,E,F⟩:=j0 R A et;rw [q,F];obtain ⟨v',g5,G⟩:=Xq (h:=h) k E hx;exact G kk L K (P.here R g5)
 case fieldAddr t x f =>
  obtain ⟨a,D,hx⟩:=aa9.1 (show (kR C e x).bind _=some (v,s1) from hx);obtain ⟨j,B⟩:=eA.1 hx;subst B;clear hx;have hx:=j;obtain ⟨a',k,_,q⟩:=bX R A D;rw [q];obtain ⟨v',g5,G⟩:=H9 (h:=h) k hx;exact G kk L K (P.here R g5)
 case field t x f =>
  obtain ⟨a,D,hx⟩:=aa9.1 (show (kR C e x).bind _=some (v,s1) from hx);obtain ⟨cs,Y,hx⟩:=aa9.1 hx;obtain ⟨fd,Z,hx⟩:=aa9.1 hx;obtain ⟨M,B⟩:=eA.1 hx;subst B;obtain ⟨a',k,_,q⟩:=bX R A D;rw [q]
  have:=wb.1 Y
  subst this;have hx:=M;obtain ⟨fs,hd,hf⟩:=Nw Z;cases k with
  | agg hl =>
  obtain ⟨v',g5,G⟩:=Qe (h:=h) hl hx;simp only [hd,hf];exact G kk L K (P.here R g5)
 case indexAddr t x i =>
  obtain ⟨a,D,hx⟩:=aa9.1 (show (kR C e x).bind _=some (v,s1) from hx);obtain ⟨b,H,hx⟩:=aa9.1 hx;obtain ⟨j,B⟩:=eA.1 hx;subst B;clear hx;have hx:=j;obtain ⟨a',k,_,q⟩:=bX R A D;obtain ⟨b',E,_,F⟩:=bX R A H;rw [q,F];obtain ⟨v',g5,G⟩:=OM (h:=h) k E hx;exact G kk L K (P.here R g5)
 case index t x i =>
  obtain ⟨a,D,hx⟩:=aa9.1 (show (kR C e x).bind _=some (v,s1) from hx);obtain ⟨b,H,hx⟩:=aa9.1 hx;obtain ⟨j,B⟩:=eA.1 hx;subst B;clear hx;have hx:=j;obtain ⟨a',k,_,q⟩:=bX R A D;obtain ⟨b',E,_,F⟩:=bX R A H;rw [q,F];obtain ⟨g5,G⟩:=Sr (h:=h) k E hx;exact G kk L K (P.here R g5)
 case extract x i =>
  obtain ⟨a,D,hx⟩:=aa9.1 (show (kR C e x).bind _=some (v,s1) from hx);obtain ⟨W,et,hx⟩:=aa9.1 hx;obtain ⟨M,B⟩:=eA.1 hx;subst B;obtain ⟨a',k,_,q⟩:=bX R A D;rw [q]
  have:=F6.1 et
  subst this;have hx:=M;cases k with
  | tuple hl =>
  obtain ⟨v',g5,G⟩:=hl.get hx;simp only [g5];exact P.here R G
end
end Go.Sx.Cr
