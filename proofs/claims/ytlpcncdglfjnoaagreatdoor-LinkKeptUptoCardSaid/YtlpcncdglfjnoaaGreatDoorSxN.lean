/- Part of the framework. No condition. -/
import Derived.Test.YtlpcncdglfjnoaaGreatDoorSxJg
import Derived.Test.YtlpcncdglfjnoaaGreatDoorSxY
set_option linter.all false
set_option maxHeartbeats 4000000
namespace Go.Sx.Cr
section
variable {C:Cx} {h0:Hp} {ρ:ix} {s s1:CS} {h:Hp} {e e1:Ev} {e':Env} {L:Lp} {K:Xab->Hp->Prop} {n:Nat} {ops:Array Oper}
def KV {α:Type} (v:Xab) (k:Xab->α):forced v k=k v:=by
 unfold forced;split
 ·split
  ·split <;> rfl
  ·rfl
 ·split <;> rfl
 ·rfl
def ER.put (b:ER ρ e e') (dst:Option Tmp) {v v':Xab} (hv:VR ρ v v'):ER ρ (Ec n e dst v) (eH n e' dst v'):=by
 cases dst with
 | none=>exact b
 | some d =>
  unfold Ec eH;simp only [KV];cases f:Nat.blt d n with
  | false=>exact b
  | true =>
   simp only [cond_true];intro t u a;rw [eh.xG] at a;rw [dP]
   by_cases h:t=d
   ·rw [Y8 h] at a; cases a;rw [Y8 h.symm]; exact ⟨v',rfl,hv⟩
   ·rw [Y1 h] at a;rw [Y1 fun c=>h c.symm]; exact b t u a
def ER.again (a:ER ρ e e') {d:Nat} {v:Xab} (b:dc e' d=some v):ER ρ e (eH n e' (some d) v):=by
 intro t u c;obtain ⟨f,h1,h2⟩:=a t u c;refine ⟨f,?_,h2⟩;unfold eH;simp only;cases Nat.blt d n with
 | false=>exact h1
 | true =>
  simp only [cond_true];rw [dP]
  by_cases h:d=t
  ·subst h; rw [Y8 rfl,<- h1,b]
  ·rw [Y1 h]; exact h1
def xZ (c:ER ρ e e') {o:Oper} {w:Bool} (a:Dt ops o e=some w) {f no:Env->T} (j:w=true->∀ g,ER ρ e g->f g L K h) (hn:w=false->∀ g,ER ρ e g->no g L K h):mC n ops o e' f no L K h:=by
 unfold Dt at a;unfold mC;cases k:guardOf ops o with
 | none =>
  rw [k] at a; simp only at a ⊢;cases a; exact j rfl e' c
 | some p =>
  obtain ⟨l,i⟩:=p;rw [k] at a;cases l with
  | none=>simp only at a ⊢; cases a; exact hn rfl e' c
  | some d =>
   simp only at a ⊢;obtain ⟨v,hv,a⟩:=YX.1 a;obtain ⟨v',h1,h2⟩:=c d v hv;rw [h1];unfold TB at a;split at a
   ·rename_i b;cases a; cases h2;have ea:=c.again (n:=n) h1;cases i <;> cases b <;> simp only [cond_true,cond_false]
    ·exact j rfl _ ea
    ·exact hn rfl _ ea
    ·exact hn rfl _ ea
    ·exact j rfl _ ea
   ·cases a;cases h2;exact hn rfl e' c
   ·cases a
theorem Es (O:Ok C) {call:gU} (d:oP C h0 call) {k:Env->T}:∀ (l:List Oper) {ρ:ix} {s:CS} {h:Hp} {e:Ev} {e':Env},Ry C call n ops l e s=some (e1,s1)->Rel C h0 ρ s.σ h->ER ρ e e' ->
  (∀ ρ1 h1 c,Le ρ ρ1->Rel C h0 ρ1 s1.σ h1->ER ρ1 e1 c->k c L K h1)->F4 C.P n ops l e' k L K h
 | [],ρ,s,h,e,e',b,R,f,hk=>by
  cases (show some (e,s)=some (e1,s1) from b);exact hk ρ h e' (Le.refl _) R f
 | o::l,ρ,s,h,e,e',b,R,f,hk=>by
  obtain ⟨w,m,b⟩:=YX.1 (show (Dt ops o e).bind _=some (e1,s1) from b);unfold F4;refine xZ f m (fun g c a=>?_) (fun i c a=>?_)
  ·subst g;obtain ⟨⟨v,r⟩,h1,h2⟩:=YX.1 (show (VT C call o e s).bind _=some (e1,s1) from b);refine H2 O d R a h1 ?_;intro ρ1 t h1 le p hv;exact Es O d l h2 p ((a.mono le).put o.dst hv) fun ρ2 h2 q j=>hk ρ2 h2 q (le.trans j)
  ·subst i;exact Es O d l b R (a.put o.dst pn) hk
theorem qm {q:Xab->Xab->Bool} (c:∀ a b,q a b=true->a=b):∀ {l k:List Xab},oL q l k=true->l=k
 | [],[],_=>rfl
 | a::l,b::k,h=>by
  simp only [oL,Bool.and_eq_true] at h;rw [c a b h.1,qm c h.2]
 | [],_::_,h=>by simp [oL] at h
 | _::_,[],h=>by simp [oL] at h
def Ku {a b:Xac} (h:SC a b=true):a=b:=by
 unfold SC at h;split at h
 ·rfl
 ·simp only [Bool.and_eq_true] at h;rw [Zd h.1,Zd h.2]
 ·cases h
def G3 {a b:Xaa} (h:qb a b=true):a=b:=by
 rw [me] at h; exact Y3 h
theorem kh:∀ (n:Nat) (a b:Xab),sY n a b=true->a=b
 | 0,_,_,h=>by cases h
 | n+1,a,b,h=>by
  unfold sY at h;split at h <;> first
   | (cases h; done)
   | rfl
   | skip
  ·rw [beq_iff_eq] at h; rw [h]
  ·simp only [Bool.and_eq_true,decide_eq_true_eq,beq_iff_eq] at h; rw [h.1,h.2]
  ·rw [G3 h]
  ·rw [Ku h]
  ·simp only [Bool.and_eq_true] at h;rw [Ku h.1.1,Zd h.1.2,Zd h.2]
  ·rw [Zd h]
  ·simp only [Bool.and_eq_true] at h;rw [Zd h.1.1,qm (kh n) h.1.2,qm (kh n) h.2]
  ·simp only [Bool.and_eq_true] at h;rw [Zd h.1,kh n _ _ h.2]
  ·rw [qm (kh n) h]
  ·rw [qm (kh n) h]
theorem Al {α:Type} {q:α->α->Bool} (c:∀ a b,q a b=true->a=b):∀ {l k:List (α × Xab)},dB q l k=true->l=k
 | [],[],_=>rfl
 | a::l,b::k,h=>by
  simp only [dB,Bool.and_eq_true] at h;rw [show a=b from Prod.ext (c _ _ h.1.1) (kh _ _ _ h.1.2),Al c h.2]
 | [],_::_,h=>by simp [dB] at h
 | _::_,[],h=>by simp [dB] at h
def Q6 {a b:AO} (h:Qh a b=true):a=b:=by
 unfold Qh at h;split at h
 ·rfl
 ·simp only [Bool.and_eq_true] at h;rw [Zd h.1.1,Zd h.1.2,qm (kh _) h.2]
 ·rw [Al (fun a b=>G3) h]
 ·rw [Al (fun a b c=>by rw [tS] at c; exact Y3 c) h]
 ·rw [Al (fun a b c=>by rw [qC] at c; exact Y3 c) h]
 ·cases h
def Lo {α:Type} {q:α->α->Bool} (c:∀ a b,q a b=true->a=b) {a b:Option α} (h:ID q a b=true):a=b:=by
 unfold ID at h;split at h
 ·rfl
 ·rw [c _ _ h]
 ·cases h
theorem Am {α:Type} {q:α->α->Bool} (c:∀ a b,q a b=true->a=b):∀ {a b:eh α},Ct q a b=true->a=b
 | .nil,.nil,_=>rfl
 | .node o l r,.node o' l' d,h=>by
  simp only [Ct,Bool.and_eq_true] at h;rw [Lo c h.1.1,Am c h.1.2,Am c h.2]
 | .nil,.node _ _ _,h=>by simp [Ct] at h
 | .node _ _ _,.nil,h=>by simp [Ct] at h
def MR (C:Cx) (ρ:ix):xI->Made->Prop
 | [],[]=>True
 | (i,b,off,l)::m,(c,a,l')::d=>i=c/\(∃ pl,ρ b=some pl/\a=⟨pl.cj,pl.sh+off,none⟩)/\eC ρ l l'/\MR C ρ m d
 | _,_=>False
theorem MR.mono {ρ ρ':ix} (le:Le ρ ρ'):∀ {m:xI} {c:Made},MR C ρ m c->MR C ρ' m c
 | [],[],_=>trivial
 | (i,b,off,l)::m,(j,a,l')::c,⟨h1,⟨pl,h2,d⟩,f,g⟩=>⟨h1,⟨pl,le _ _ h2,d⟩,f.mono le,MR.mono le g⟩
 | [],_::_,h=>h.elim
 | _::_,[],h=>h.elim
def LI.inj {pl:Pl} {c a b:Nat} (h:LI pl c a) (k:LI pl c b):a=b:=by
 rcases h with ⟨h1,h2⟩ | ⟨h1,h2⟩ <;> rcases k with ⟨d,f⟩ | ⟨d,f⟩ <;> omega
mutual
theorem VR.inj {ρ:ix}:∀ {v a b:Xab},VR ρ v a->VR ρ v b->a=b
 | _,_,_,.bool _,h=>by cases h; rfl
 | _,_,_,.int _ _,h=>by cases h; rfl
 | _,_,_,.string _,h=>by cases h; rfl
 | _,_,_,.SE,h=>by cases h; rfl
 | _,_,_,.ptr off d,h=>by cases h with | ptr _ h2=>rw [d] at h2; cases h2; rfl
 | _,_,_,.lZ _,h=>by cases h; rfl
 | _,_,_,.sl _ _ d hc _,h=>by cases h with | sl _ _ h2 f _=>rw [d] at h2; cases h2; rw [hc.inj f]
 | _,_,_,.Se,h=>by cases h; rfl
 | _,_,_,.map d,h=>by cases h with | map h2=>rw [d] at h2; cases h2; rfl
 | _,_,_,.func _ h1 h2,h=>by cases h with | func _ c g=>rw [eC.inj h1 c,eC.inj h2 g]
 | _,_,_,.nilFunc,h=>by cases h; rfl
 | _,_,_,.nilIface,h=>by cases h; rfl
 | _,_,_,.iface _ h1,h=>by cases h with | iface _ c=>rw [VR.inj h1 c]
 | _,_,_,.agg h1,h=>by cases h with | agg c=>rw [eC.inj h1 c]
 | _,_,_,.tuple h1,h=>by cases h with | tuple c=>rw [eC.inj h1 c]
theorem eC.inj {ρ:ix}:∀ {v a b:List Xab},eC ρ v a->eC ρ v b->a=b
 | _,_,_,.nil,h=>by cases h; rfl
 | _,_,_,.cons h1 c,h=>by cases h with | cons d f=>rw [VR.inj h1 d,eC.inj c f]
end
theorem wg (R:Rel C h0 ρ s.σ h) {o:Oper}:∀ {m:xI} {d:Made},MR C ρ m d->xu C s (waits o) m=true->T.BO h (kQ o d)
 | [],[],_,_=>trivial
 | (i,b,off,l)::m,(q,a,l')::d,⟨h1,⟨pl,h2,g⟩,j,e⟩,c=>by
  subst h1;unfold xu at c;unfold kQ;cases f:uv i (waits o) with
  | true =>
   rw [f] at c;simp only [cond_true];exact wg R e c
  | false =>
   rw [f] at c;simp only [cond_false,Bool.and_eq_true] at c ⊢;obtain ⟨hc,c⟩:=c;refine ⟨?_,wg R e c⟩;cases hk:cells C s b off l.length with
   | none=>rw [hk] at hc; cases hc
   | some k =>
    rw [hk] at hc
    have:=qm (kh 9) (show oL (sY 9) k l=true from hc)
    subst this;obtain ⟨_,k',n,p⟩:=th R hk h2;rw [j.inj n,g];exact p
 | [],_::_,h,_=>h.elim
 | _::_,[],h,_=>h.elim
def IG {l:List (Xax × List Xab)} {t:T} (h1:T.BO h l) (h2:t L K h):wP l t L K h:=by
 cases l with
 | nil=>exact h2
 | cons p l=>exact ⟨h1,h2⟩
theorem Rg:∀ {ts:List T},ts≠[]->(∀ t∈ts,t L K h)->UU ts L K h
 | [],hn,_=>(hn rfl).elim
 | [t],_,b=>b t aj
 | t::u::ts,_,b=>by
  show T.every L K h (t::u::ts)
  have:∀ l:List T,(∀ t∈l,t L K h)->T.every L K h l:=by
   intro l
   induction l with
   | nil=>intro _; trivial
   | cons a l c=>exact fun hl=>⟨hl a aj,c fun t b=>hl t (by simp [b])⟩
  exact this _ b
def Kt (C:Cx) (h0:Hp) (ρ:ix) (σ:eh AO) (e:Ev) (k:Env->T) (L:Lp) (K:Xab->Hp->Prop):Prop :=
 ∀ ρ1 h1 a,Le ρ ρ1->Rel C h0 ρ1 σ h1->ER ρ1 e a->k a L K h1
def Kt.mono {ρ ρ':ix} {σ:eh AO} {k:Env->T} (le:Le ρ ρ') (h:Kt C h0 ρ σ e k L K):Kt C h0 ρ' σ e k L K:=fun ρ1 h1 b a=>h ρ1 h1 b (le.trans a)
theorem pZ (O:Ok C) {call:gU} (z:oP C h0 call) {k:Env->T}:∀ (f:Nat) {D:List Nat} {ρ:ix} {s:CS} {h:Hp} {e j:Ev} {y:CS} {I:Env} {m:xI} {m':Made} {p A:Ce},
  zd C call n ops f D e s m p=some (j,y,A)->Rel C h0 ρ s.σ h->ER ρ e I->MR C ρ m m'->Kt C h0 ρ y.σ j k L K->gP C.P n ops f D I m' k L K h
 | 0,D,ρ,s,h,e,j,y,I,m,m',p,A,c,R,Q,J,hk=>by cases c
 | f+1,D,ρ,s,h,e,j,y,I,m,m',p,A,c,R,Q,J,hk=>by
  unfold zd at c;unfold gP;cases hc:dt C.P D true (idx 0 ops.toList) with
  | cons q qs =>
   obtain ⟨i,o⟩:=q;rw [hc] at c;simp only at c ⊢;obtain ⟨w,S,c⟩:=YX.1 c;refine xZ Q S (fun B M d=>?_) (fun E M d=>?_)
   ·subst B;simp only at c;unfold Ga at c;split at c
    ·rename_i t x V;simp only [V];obtain ⟨v,hv,c⟩:=YX.1 c;obtain ⟨⟨b,off,l,u⟩,hl,c⟩:=YX.1 c;obtain ⟨v',W,_,X⟩:=bT R d hv;unfold sW;rw [X];obtain ⟨pl,l',u',k1,k2,k3,k4,k5⟩:=A9 R W hl;refine k5 (fun a l v=>gP C.P n ops f (i::D) (eH n M o.dst v) ((i,a,l)::m') k) L K ?_;exact pZ O z f c R (d.put o.dst k3) ⟨rfl,⟨pl,k1,rfl⟩,k2,J⟩ hk
    ·rename_i Y;obtain ⟨⟨v,s2⟩,h1,c⟩:=YX.1 c;have Z:wj C.P o M (fun v=>gP C.P n ops f (i::D) (eH n M o.dst v) m' k) L K h:=by
      refine H2 O z R d h1 ?_;intro ρ1 v1 h1 le U hv;exact pZ O z f c U ((d.mono le).put o.dst hv) (J.mono le) (hk.mono le)
     have hne:∀ t x,o.op≠.load t x:=fun t x hh=>Y t x hh
     clear c S;obtain ⟨dst,op,type,pos,after,guard⟩:=o;cases op <;> first | exact Z | exact (hne _ _ rfl).elim
   ·subst E;exact pZ O z f c R (d.put o.dst pn) J hk
  | nil =>
   rw [hc] at c;simp only at c ⊢;cases hn:dt C.P D false (idx 0 ops.toList) with
   | nil =>
    rw [hn] at c;cases c;exact hk ρ h I (Le.refl _) R Q
   | cons q qs =>
    rw [hn] at c;simp only at c ⊢;unfold PW at c;obtain ⟨⟨e3,s3,p3⟩,h1,c⟩:=YX.1 c;obtain ⟨h2,c⟩:=bI.1 (show gu _ _=some (j,y,A) from c);cases c
    have one:∀ (q:Nat × Oper) (p2:Ce) (F:Ev) (G:CS) (N:Ce),Ap C call n ops e s m (fun i e s p=>zd C call n ops f (i::D) e s m p) q p2=some (F,G,N)->F=j->G.σ=y.σ ->
      mC n ops q.2 I (fun e=>wj C.P q.2 e fun v=>wP (kQ q.2 m') (gP C.P n ops f (q.1::D) (eH n e q.2.dst v) m' k)) (fun e=>gP C.P n ops f (q.1::D) (eH n e q.2.dst undef) m' k) L K h:=by
     rintro ⟨i,o⟩ p2 F G N g rfl hσ;unfold Ap at g;simp only at g ⊢;obtain ⟨w,S,g⟩:=YX.1 g;refine xZ Q S (fun B M d=>?_) (fun E M d=>?_)
     ·subst B;obtain ⟨⟨v,s5⟩,W,g⟩:=YX.1 g;obtain ⟨X,g⟩:=bI.1 (show gu _ _=some (F,G,N) from g);refine H2 (s:=⟨s.σ,Et i s.nx p2⟩) O z R d W ?_;intro ρ1 v1 h1 le U hv;have mr1:=J.mono le;refine IG (wg U mr1 X) ?_;exact pZ O z f g U ((d.mono le).put o.dst hv) mr1 (by rw [hσ]; exact hk.mono le)
     ·subst E;exact pZ O z f g R (d.put o.dst pn) J (by rw [hσ]; exact hk)
    refine Rg aj fun t ht=>?_
    simp only [List.map_cons,List.mem_cons,List.mem_map] at ht;rcases ht with rfl | ⟨q2,hq2,rfl⟩
    ·exact one q p j y A h1 rfl rfl
    ·have:=Zx.1 h2 q2 hq2
     unfold sameAs at this;cases H:Ap C call n ops e s m (fun i e s p=>zd C call n ops f (i::D) e s m p) q2 A with
     | none=>rw [H] at this; cases this
     | some r =>
      obtain ⟨F,G,N⟩:=r;rw [H] at this;have this:(Ct (sY 9) F j && Ct Qh G.σ y.σ)=true:=this;simp only [Bool.and_eq_true] at this;exact one q2 A F G N H (Am (kh 9) this.1) (Am (fun a b=>Q6) this.2)
end
end Go.Sx.Cr
