/- Part of the framework. No condition. -/
import Derived.Test.YtlpcncdglfjnoaaGreatDoorSxJg
import Derived.Test.YtlpcncdglfjnoaaGreatDoorSxY
set_option linter.all false
set_option maxHeartbeats 4000000
namespace Go.Sx.Cr
section
variable {C:Cx} {h0:Hp} {ρ:fY} {s s1:CS} {h:Hp} {e e1:Ev} {e':Env} {L:Lp} {K:XB->Hp->Prop} {n:Nat} {ops:Array Oper}
def It {α:Type} (v:XB) (k:XB->α):forced v k=k v:=by
 unfold forced;split
 ·split
  ·split <;> rfl
  ·rfl
 ·split <;> rfl
 ·rfl
def ER.put (b:ER ρ e e') (dst:Option Tmp) {v v':XB} (hv:VR ρ v v'):ER ρ (Ca n e dst v) (dQ n e' dst v'):=by
 cases dst with
 | none=>exact b
 | some d =>
  unfold Ca dQ;simp only [It];cases f:Nat.blt d n with
  | false=>exact b
  | true =>
   simp only [cond_true];intro t u a;rw [dF.vF] at a;rw [du]
   by_cases h:t=d
   ·rw [VE h] at a; cases a;rw [VE h.symm]; exact ⟨v',rfl,hv⟩
   ·rw [Vu h] at a;rw [Vu fun c=>h c.symm]; exact b t u a
def ER.again (a:ER ρ e e') {d:Nat} {v:XB} (b:cQ e' d=some v):ER ρ e (dQ n e' (some d) v):=by
 intro t u c;obtain ⟨f,h1,h2⟩:=a t u c;refine ⟨f,?_,h2⟩;unfold dQ;simp only;cases Nat.blt d n with
 | false=>exact h1
 | true =>
  simp only [cond_true];rw [du]
  by_cases h:d=t
  ·subst h; rw [VE rfl,<- h1,b]
  ·rw [Vu h]; exact h1
def wc (c:ER ρ e e') {o:Oper} {w:Bool} (a:Bv ops o e=some w) {f k:Env->T} (j:w=true->∀ g,ER ρ e g->f g L K h) (hn:w=false->∀ g,ER ρ e g->k g L K h):kI n ops o e' f k L K h:=by
 unfold Bv at a;unfold kI;cases l:guardOf ops o with
 | none =>
  rw [l] at a; simp only at a ⊢;cases a; exact j rfl e' c
 | some p =>
  obtain ⟨m,i⟩:=p;rw [l] at a;cases m with
  | none=>simp only at a ⊢; cases a; exact hn rfl e' c
  | some d =>
   simp only at a ⊢;obtain ⟨v,hv,a⟩:=Vq.1 a;obtain ⟨v',h1,h2⟩:=c d v hv;rw [h1];unfold PX at a;split at a
   ·rename_i b;cases a; cases h2;have ea:=c.again (n:=n) h1;cases i <;> cases b <;> simp only [cond_true,cond_false]
    ·exact j rfl _ ea
    ·exact hn rfl _ ea
    ·exact hn rfl _ ea
    ·exact j rfl _ ea
   ·cases a;cases h2;exact hn rfl e' c
   ·cases a
theorem Cl (O:Ok C) {call:fL} (d:mM C h0 call) {k:Env->T}:∀ (l:List Oper) {ρ:fY} {s:CS} {h:Hp} {e:Ev} {e':Env},Ow C call n ops l e s=some (e1,s1)->Rel C h0 ρ s.σ h->ER ρ e e' ->
  (∀ ρ1 h1 c,Le ρ ρ1->Rel C h0 ρ1 s1.σ h1->ER ρ1 e1 c->k c L K h1)->DK C.P n ops l e' k L K h
 | [],ρ,s,h,e,e',b,R,f,hk=>by
  cases (show some (e,s)=some (e1,s1) from b);exact hk ρ h e' (Le.refl _) R f
 | o::l,ρ,s,h,e,e',b,R,f,hk=>by
  obtain ⟨w,m,b⟩:=Vq.1 (show (Bv ops o e).bind _=some (e1,s1) from b);unfold DK;refine wc f m (fun g c a=>?_) (fun i c a=>?_)
  ·subst g;obtain ⟨⟨v,r⟩,h1,h2⟩:=Vq.1 (show (Si C call o e s).bind _=some (e1,s1) from b);refine FP O d R a h1 ?_;intro ρ1 t h1 le p hv;exact Cl O d l h2 p ((a.mono le).put o.dst hv) fun ρ2 h2 q j=>hk ρ2 h2 q (le.trans j)
  ·subst i;exact Cl O d l b R (a.put o.dst ni) hk
theorem oh {q:XB->XB->Bool} (c:∀ a b,q a b=true->a=b):∀ {l k:List XB},qP q l k=true->l=k
 | [],[],_=>rfl
 | a::l,b::k,h=>by
  simp only [qP,Bool.and_eq_true] at h;rw [c a b h.1,oh c h.2]
 | [],_::_,h=>by simp [qP] at h
 | _::_,[],h=>by simp [qP] at h
def H3 {a b:XC} (h:Pd a b=true):a=b:=by
 unfold Pd at h;split at h
 ·rfl
 ·simp only [Bool.and_eq_true] at h;rw [VF h.1,VF h.2]
 ·cases h
def EH {a b:XA} (h:nO a b=true):a=b:=by
 rw [kp] at h; exact Vv h
theorem jm:∀ (n:Nat) (a b:XB),qw n a b=true->a=b
 | 0,_,_,h=>by cases h
 | n+1,a,b,h=>by
  unfold qw at h;split at h <;> first
   | (cases h; done)
   | rfl
   | skip
  ·rw [beq_iff_eq] at h; rw [h]
  ·simp only [Bool.and_eq_true,decide_eq_true_eq,beq_iff_eq] at h; rw [h.1,h.2]
  ·rw [EH h]
  ·rw [H3 h]
  ·simp only [Bool.and_eq_true] at h;rw [H3 h.1.1,VF h.1.2,VF h.2]
  ·rw [VF h]
  ·simp only [Bool.and_eq_true] at h;rw [VF h.1.1,oh (jm n) h.1.2,oh (jm n) h.2]
  ·simp only [Bool.and_eq_true] at h;rw [VF h.1,jm n _ _ h.2]
  ·rw [oh (jm n) h]
  ·rw [oh (jm n) h]
theorem yn {α:Type} {q:α->α->Bool} (c:∀ a b,q a b=true->a=b):∀ {l k:List (α × XB)},de q l k=true->l=k
 | [],[],_=>rfl
 | a::l,b::k,h=>by
  simp only [de,Bool.and_eq_true] at h;rw [show a=b from Prod.ext (c _ _ h.1.1) (jm _ _ _ h.1.2),yn c h.2]
 | [],_::_,h=>by simp [de] at h
 | _::_,[],h=>by simp [de] at h
def N7 {a b:AO} (h:Nu a b=true):a=b:=by
 unfold Nu at h;split at h
 ·rfl
 ·simp only [Bool.and_eq_true] at h;rw [VF h.1.1,VF h.1.2,oh (jm _) h.2]
 ·rw [yn (fun a b=>EH) h]
 ·rw [yn (fun a b c=>by rw [rh] at c; exact Vv c) h]
 ·rw [yn (fun a b c=>by rw [oz] at c; exact Vv c) h]
 ·cases h
def IP {α:Type} {q:α->α->Bool} (c:∀ a b,q a b=true->a=b) {a b:Option α} (h:Gr q a b=true):a=b:=by
 unfold Gr at h;split at h
 ·rfl
 ·rw [c _ _ h]
 ·cases h
theorem yo {α:Type} {q:α->α->Bool} (c:∀ a b,q a b=true->a=b):∀ {a b:dF α},Ax q a b=true->a=b
 | .nil,.nil,_=>rfl
 | .node o l r,.node o' l' d,h=>by
  simp only [Ax,Bool.and_eq_true] at h;rw [IP c h.1.1,yo c h.1.2,yo c h.2]
 | .nil,.node _ _ _,h=>by simp [Ax] at h
 | .node _ _ _,.nil,h=>by simp [Ax] at h
def MR (C:Cx) (ρ:fY):vK->Made->Prop
 | [],[]=>True
 | (i,b,off,l)::m,(c,a,l')::d=>i=c/\(∃ pl,ρ b=some pl/\a=⟨pl.cu,pl.sh+off,none⟩)/\dO ρ l l'/\MR C ρ m d
 | _,_=>False
theorem MR.mono {ρ ρ':fY} (le:Le ρ ρ'):∀ {m:vK} {c:Made},MR C ρ m c->MR C ρ' m c
 | [],[],_=>trivial
 | (i,b,off,l)::m,(j,a,l')::c,⟨h1,⟨pl,h2,d⟩,f,g⟩=>⟨h1,⟨pl,le _ _ h2,d⟩,f.mono le,MR.mono le g⟩
 | [],_::_,h=>h.elim
 | _::_,[],h=>h.elim
def I2.inj {pl:Pl} {c a b:Nat} (h:I2 pl c a) (k:I2 pl c b):a=b:=by
 rcases h with ⟨h1,h2⟩ | ⟨h1,h2⟩ <;> rcases k with ⟨d,f⟩ | ⟨d,f⟩ <;> omega
mutual
theorem VR.inj {ρ:fY}:∀ {v a b:XB},VR ρ v a->VR ρ v b->a=b
 | _,_,_,.bool _,h=>by cases h; rfl
 | _,_,_,.int _ _,h=>by cases h; rfl
 | _,_,_,.string _,h=>by cases h; rfl
 | _,_,_,.Pe,h=>by cases h; rfl
 | _,_,_,.ptr off d,h=>by cases h with | ptr _ h2=>rw [d] at h2; cases h2; rfl
 | _,_,_,.nZ _,h=>by cases h; rfl
 | _,_,_,.sl _ _ d hc _,h=>by cases h with | sl _ _ h2 f _=>rw [d] at h2; cases h2; rw [hc.inj f]
 | _,_,_,.OZ,h=>by cases h; rfl
 | _,_,_,.map d,h=>by cases h with | map h2=>rw [d] at h2; cases h2; rfl
 | _,_,_,.func _ h1 h2,h=>by cases h with | func _ c g=>rw [dO.inj h1 c,dO.inj h2 g]
 | _,_,_,.nilFunc,h=>by cases h; rfl
 | _,_,_,.nilIface,h=>by cases h; rfl
 | _,_,_,.iface _ h1,h=>by cases h with | iface _ c=>rw [VR.inj h1 c]
 | _,_,_,.agg h1,h=>by cases h with | agg c=>rw [dO.inj h1 c]
 | _,_,_,.tuple h1,h=>by cases h with | tuple c=>rw [dO.inj h1 c]
theorem dO.inj {ρ:fY}:∀ {v a b:List XB},dO ρ v a->dO ρ v b->a=b
 | _,_,_,.nil,h=>by cases h; rfl
 | _,_,_,.cons h1 c,h=>by cases h with | cons d f=>rw [VR.inj h1 d,dO.inj c f]
end
theorem tN (R:Rel C h0 ρ s.σ h) {o:Oper}:∀ {m:vK} {d:Made},MR C ρ m d->vh C s (waits o) m=true->T.EK h (jK o d)
 | [],[],_,_=>trivial
 | (i,b,off,l)::m,(q,a,l')::d,⟨h1,⟨pl,h2,g⟩,j,e⟩,c=>by
  subst h1;unfold vh at c;unfold jK;cases f:rS i (waits o) with
  | true =>
   rw [f] at c;simp only [cond_true];exact tN R e c
  | false =>
   rw [f] at c;simp only [cond_false,Bool.and_eq_true] at c ⊢;obtain ⟨hc,c⟩:=c;refine ⟨?_,tN R e c⟩;cases hk:cells C s b off l.length with
   | none=>rw [hk] at hc; cases hc
   | some k =>
    rw [hk] at hc
    have:=oh (jm 9) (show qP (qw 9) k l=true from hc)
    subst this;obtain ⟨_,k',n,p⟩:=qB R hk h2;rw [j.inj n,g];exact p
 | [],_::_,h,_=>h.elim
 | _::_,[],h,_=>h.elim
def Gv {l:List (YA × List XB)} {t:T} (h1:T.EK h l) (h2:t L K h):uw l t L K h:=by
 cases l with
 | nil=>exact h2
 | cons p l=>exact ⟨h1,h2⟩
theorem Of:∀ {ts:List T},ts≠[]->(∀ t∈ts,t L K h)->Re ts L K h
 | [],hn,_=>(hn rfl).elim
 | [t],_,b=>b t ah
 | t::u::ts,_,b=>by
  show T.every L K h (t::u::ts)
  have:∀ l:List T,(∀ t∈l,t L K h)->T.every L K h l:=by
   intro l
   induction l with
   | nil=>intro _; trivial
   | cons a l c=>exact fun hl=>⟨hl a ah,c fun t b=>hl t (by simp [b])⟩
  exact this _ b
def H2 (C:Cx) (h0:Hp) (ρ:fY) (σ:dF AO) (e:Ev) (k:Env->T) (L:Lp) (K:XB->Hp->Prop):Prop :=
 ∀ ρ1 h1 a,Le ρ ρ1->Rel C h0 ρ1 σ h1->ER ρ1 e a->k a L K h1
def H2.mono {ρ ρ':fY} {σ:dF AO} {k:Env->T} (le:Le ρ ρ') (h:H2 C h0 ρ σ e k L K):H2 C h0 ρ' σ e k L K:=fun ρ1 h1 b a=>h ρ1 h1 b (le.trans a)
theorem nM (O:Ok C) {call:fL} (z:mM C h0 call) {k:Env->T}:∀ (f:Nat) {D:List Nat} {ρ:fY} {s:CS} {h:Hp} {e j:Ev} {y:CS} {I:Env} {m:vK} {m':Made} {p A:Ao},
  xw C call n ops f D e s m p=some (j,y,A)->Rel C h0 ρ s.σ h->ER ρ e I->MR C ρ m m'->H2 C h0 ρ y.σ j k L K->fF C.P n ops f D I m' k L K h
 | 0,D,ρ,s,h,e,j,y,I,m,m',p,A,c,R,Q,J,hk=>by cases c
 | f+1,D,ρ,s,h,e,j,y,I,m,m',p,A,c,R,Q,J,hk=>by
  unfold xw at c;unfold fF;cases hc:cY C.P D true (idx 0 ops.toList) with
  | cons q qs =>
   obtain ⟨i,o⟩:=q;rw [hc] at c;simp only at c ⊢;obtain ⟨w,S,c⟩:=Vq.1 c;refine wc Q S (fun B M d=>?_) (fun E M d=>?_)
   ·subst B;simp only at c;unfold DT at c;split at c
    ·rename_i t x V;simp only [V];obtain ⟨v,hv,c⟩:=Vq.1 c;obtain ⟨⟨b,off,l,u⟩,hl,c⟩:=Vq.1 c;obtain ⟨v',W,_,X⟩:=bG R d hv;unfold qq;rw [X];obtain ⟨pl,l',u',k1,k2,k3,k4,k5⟩:=zm R W hl;refine k5 (fun a l v=>fF C.P n ops f (i::D) (dQ n M o.dst v) ((i,a,l)::m') k) L K ?_;exact nM O z f c R (d.put o.dst k3) ⟨rfl,⟨pl,k1,rfl⟩,k2,J⟩ hk
    ·rename_i Y;obtain ⟨⟨v,s2⟩,h1,c⟩:=Vq.1 c;have Z:tO C.P o M (fun v=>fF C.P n ops f (i::D) (dQ n M o.dst v) m' k) L K h:=by
      refine FP O z R d h1 ?_;intro ρ1 v1 h1 le U hv;exact nM O z f c U ((d.mono le).put o.dst hv) (J.mono le) (hk.mono le)
     have hne:∀ t x,o.op≠.load t x:=fun t x hh=>Y t x hh
     clear c S;obtain ⟨dst,op,type,pos,after,guard⟩:=o;cases op <;> first | exact Z | exact (hne _ _ rfl).elim
   ·subst E;exact nM O z f c R (d.put o.dst ni) J hk
  | nil =>
   rw [hc] at c;simp only at c ⊢;cases hn:cY C.P D false (idx 0 ops.toList) with
   | nil =>
    rw [hn] at c;cases c;exact hk ρ h I (Le.refl _) R Q
   | cons q qs =>
    rw [hn] at c;simp only at c ⊢;unfold M6 at c;obtain ⟨⟨e3,s3,p3⟩,h1,c⟩:=Vq.1 c;obtain ⟨h2,c⟩:=bi.1 (show fx _ _=some (j,y,A) from c);cases c
    have one:∀ (q:Nat × Oper) (p2:Ao) (F:Ev) (G:CS) (N:Ao),yw C call n ops e s m (fun i e s p=>xw C call n ops f (i::D) e s m p) q p2=some (F,G,N)->F=j->G.σ=y.σ ->
      kI n ops q.2 I (fun e=>tO C.P q.2 e fun v=>uw (jK q.2 m') (fF C.P n ops f (q.1::D) (dQ n e q.2.dst v) m' k)) (fun e=>fF C.P n ops f (q.1::D) (dQ n e q.2.dst undef) m' k) L K h:=by
     rintro ⟨i,o⟩ p2 F G N g rfl hσ;unfold yw at g;simp only at g ⊢;obtain ⟨w,S,g⟩:=Vq.1 g;refine wc Q S (fun B M d=>?_) (fun E M d=>?_)
     ·subst B;obtain ⟨⟨v,s5⟩,W,g⟩:=Vq.1 g;obtain ⟨X,g⟩:=bi.1 (show fx _ _=some (F,G,N) from g);refine FP (s:=⟨s.σ,Cm i s.nx p2⟩) O z R d W ?_;intro ρ1 v1 h1 le U hv;have mr1:=J.mono le;refine Gv (tN U mr1 X) ?_;exact nM O z f g U ((d.mono le).put o.dst hv) mr1 (by rw [hσ]; exact hk.mono le)
     ·subst E;exact nM O z f g R (d.put o.dst ni) J (by rw [hσ]; exact hk)
    refine Of ah fun t ht=>?_
    simp only [List.map_cons,List.mem_cons,List.mem_map] at ht;rcases ht with rfl | ⟨q2,hq2,rfl⟩
    ·exact one q p j y A h1 rfl rfl
    ·have:=VT.1 h2 q2 hq2
     unfold sameAs at this;cases H:yw C call n ops e s m (fun i e s p=>xw C call n ops f (i::D) e s m p) q2 A with
     | none=>rw [H] at this; cases this
     | some r =>
      obtain ⟨F,G,N⟩:=r;rw [H] at this;have this:(Ax (qw 9) F j && Ax Nu G.σ y.σ)=true:=this;simp only [Bool.and_eq_true] at this;exact one q2 A F G N H (yo (jm 9) this.1) (yo (fun a b=>N7) this.2)
end
end Go.Sx.Cr
