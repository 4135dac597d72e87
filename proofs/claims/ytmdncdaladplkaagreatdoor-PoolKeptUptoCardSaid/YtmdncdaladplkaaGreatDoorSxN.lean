/- Part of the framework. No condition. -/
import Derived.Test.YtmdncdaladplkaaGreatDoorSxJg
import Derived.Test.YtmdncdaladplkaaGreatDoorSxY
set_option linter.all false
set_option maxHeartbeats 4000000
namespace Go.Sx.Cr
section
variable {C:Cx} {h0:Hp} {ρ:iG} {s s1:CS} {h:Hp} {e e1:Ev} {e':Env} {L:Lp} {K:Xab->Hp->Prop} {n:Nat} {ops:Array Oper}
def MB {α:Type} (v:Xab) (k:Xab->α):forced v k=k v:=by
 unfold forced;split
 ·split
  ·split <;> rfl
  ·rfl
 ·split <;> rfl
 ·rfl
def ER.put (a:ER ρ e e') (dst:Option Tmp) {v v':Xab} (hv:VR ρ v v'):ER ρ (E1 n e dst v) (eE n e' dst v'):=by
 cases dst with
 | none=>exact a
 | some d =>
  unfold E1 eE;simp only [MB];cases c:Nat.blt d n with
  | false=>exact a
  | true =>
   simp only [cond_true];intro t u ht;rw [eb.xV] at ht;rw [dQ]
   by_cases h:t=d
   ·rw [ag9 h] at ht; cases ht;rw [ag9 h.symm]; exact ⟨v',rfl,hv⟩
   ·rw [ac9 h] at ht;rw [ac9 λb=>h b.symm]; exact a t u ht
def ER.again (a:ER ρ e e') {d:Nat} {v:Xab} (b:db e' d=some v):ER ρ e (eE n e' (some d) v):=by
 intro t u ht;obtain ⟨c,h1,h2⟩:=a t u ht;refine ⟨c,?_,h2⟩;unfold eE;simp only;cases Nat.blt d n with
 | false=>exact h1
 | true =>
  simp only [cond_true];rw [dQ]
  by_cases h:d=t
  ·subst h; rw [ag9 rfl,<- h1,b]
  ·rw [ac9 h]; exact h1
def yo (c:ER ρ e e') {o:Oper} {w:Bool} (a:Eg ops o e=some w) {f no:Env->T} (j:w=true->∀ g,ER ρ e g->f g L K h) (hn:w=false->∀ g,ER ρ e g->no g L K h):mX n ops o e' f no L K h:=by
 unfold Eg at a;unfold mX;cases k:guardOf ops o with
 | none =>
  rw [k] at a; simp only at a ⊢;cases a; exact j rfl e' c
 | some p =>
  obtain ⟨l,i⟩:=p;rw [k] at a;cases l with
  | none=>simp only at a ⊢; cases a; exact hn rfl e' c
  | some d =>
   simp only at a ⊢;obtain ⟨v,hv,a⟩:=aa9.1 a;obtain ⟨v',h1,h2⟩:=c d v hv;rw [h1];unfold VZ at a;split at a
   ·rename_i b;cases a; cases h2;have ea:=c.again (n:=n) h1;cases i <;> cases b <;> simp only [cond_true,cond_false]
    ·exact j rfl _ ea
    ·exact hn rfl _ ea
    ·exact hn rfl _ ea
    ·exact j rfl _ ea
   ·cases a;cases h2;exact hn rfl e' c
   ·cases a
theorem Fi (O:Ok C) {call:gY} (d:oU C h0 call) {k:Env->T}:∀ (l:List Oper) {ρ:iG} {s:CS} {h:Hp} {e:Ev} {e':Env},T' C call n ops l e s=some (e1,s1)->Rel C h0 ρ s.σ h->ER ρ e e' ->
  (∀ ρ1 h1 c,Le ρ ρ1->Rel C h0 ρ1 s1.σ h1->ER ρ1 e1 c->k c L K h1)->G5 C.P n ops l e' k L K h
 | [],ρ,s,h,e,e',b,R,f,hk=>by
  cases (show some (e,s)=some (e1,s1) from b);exact hk ρ h e' (Le.refl _) R f
 | o::l,ρ,s,h,e,e',b,R,f,hk=>by
  obtain ⟨w,m,b⟩:=aa9.1 (show (Eg ops o e).bind _=some (e1,s1) from b);unfold G5;refine yo f m (λg c a=>?_) (λi c a=>?_)
  ·subst g;obtain ⟨⟨v,r⟩,h1,h2⟩:=aa9.1 (show (Yx C call o e s).bind _=some (e1,s1) from b);refine Jh O d R a h1 ?_;intro ρ1 t h1 le p hv;exact Fi O d l h2 p ((a.mono le).put o.dst hv) λρ2 h2 q j=>hk ρ2 h2 q (le.trans j)
  ·subst i;exact Fi O d l b R (a.put o.dst pA) hk
theorem qy {q:Xab->Xab->Bool} (c:∀ a b,q a b=true->a=b):∀ {l k:List Xab},sr q l k=true->l=k
 | [],[],_=>rfl
 | a::l,b::k,h=>by
  simp only [sr,Bool.and_eq_true] at h;rw [c a b h.1,qy c h.2]
 | [],_::_,h=>by simp [sr] at h
 | _::_,[],h=>by simp [sr] at h
def L4 {a b:Xac} (h:U' a b=true):a=b:=by
 unfold U' at h;split at h
 ·rfl
 ·simp only [Bool.and_eq_true] at h;rw [av9 h.1,av9 h.2]
 ·cases h
def H4 {a b:Xaa} (h:qh a b=true):a=b:=by
 rw [mH] at h; exact ai9 h
theorem kF:∀ (n:Nat) (a b:Xab),tn n a b=true->a=b
 | 0,_,_,h=>by cases h
 | n+1,a,b,h=>by
  unfold tn at h;split at h <;> first
   | (cases h; done)
   | rfl
   | skip
  ·rw [beq_iff_eq] at h; rw [h]
  ·simp only [Bool.and_eq_true,decide_eq_true_eq,beq_iff_eq] at h; rw [h.1,h.2]
  ·rw [H4 h]
  ·rw [L4 h]
  ·simp only [Bool.and_eq_true] at h;rw [L4 h.1.1,av9 h.1.2,av9 h.2]
  ·rw [av9 h]
  ·simp only [Bool.and_eq_true] at h;rw [av9 h.1.1,qy (kF n) h.1.2,qy (kF n) h.2]
  ·simp only [Bool.and_eq_true] at h;rw [av9 h.1,kF n _ _ h.2]
  ·rw [qy (kF n) h]
  ·rw [qy (kF n) h]
theorem AB {α:Type} {q:α->α->Bool} (c:∀ a b,q a b=true->a=b):∀ {l k:List (α × Xab)},dz q l k=true->l=k
 | [],[],_=>rfl
 | a::l,b::k,h=>by
  simp only [dz,Bool.and_eq_true] at h;rw [show a=b from Prod.ext (c _ _ h.1.1) (kF _ _ _ h.1.2),AB c h.2]
 | [],_::_,h=>by simp [dz] at h
 | _::_,[],h=>by simp [dz] at h
def TD {a b:AO} (h:SG a b=true):a=b:=by
 unfold SG at h;split at h
 ·rfl
 ·simp only [Bool.and_eq_true] at h;rw [av9 h.1.1,av9 h.1.2,qy (kF _) h.2]
 ·rw [AB (λa b=>H4) h]
 ·rw [AB (λa b c=>by rw [tZ] at c; exact ai9 c) h]
 ·rw [AB (λa b c=>by rw [qM] at c; exact ai9 c) h]
 ·cases h
def M7 {α:Type} {q:α->α->Bool} (c:∀ a b,q a b=true->a=b) {a b:Option α} (h:JZ q a b=true):a=b:=by
 unfold JZ at h;split at h
 ·rfl
 ·rw [c _ _ h]
 ·cases h
theorem AF {α:Type} {q:α->α->Bool} (c:∀ a b,q a b=true->a=b):∀ {a b:eb α},C9 q a b=true->a=b
 | .nil,.nil,_=>rfl
 | .node o l r,.node o' l' d,h=>by
  simp only [C9,Bool.and_eq_true] at h;rw [M7 c h.1.1,AF c h.1.2,AF c h.2]
 | .nil,.node _ _ _,h=>by simp [C9] at h
 | .node _ _ _,.nil,h=>by simp [C9] at h
def MR (C:Cx) (ρ:iG):xX->Made->Prop
 | [],[]=>True
 | (i,b,off,l)::m,(c,a,l')::d=>i=c/\(∃ pl,ρ b=some pl/\a=⟨pl.cj,pl.sh+off,none⟩)/\eA ρ l l'/\MR C ρ m d
 | _,_=>False
theorem MR.mono {ρ ρ':iG} (le:Le ρ ρ'):∀ {m:xX} {c:Made},MR C ρ m c->MR C ρ' m c
 | [],[],_=>trivial
 | (i,b,off,l)::m,(j,a,l')::c,⟨h1,⟨pl,h2,d⟩,f,g⟩=>⟨h1,⟨pl,le _ _ h2,d⟩,f.mono le,MR.mono le g⟩
 | [],_::_,h=>h.elim
 | _::_,[],h=>h.elim
def Np.inj {pl:Pl} {c a b:Nat} (h:Np pl c a) (k:Np pl c b):a=b:=by
 rcases h with ⟨h1,h2⟩ | ⟨h1,h2⟩ <;> rcases k with ⟨d,f⟩ | ⟨d,f⟩ <;> omega
mutual
theorem VR.inj {ρ:iG}:∀ {v a b:Xab},VR ρ v a->VR ρ v b->a=b
 | _,_,_,.bool _,h=>by cases h; rfl
 | _,_,_,.int _ _,h=>by cases h; rfl
 | _,_,_,.string _,h=>by cases h; rfl
 | _,_,_,.Vb,h=>by cases h; rfl
 | _,_,_,.ptr off d,h=>by cases h with | ptr _ h2=>rw [d] at h2; cases h2; rfl
 | _,_,_,.mG _,h=>by cases h; rfl
 | _,_,_,.sl _ _ d hc _,h=>by cases h with | sl _ _ h2 f _=>rw [d] at h2; cases h2; rw [hc.inj f]
 | _,_,_,.UK,h=>by cases h; rfl
 | _,_,_,.map d,h=>by cases h with | map h2=>rw [d] at h2; cases h2; rfl
 | _,_,_,.func _ h1 h2,h=>by cases h with | func _ c g=>rw [eA.inj h1 c,eA.inj h2 g]
 | _,_,_,.nilFunc,h=>by cases h; rfl
 | _,_,_,.nilIface,h=>by cases h; rfl
 | _,_,_,.iface _ h1,h=>by cases h with | iface _ c=>rw [VR.inj h1 c]
 | _,_,_,.agg h1,h=>by cases h with | agg c=>rw [eA.inj h1 c]
 | _,_,_,.tuple h1,h=>by cases h with | tuple c=>rw [eA.inj h1 c]
theorem eA.inj {ρ:iG}:∀ {v a b:List Xab},eA ρ v a->eA ρ v b->a=b
 | _,_,_,.nil,h=>by cases h; rfl
 | _,_,_,.cons h1 c,h=>by cases h with | cons d f=>rw [VR.inj h1 d,eA.inj c f]
end
theorem wx (R:Rel C h0 ρ s.σ h) {o:Oper}:∀ {m:xX} {d:Made},MR C ρ m d->xI C s (waits o) m=true->T.Cv h (lF o d)
 | [],[],_,_=>trivial
 | (i,b,off,l)::m,(q,a,l')::d,⟨h1,⟨pl,h2,g⟩,j,e⟩,c=>by
  subst h1;unfold xI at c;unfold lF;cases f:uG i (waits o) with
  | true =>
   rw [f] at c;simp only [cond_true];exact wx R e c
  | false =>
   rw [f] at c;simp only [cond_false,Bool.and_eq_true] at c ⊢;obtain ⟨hc,c⟩:=c;refine ⟨?_,wx R e c⟩;cases hk:cells C s b off l.length with
   | none=>rw [hk] at hc; cases hc
   | some k =>
    rw [hk] at hc
    have:=qy (kF 9) (show sr (tn 9) k l=true from hc)
    subst this;obtain ⟨_,k',n,p⟩:=tz R hk h2;rw [j.inj n,g];exact p
 | [],_::_,h,_=>h.elim
 | _::_,[],h,_=>h.elim
def J4 {l:List (Xax × List Xab)} {t:T} (h1:T.Cv h l) (h2:t L K h):w8 l t L K h:=by
 cases l with
 | nil=>exact h2
 | cons p l=>exact ⟨h1,h2⟩
theorem TP:∀ {ts:List T},ts≠[]->(∀ t∈ts,t L K h)->Xv ts L K h
 | [],hn,_=>(hn rfl).elim
 | [t],_,ht=>ht t ai
 | t::u::ts,_,ht=>by
  show T.every L K h (t::u::ts)
  have:∀ l:List T,(∀ t∈l,t L K h)->T.every L K h l:=by
   intro l
   induction l with
   | nil=>intro _; trivial
   | cons a l b=>exact λhl=>⟨hl a ai,b λt ht=>hl t (by simp [ht])⟩
  exact this _ ht
def L0 (C:Cx) (h0:Hp) (ρ:iG) (σ:eb AO) (e:Ev) (k:Env->T) (L:Lp) (K:Xab->Hp->Prop):Prop :=
 ∀ ρ1 h1 a,Le ρ ρ1->Rel C h0 ρ1 σ h1->ER ρ1 e a->k a L K h1
def L0.mono {ρ ρ':iG} {σ:eb AO} {k:Env->T} (le:Le ρ ρ') (h:L0 C h0 ρ σ e k L K):L0 C h0 ρ' σ e k L K:=λρ1 h1 b a=>h ρ1 h1 b (le.trans a)
theorem qc (O:Ok C) {call:gY} (z:oU C h0 call) {k:Env->T}:∀ (f:Nat) {D:List Nat} {ρ:iG} {s:CS} {h:Hp} {e j:Ev} {y:CS} {I:Env} {m:xX} {m':Made} {p A:CX},
  zr C call n ops f D e s m p=some (j,y,A)->Rel C h0 ρ s.σ h->ER ρ e I->MR C ρ m m'->L0 C h0 ρ y.σ j k L K->gT C.P n ops f D I m' k L K h
 | 0,D,ρ,s,h,e,j,y,I,m,m',p,A,c,R,Q,J,hk=>by cases c
 | f+1,D,ρ,s,h,e,j,y,I,m,m',p,A,c,R,Q,J,hk=>by
  unfold zr at c;unfold gT;cases hc:dm C.P D true (idx 0 ops.toList) with
  | cons q qs =>
   obtain ⟨i,o⟩:=q;rw [hc] at c;simp only at c ⊢;obtain ⟨w,S,c⟩:=aa9.1 c;refine yo Q S (λB M d=>?_) (λE M d=>?_)
   ·subst B;simp only at c;unfold Hb at c;split at c
    ·rename_i t x V;simp only [V];obtain ⟨v,hv,c⟩:=aa9.1 c;obtain ⟨⟨b,off,l,u⟩,hl,c⟩:=aa9.1 c;obtain ⟨v',W,_,X⟩:=bQ R d hv;unfold th;rw [X];obtain ⟨pl,l',u',k1,k2,k3,k4,k5⟩:=BG R W hl;refine k5 (λa l v=>gT C.P n ops f (i::D) (eE n M o.dst v) ((i,a,l)::m') k) L K ?_;exact qc O z f c R (d.put o.dst k3) ⟨rfl,⟨pl,k1,rfl⟩,k2,J⟩ hk
    ·rename_i Y;obtain ⟨⟨v,s2⟩,h1,c⟩:=aa9.1 c;have Z:wy C.P o M (λv=>gT C.P n ops f (i::D) (eE n M o.dst v) m' k) L K h:=by
      refine Jh O z R d h1 ?_;intro ρ1 v1 h1 le U hv;exact qc O z f c U ((d.mono le).put o.dst hv) (J.mono le) (hk.mono le)
     have hne:∀ t x,o.op≠.load t x:=λt x hh=>Y t x hh
     clear c S;obtain ⟨dst,op,type,pos,after,guard⟩:=o;cases op <;> first | exact Z | exact (hne _ _ rfl).elim
   ·subst E;exact qc O z f c R (d.put o.dst pA) J hk
  | nil =>
   rw [hc] at c;simp only at c ⊢;cases hn:dm C.P D false (idx 0 ops.toList) with
   | nil =>
    rw [hn] at c;cases c;exact hk ρ h I (Le.refl _) R Q
   | cons q qs =>
    rw [hn] at c;simp only at c ⊢;unfold R9 at c;obtain ⟨⟨e3,s3,p3⟩,h1,c⟩:=aa9.1 c;obtain ⟨h2,c⟩:=bt.1 (show gF _ _=some (j,y,A) from c);cases c
    have one:∀ (q:Nat × Oper) (p2:CX) (F:Ev) (G:CS) (N:CX),AJ C call n ops e s m (λi e s p=>zr C call n ops f (i::D) e s m p) q p2=some (F,G,N)->F=j->G.σ=y.σ ->
      mX n ops q.2 I (λe=>wy C.P q.2 e λv=>w8 (lF q.2 m') (gT C.P n ops f (q.1::D) (eE n e q.2.dst v) m' k)) (λe=>gT C.P n ops f (q.1::D) (eE n e q.2.dst undef) m' k) L K h:=by
     rintro ⟨i,o⟩ p2 F G N g rfl hσ;unfold AJ at g;simp only at g ⊢;obtain ⟨w,S,g⟩:=aa9.1 g;refine yo Q S (λB M d=>?_) (λE M d=>?_)
     ·subst B;obtain ⟨⟨v,s5⟩,W,g⟩:=aa9.1 g;obtain ⟨X,g⟩:=bt.1 (show gF _ _=some (F,G,N) from g);refine Jh (s:=⟨s.σ,Fj i s.nx p2⟩) O z R d W ?_;intro ρ1 v1 h1 le U hv;have mr1:=J.mono le;refine J4 (wx U mr1 X) ?_;exact qc O z f g U ((d.mono le).put o.dst hv) mr1 (by rw [hσ]; exact hk.mono le)
     ·subst E;exact qc O z f g R (d.put o.dst pA) J (by rw [hσ]; exact hk)
    refine TP ai λt ht=>?_
    simp only [List.map_cons,List.mem_cons,List.mem_map] at ht;rcases ht with rfl | ⟨q2,hq2,rfl⟩
    ·exact one q p j y A h1 rfl rfl
    ·have:=bn9.1 h2 q2 hq2
     unfold sameAs at this;cases H:AJ C call n ops e s m (λi e s p=>zr C call n ops f (i::D) e s m p) q2 A with
     | none=>rw [H] at this; cases this
     | some r =>
      obtain ⟨F,G,N⟩:=r;rw [H] at this;have this:(C9 (tn 9) F j && C9 SG G.σ y.σ)=true:=this;simp only [Bool.and_eq_true] at this;exact one q2 A F G N H (AF (kF 9) this.1) (AF (λa b=>TD) this.2)
end
end Go.Sx.Cr
