/- Part of the framework. No condition. -/
import Derived.Test.YtmdncdaladplkaaGreatDoorSxJg
import Derived.Test.YtmdncdaladplkaaGreatDoorSxY
set_option linter.all false
set_option maxHeartbeats 4000000
namespace Go.Sx.Cr
section
variable {C:Cx} {h0:Hp} {ρ:iv} {s s1:CS} {h:Hp} {e e1:Ev} {e':Env} {L:Lp} {K:Xab->Hp->Prop} {n:Nat} {ops:Array Oper}
def LO {α:Type} (v:Xab) (k:Xab->α):forced v k=k v:=by
 unfold forced;split
 ·split
  ·split <;> rfl
  ·rfl
 ·split <;> rfl
 ·rfl
def ER.put (a:ER ρ e e') (dst:Option Tmp) {v v':Xab} (hv:VR ρ v v'):ER ρ (EA n e dst v) (eC n e' dst v'):=by
 cases dst with
 | none=>exact a
 | some d =>
  unfold EA eC;simp only [LO];cases c:Nat.blt d n with
  | false=>exact a
  | true =>
   simp only [cond_true];intro t u ht;rw [dY.xv] at ht;rw [dN]
   by_cases h:t=d
   ·rw [ag9 h] at ht; cases ht;rw [ag9 h.symm]; exact ⟨v',rfl,hv⟩
   ·rw [ac9 h] at ht;rw [ac9 fun b=>h b.symm]; exact a t u ht
def ER.again (a:ER ρ e e') {d:Nat} {v:Xab} (b:da e' d=some v):ER ρ e (eC n e' (some d) v):=by
 intro t u ht;obtain ⟨c,h1,h2⟩:=a t u ht;refine ⟨c,?_,h2⟩;unfold eC;simp only;cases Nat.blt d n with
 | false=>exact h1
 | true =>
  simp only [cond_true];rw [dN]
  by_cases h:d=t
  ·subst h; rw [ag9 rfl,<- h1,b]
  ·rw [ac9 h]; exact h1
def xT (c:ER ρ e e') {o:Oper} {w:Bool} (a:DO ops o e=some w) {f no:Env->T} (j:w=true->∀ g,ER ρ e g->f g L K h) (hn:w=false->∀ g,ER ρ e g->no g L K h):mn n ops o e' f no L K h:=by
 unfold DO at a;unfold mn;cases k:guardOf ops o with
 | none =>
  rw [k] at a; simp only at a ⊢;cases a; exact j rfl e' c
 | some p =>
  obtain ⟨l,i⟩:=p;rw [k] at a;cases l with
  | none=>simp only at a ⊢; cases a; exact hn rfl e' c
  | some d =>
   simp only at a ⊢;obtain ⟨v,hv,a⟩:=aa9.1 a;obtain ⟨v',h1,h2⟩:=c d v hv;rw [h1];unfold U' at a;split at a
   ·rename_i b;cases a; cases h2;have ea:=c.again (n:=n) h1;cases i <;> cases b <;> simp only [cond_true,cond_false]
    ·exact j rfl _ ea
    ·exact hn rfl _ ea
    ·exact hn rfl _ ea
    ·exact j rfl _ ea
   ·cases a;cases h2;exact hn rfl e' c
   ·cases a
theorem EL (O:Ok C) {call:gJ} (d:ov C h0 call) {k:Env->T}:∀ (l:List Oper) {ρ:iv} {s:CS} {h:Hp} {e:Ev} {e':Env},Tj C call n ops l e s=some (e1,s1)->Rel C h0 ρ s.σ h->ER ρ e e' ->
  (∀ ρ1 h1 c,Le ρ ρ1->Rel C h0 ρ1 s1.σ h1->ER ρ1 e1 c->k c L K h1)->Gw C.P n ops l e' k L K h
 | [],ρ,s,h,e,e',b,R,f,hk=>by
  cases (show some (e,s)=some (e1,s1) from b);exact hk ρ h e' (Le.refl _) R f
 | o::l,ρ,s,h,e,e',b,R,f,hk=>by
  obtain ⟨w,m,b⟩:=aa9.1 (show (DO ops o e).bind _=some (e1,s1) from b);unfold Gw;refine xT f m (fun g c a=>?_) (fun i c a=>?_)
  ·subst g;obtain ⟨⟨v,r⟩,h1,h2⟩:=aa9.1 (show (XG C call o e s).bind _=some (e1,s1) from b);refine IB O d R a h1 ?_;intro ρ1 t h1 le p hv;exact EL O d l h2 p ((a.mono le).put o.dst hv) fun ρ2 h2 q j=>hk ρ2 h2 q (le.trans j)
  ·subst i;exact EL O d l b R (a.put o.dst oM) hk
theorem pR {q:Xab->Xab->Bool} (c:∀ a b,q a b=true->a=b):∀ {l k:List Xab},rJ q l k=true->l=k
 | [],[],_=>rfl
 | a::l,b::k,h=>by
  simp only [rJ,Bool.and_eq_true] at h;rw [c a b h.1,pR c h.2]
 | [],_::_,h=>by simp [rJ] at h
 | _::_,[],h=>by simp [rJ] at h
def La {a b:Xac} (h:Uk a b=true):a=b:=by
 unfold Uk at h;split at h
 ·rfl
 ·simp only [Bool.and_eq_true] at h;rw [au9 h.1,au9 h.2]
 ·cases h
def Hu {a b:Xaa} (h:pF a b=true):a=b:=by
 rw [lS] at h; exact ah9 h
theorem j8:∀ (n:Nat) (a b:Xab),sE n a b=true->a=b
 | 0,_,_,h=>by cases h
 | n+1,a,b,h=>by
  unfold sE at h;split at h <;> first
   | (cases h; done)
   | rfl
   | skip
  ·rw [beq_iff_eq] at h; rw [h]
  ·simp only [Bool.and_eq_true,decide_eq_true_eq,beq_iff_eq] at h; rw [h.1,h.2]
  ·rw [Hu h]
  ·rw [La h]
  ·simp only [Bool.and_eq_true] at h;rw [La h.1.1,au9 h.1.2,au9 h.2]
  ·rw [au9 h]
  ·simp only [Bool.and_eq_true] at h;rw [au9 h.1.1,pR (j8 n) h.1.2,pR (j8 n) h.2]
  ·simp only [Bool.and_eq_true] at h;rw [au9 h.1,j8 n _ _ h.2]
  ·rw [pR (j8 n) h]
  ·rw [pR (j8 n) h]
theorem An {α:Type} {q:α->α->Bool} (c:∀ a b,q a b=true->a=b):∀ {l k:List (α × Xab)},du q l k=true->l=k
 | [],[],_=>rfl
 | a::l,b::k,h=>by
  simp only [du,Bool.and_eq_true] at h;rw [show a=b from Prod.ext (c _ _ h.1.1) (j8 _ _ _ h.1.2),An c h.2]
 | [],_::_,h=>by simp [du] at h
 | _::_,[],h=>by simp [du] at h
def SK {a b:AO} (h:RM a b=true):a=b:=by
 unfold RM at h;split at h
 ·rfl
 ·simp only [Bool.and_eq_true] at h;rw [au9 h.1.1,au9 h.1.2,pR (j8 _) h.2]
 ·rw [An (fun a b=>Hu) h]
 ·rw [An (fun a b c=>by rw [tu] at c; exact ah9 c) h]
 ·rw [An (fun a b c=>by rw [qf] at c; exact ah9 c) h]
 ·cases h
def Mo {α:Type} {q:α->α->Bool} (c:∀ a b,q a b=true->a=b) {a b:Option α} (h:Jo q a b=true):a=b:=by
 unfold Jo at h;split at h
 ·rfl
 ·rw [c _ _ h]
 ·cases h
theorem Ap {α:Type} {q:α->α->Bool} (c:∀ a b,q a b=true->a=b):∀ {a b:dY α},CI q a b=true->a=b
 | .nil,.nil,_=>rfl
 | .node o l r,.node o' l' d,h=>by
  simp only [CI,Bool.and_eq_true] at h;rw [Mo c h.1.1,Ap c h.1.2,Ap c h.2]
 | .nil,.node _ _ _,h=>by simp [CI] at h
 | .node _ _ _,.nil,h=>by simp [CI] at h
def MR (C:Cx) (ρ:iv):xx->Made->Prop
 | [],[]=>True
 | (i,b,off,l)::m,(c,a,l')::d=>i=c/\(∃ pl,ρ b=some pl/\a=⟨pl.cB,pl.sh+off,none⟩)/\eu ρ l l'/\MR C ρ m d
 | _,_=>False
theorem MR.mono {ρ ρ':iv} (le:Le ρ ρ'):∀ {m:xx} {c:Made},MR C ρ m c->MR C ρ' m c
 | [],[],_=>trivial
 | (i,b,off,l)::m,(j,a,l')::c,⟨h1,⟨pl,h2,d⟩,f,g⟩=>⟨h1,⟨pl,le _ _ h2,d⟩,f.mono le,MR.mono le g⟩
 | [],_::_,h=>h.elim
 | _::_,[],h=>h.elim
def MD.inj {pl:Pl} {c a b:Nat} (h:MD pl c a) (k:MD pl c b):a=b:=by
 rcases h with ⟨h1,h2⟩ | ⟨h1,h2⟩ <;> rcases k with ⟨d,f⟩ | ⟨d,f⟩ <;> omega
mutual
theorem VR.inj {ρ:iv}:∀ {v a b:Xab},VR ρ v a->VR ρ v b->a=b
 | _,_,_,.bool _,h=>by cases h; rfl
 | _,_,_,.int _ _,h=>by cases h; rfl
 | _,_,_,.string _,h=>by cases h; rfl
 | _,_,_,.Um,h=>by cases h; rfl
 | _,_,_,.ptr off d,h=>by cases h with | ptr _ h2=>rw [d] at h2; cases h2; rfl
 | _,_,_,.nu _,h=>by cases h; rfl
 | _,_,_,.sl _ _ d hc _,h=>by cases h with | sl _ _ h2 f _=>rw [d] at h2; cases h2; rw [hc.inj f]
 | _,_,_,.TX,h=>by cases h; rfl
 | _,_,_,.map d,h=>by cases h with | map h2=>rw [d] at h2; cases h2; rfl
 | _,_,_,.func _ h1 h2,h=>by cases h with | func _ c g=>rw [eu.inj h1 c,eu.inj h2 g]
 | _,_,_,.nilFunc,h=>by cases h; rfl
 | _,_,_,.nilIface,h=>by cases h; rfl
 | _,_,_,.iface _ h1,h=>by cases h with | iface _ c=>rw [VR.inj h1 c]
 | _,_,_,.agg h1,h=>by cases h with | agg c=>rw [eu.inj h1 c]
 | _,_,_,.tuple h1,h=>by cases h with | tuple c=>rw [eu.inj h1 c]
theorem eu.inj {ρ:iv}:∀ {v a b:List Xab},eu ρ v a->eu ρ v b->a=b
 | _,_,_,.nil,h=>by cases h; rfl
 | _,_,_,.cons h1 c,h=>by cases h with | cons d f=>rw [VR.inj h1 d,eu.inj c f]
end
theorem vH (R:Rel C h0 ρ s.σ h) {o:Oper}:∀ {m:xx} {d:Made},MR C ρ m d->xf C s (waits o) m=true->T.B7 h (kN o d)
 | [],[],_,_=>trivial
 | (i,b,off,l)::m,(q,a,l')::d,⟨h1,⟨pl,h2,g⟩,j,e⟩,c=>by
  subst h1;unfold xf at c;unfold kN;cases f:tV i (waits o) with
  | true =>
   rw [f] at c;simp only [cond_true];exact vH R e c
  | false =>
   rw [f] at c;simp only [cond_false,Bool.and_eq_true] at c ⊢;obtain ⟨hc,c⟩:=c;refine ⟨?_,vH R e c⟩;cases hk:cells C s b off l.length with
   | none=>rw [hk] at hc; cases hc
   | some k =>
    rw [hk] at hc
    have:=pR (j8 9) (show rJ (sE 9) k l=true from hc)
    subst this;obtain ⟨_,k',n,p⟩:=sJ R hk h2;rw [j.inj n,g];exact p
 | [],_::_,h,_=>h.elim
 | _::_,[],h,_=>h.elim
def Jr {l:List (Xax × List Xab)} {t:T} (h1:T.B7 h l) (h2:t L K h):wv l t L K h:=by
 cases l with
 | nil=>exact h2
 | cons p l=>exact ⟨h1,h2⟩
theorem SY:∀ {ts:List T},ts≠[]->(∀ t∈ts,t L K h)->WG ts L K h
 | [],hn,_=>(hn rfl).elim
 | [t],_,ht=>ht t aj
 | t::u::ts,_,ht=>by
  show T.every L K h (t::u::ts)
  have:∀ l:List T,(∀ t∈l,t L K h)->T.every L K h l:=by
   intro l
   induction l with
   | nil=>intro _; trivial
   | cons a l b=>exact fun hl=>⟨hl a aj,b fun t ht=>hl t (by simp [ht])⟩
  exact this _ ht
def K8 (C:Cx) (h0:Hp) (ρ:iv) (σ:dY AO) (e:Ev) (k:Env->T) (L:Lp) (K:Xab->Hp->Prop):Prop :=
 ∀ ρ1 h1 a,Le ρ ρ1->Rel C h0 ρ1 σ h1->ER ρ1 e a->k a L K h1
def K8.mono {ρ ρ':iv} {σ:dY AO} {k:Env->T} (le:Le ρ ρ') (h:K8 C h0 ρ σ e k L K):K8 C h0 ρ' σ e k L K:=fun ρ1 h1 b a=>h ρ1 h1 b (le.trans a)
theorem pz (O:Ok C) {call:gJ} (z:ov C h0 call) {k:Env->T}:∀ (f:Nat) {D:List Nat} {ρ:iv} {s:CS} {h:Hp} {e j:Ev} {y:CS} {I:Env} {m:xx} {m':Made} {p A:Cw},
  zb C call n ops f D e s m p=some (j,y,A)->Rel C h0 ρ s.σ h->ER ρ e I->MR C ρ m m'->K8 C h0 ρ y.σ j k L K->gC C.P n ops f D I m' k L K h
 | 0,D,ρ,s,h,e,j,y,I,m,m',p,A,c,R,Q,J,hk=>by cases c
 | f+1,D,ρ,s,h,e,j,y,I,m,m',p,A,c,R,Q,J,hk=>by
  unfold zb at c;unfold gC;cases hc:dm C.P D true (idx 0 ops.toList) with
  | cons q qs =>
   obtain ⟨i,o⟩:=q;rw [hc] at c;simp only at c ⊢;obtain ⟨w,S,c⟩:=aa9.1 c;refine xT Q S (fun B M d=>?_) (fun E M d=>?_)
   ·subst B;simp only at c;unfold GD at c;split at c
    ·rename_i t x V;simp only [V];obtain ⟨v,hv,c⟩:=aa9.1 c;obtain ⟨⟨b,off,l,u⟩,hl,c⟩:=aa9.1 c;obtain ⟨v',W,_,X⟩:=bX R d hv;unfold sC;rw [X];obtain ⟨pl,l',u',k1,k2,k3,k4,k5⟩:=Bl R W hl;refine k5 (fun a l v=>gC C.P n ops f (i::D) (eC n M o.dst v) ((i,a,l)::m') k) L K ?_;exact pz O z f c R (d.put o.dst k3) ⟨rfl,⟨pl,k1,rfl⟩,k2,J⟩ hk
    ·rename_i Y;obtain ⟨⟨v,s2⟩,h1,c⟩:=aa9.1 c;have Z:vJ C.P o M (fun v=>gC C.P n ops f (i::D) (eC n M o.dst v) m' k) L K h:=by
      refine IB O z R d h1 ?_;intro ρ1 v1 h1 le U hv;exact pz O z f c U ((d.mono le).put o.dst hv) (J.mono le) (hk.mono le)
     have hne:∀ t x,o.op≠.load t x:=fun t x hh=>Y t x hh
     clear c S;obtain ⟨dst,op,type,pos,after,guard⟩:=o;cases op <;> first | exact Z | exact (hne _ _ rfl).elim
   ·subst E;exact pz O z f c R (d.put o.dst oM) J hk
  | nil =>
   rw [hc] at c;simp only at c ⊢;cases hn:dm C.P D false (idx 0 ops.toList) with
   | nil =>
    rw [hn] at c;cases c;exact hk ρ h I (Le.refl _) R Q
   | cons q qs =>
    rw [hn] at c;simp only at c ⊢;unfold Rn at c;obtain ⟨⟨e3,s3,p3⟩,h1,c⟩:=aa9.1 c;obtain ⟨h2,c⟩:=bF.1 (show gj _ _=some (j,y,A) from c);cases c
    have one:∀ (q:Nat × Oper) (p2:Cw) (F:Ev) (G:CS) (N:Cw),Au C call n ops e s m (fun i e s p=>zb C call n ops f (i::D) e s m p) q p2=some (F,G,N)->F=j->G.σ=y.σ ->
      mn n ops q.2 I (fun e=>vJ C.P q.2 e fun v=>wv (kN q.2 m') (gC C.P n ops f (q.1::D) (eC n e q.2.dst v) m' k)) (fun e=>gC C.P n ops f (q.1::D) (eC n e q.2.dst undef) m' k) L K h:=by
     rintro ⟨i,o⟩ p2 F G N g rfl hσ;unfold Au at g;simp only at g ⊢;obtain ⟨w,S,g⟩:=aa9.1 g;refine xT Q S (fun B M d=>?_) (fun E M d=>?_)
     ·subst B;obtain ⟨⟨v,s5⟩,W,g⟩:=aa9.1 g;obtain ⟨X,g⟩:=bF.1 (show gj _ _=some (F,G,N) from g);refine IB (s:=⟨s.σ,EM i s.nx p2⟩) O z R d W ?_;intro ρ1 v1 h1 le U hv;have mr1:=J.mono le;refine Jr (vH U mr1 X) ?_;exact pz O z f g U ((d.mono le).put o.dst hv) mr1 (by rw [hσ]; exact hk.mono le)
     ·subst E;exact pz O z f g R (d.put o.dst oM) J (by rw [hσ]; exact hk)
    refine SY aj fun t ht=>?_
    simp only [List.map_cons,List.mem_cons,List.mem_map] at ht;rcases ht with rfl | ⟨q2,hq2,rfl⟩
    ·exact one q p j y A h1 rfl rfl
    ·have:=bn9.1 h2 q2 hq2
     unfold sameAs at this;cases H:Au C call n ops e s m (fun i e s p=>zb C call n ops f (i::D) e s m p) q2 A with
     | none=>rw [H] at this; cases this
     | some r =>
      obtain ⟨F,G,N⟩:=r;rw [H] at this;have this:(CI (sE 9) F j && CI RM G.σ y.σ)=true:=this;simp only [Bool.and_eq_true] at this;exact one q2 A F G N H (Ap (j8 9) this.1) (Ap (fun a b=>SK) this.2)
end
end Go.Sx.Cr
