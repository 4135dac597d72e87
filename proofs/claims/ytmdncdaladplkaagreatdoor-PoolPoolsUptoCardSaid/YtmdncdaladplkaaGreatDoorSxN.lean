/- Part of the framework. No condition. -/
import Derived.Test.YtmdncdaladplkaaGreatDoorSxJg
import Derived.Test.YtmdncdaladplkaaGreatDoorSxY
set_option linter.all false
set_option maxHeartbeats 4000000
namespace Go.Sx.Cr
section
variable {C:Cx} {h0:Hp} {ρ:gX} {s s1:CS} {h:Hp} {e e1:Ev} {e':Env} {L:Lp} {K:Xab->Hp->Prop} {n:Nat} {ops:Array Oper}
def LJ {α:Type} (v:Xab) (k:Xab->α):forced v k=k v:=by
 unfold forced;split
 ·split
  ·split <;> rfl
  ·rfl
 ·split <;> rfl
 ·rfl
def ER.put (a:ER ρ e e') (dst:Option Tmp) {v v':Xab} (hv:VR ρ v v'):ER ρ (Eo n e dst v) (ez n e' dst v'):=by
 cases dst with
 | none=>exact a
 | some d =>
  unfold Eo ez;simp only [LJ];cases c:Nat.blt d n with
  | false=>exact a
  | true =>
   simp only [cond_true];intro t u ht;rw [dU.xn] at ht;rw [dJ]
   by_cases h:t=d
   ·rw [af9 h] at ht; cases ht;rw [af9 h.symm]; exact ⟨v',rfl,hv⟩
   ·rw [ac9 h] at ht;rw [ac9 fun b=>h b.symm]; exact a t u ht
def ER.again (a:ER ρ e e') {d:Nat} {v:Xab} (b:cX e' d=some v):ER ρ e (ez n e' (some d) v):=by
 intro t u ht;obtain ⟨c,h1,h2⟩:=a t u ht;refine ⟨c,?_,h2⟩;unfold ez;simp only;cases Nat.blt d n with
 | false=>exact h1
 | true =>
  simp only [cond_true];rw [dJ]
  by_cases h:d=t
  ·subst h; rw [af9 rfl,<- h1,b]
  ·rw [ac9 h]; exact h1
def xJ (c:ER ρ e e') {o:Oper} {w:Bool} (a:DF ops o e=some w) {f no:Env->T} (j:w=true->∀ g,ER ρ e g->f g L K h) (hn:w=false->∀ g,ER ρ e g->no g L K h):mn n ops o e' f no L K h:=by
 unfold DF at a;unfold mn;cases k:guardOf ops o with
 | none =>
  rw [k] at a; simp only at a ⊢;cases a; exact j rfl e' c
 | some p =>
  obtain ⟨l,i⟩:=p;rw [k] at a;cases l with
  | none=>simp only at a ⊢; cases a; exact hn rfl e' c
  | some d =>
   simp only at a ⊢;obtain ⟨v,hv,a⟩:=aa9.1 a;obtain ⟨v',h1,h2⟩:=c d v hv;rw [h1];unfold UU at a;split at a
   ·rename_i b;cases a; cases h2;have ea:=c.again (n:=n) h1;cases i <;> cases b <;> simp only [cond_true,cond_false]
    ·exact j rfl _ ea
    ·exact hn rfl _ ea
    ·exact hn rfl _ ea
    ·exact j rfl _ ea
   ·cases a;cases h2;exact hn rfl e' c
   ·cases a
theorem EC (O:Ok C) {call:gp} (d:ox C h0 call) {k:Env->T}:∀ (l:List Oper) {ρ:gX} {s:CS} {h:Hp} {e:Ev} {e':Env},S5 C call n ops l e s=some (e1,s1)->Rel C h0 ρ s.σ h->ER ρ e e' ->
  (∀ ρ1 h1 c,Le ρ ρ1->Rel C h0 ρ1 s1.σ h1->ER ρ1 e1 c->k c L K h1)->Gr C.P n ops l e' k L K h
 | [],ρ,s,h,e,e',b,R,f,hk=>by
  cases (show some (e,s)=some (e1,s1) from b);exact hk ρ h e' (Le.refl _) R f
 | o::l,ρ,s,h,e,e',b,R,f,hk=>by
  obtain ⟨w,m,b⟩:=aa9.1 (show (DF ops o e).bind _=some (e1,s1) from b);unfold Gr;refine xJ f m (fun g c a=>?_) (fun i c a=>?_)
  ·subst g;obtain ⟨⟨v,r⟩,h1,h2⟩:=aa9.1 (show (Xs C call o e s).bind _=some (e1,s1) from b);refine Ix O d R a h1 ?_;intro ρ1 t h1 le p hv;exact EC O d l h2 p ((a.mono le).put o.dst hv) fun ρ2 h2 q j=>hk ρ2 h2 q (le.trans j)
  ·subst i;exact EC O d l b R (a.put o.dst oN) hk
theorem pU {q:Xab->Xab->Bool} (c:∀ a b,q a b=true->a=b):∀ {l k:List Xab},rG q l k=true->l=k
 | [],[],_=>rfl
 | a::l,b::k,h=>by
  simp only [rG,Bool.and_eq_true] at h;rw [c a b h.1,pU c h.2]
 | [],_::_,h=>by simp [rG] at h
 | _::_,[],h=>by simp [rG] at h
def K6 {a b:Xac} (h:T8 a b=true):a=b:=by
 unfold T8 at h;split at h
 ·rfl
 ·simp only [Bool.and_eq_true] at h;rw [av9 h.1,av9 h.2]
 ·cases h
def Ho {a b:Xaa} (h:pH a b=true):a=b:=by
 rw [lT] at h; exact ah9 h
theorem j6:∀ (n:Nat) (a b:Xab),sA n a b=true->a=b
 | 0,_,_,h=>by cases h
 | n+1,a,b,h=>by
  unfold sA at h;split at h <;> first
   | (cases h; done)
   | rfl
   | skip
  ·rw [beq_iff_eq] at h; rw [h]
  ·simp only [Bool.and_eq_true,decide_eq_true_eq,beq_iff_eq] at h; rw [h.1,h.2]
  ·rw [Ho h]
  ·rw [K6 h]
  ·simp only [Bool.and_eq_true] at h;rw [K6 h.1.1,av9 h.1.2,av9 h.2]
  ·rw [av9 h]
  ·simp only [Bool.and_eq_true] at h;rw [av9 h.1.1,pU (j6 n) h.1.2,pU (j6 n) h.2]
  ·simp only [Bool.and_eq_true] at h;rw [av9 h.1,j6 n _ _ h.2]
  ·rw [pU (j6 n) h]
  ·rw [pU (j6 n) h]
theorem Ag {α:Type} {q:α->α->Bool} (c:∀ a b,q a b=true->a=b):∀ {l k:List (α × Xab)},dp q l k=true->l=k
 | [],[],_=>rfl
 | a::l,b::k,h=>by
  simp only [dp,Bool.and_eq_true] at h;rw [show a=b from Prod.ext (c _ _ h.1.1) (j6 _ _ _ h.1.2),Ag c h.2]
 | [],_::_,h=>by simp [dp] at h
 | _::_,[],h=>by simp [dp] at h
def Ss {a b:AO} (h:RA a b=true):a=b:=by
 unfold RA at h;split at h
 ·rfl
 ·simp only [Bool.and_eq_true] at h;rw [av9 h.1.1,av9 h.1.2,pU (j6 _) h.2]
 ·rw [Ag (fun a b=>Ho) h]
 ·rw [Ag (fun a b c=>by rw [tk] at c; exact ah9 c) h]
 ·rw [Ag (fun a b c=>by rw [qh] at c; exact ah9 c) h]
 ·cases h
def Mh {α:Type} {q:α->α->Bool} (c:∀ a b,q a b=true->a=b) {a b:Option α} (h:Ji q a b=true):a=b:=by
 unfold Ji at h;split at h
 ·rfl
 ·rw [c _ _ h]
 ·cases h
theorem Ai {α:Type} {q:α->α->Bool} (c:∀ a b,q a b=true->a=b):∀ {a b:dU α},Cz q a b=true->a=b
 | .nil,.nil,_=>rfl
 | .node o l r,.node o' l' d,h=>by
  simp only [Cz,Bool.and_eq_true] at h;rw [Mh c h.1.1,Ai c h.1.2,Ai c h.2]
 | .nil,.node _ _ _,h=>by simp [Cz] at h
 | .node _ _ _,.nil,h=>by simp [Cz] at h
def MR (C:Cx) (ρ:gX):xp->Made->Prop
 | [],[]=>True
 | (i,b,off,l)::m,(c,a,l')::d=>i=c/\(∃ pl,ρ b=some pl/\a=⟨pl.cw,pl.sh+off,none⟩)/\et ρ l l'/\MR C ρ m d
 | _,_=>False
theorem MR.mono {ρ ρ':gX} (le:Le ρ ρ'):∀ {m:xp} {c:Made},MR C ρ m c->MR C ρ' m c
 | [],[],_=>trivial
 | (i,b,off,l)::m,(j,a,l')::c,⟨h1,⟨pl,h2,d⟩,f,g⟩=>⟨h1,⟨pl,le _ _ h2,d⟩,f.mono le,MR.mono le g⟩
 | [],_::_,h=>h.elim
 | _::_,[],h=>h.elim
def Mv.inj {pl:Pl} {c a b:Nat} (h:Mv pl c a) (k:Mv pl c b):a=b:=by
 rcases h with ⟨h1,h2⟩ | ⟨h1,h2⟩ <;> rcases k with ⟨d,f⟩ | ⟨d,f⟩ <;> omega
mutual
theorem VR.inj {ρ:gX}:∀ {v a b:Xab},VR ρ v a->VR ρ v b->a=b
 | _,_,_,.bool _,h=>by cases h; rfl
 | _,_,_,.int _ _,h=>by cases h; rfl
 | _,_,_,.string _,h=>by cases h; rfl
 | _,_,_,.T',h=>by cases h; rfl
 | _,_,_,.ptr off d,h=>by cases h with | ptr _ h2=>rw [d] at h2; cases h2; rfl
 | _,_,_,.nv _,h=>by cases h; rfl
 | _,_,_,.sl _ _ d hc _,h=>by cases h with | sl _ _ h2 f _=>rw [d] at h2; cases h2; rw [hc.inj f]
 | _,_,_,.TI,h=>by cases h; rfl
 | _,_,_,.map d,h=>by cases h with | map h2=>rw [d] at h2; cases h2; rfl
 | _,_,_,.func _ h1 h2,h=>by cases h with | func _ c g=>rw [et.inj h1 c,et.inj h2 g]
 | _,_,_,.nilFunc,h=>by cases h; rfl
 | _,_,_,.nilIface,h=>by cases h; rfl
 | _,_,_,.iface _ h1,h=>by cases h with | iface _ c=>rw [VR.inj h1 c]
 | _,_,_,.agg h1,h=>by cases h with | agg c=>rw [et.inj h1 c]
 | _,_,_,.tuple h1,h=>by cases h with | tuple c=>rw [et.inj h1 c]
theorem et.inj {ρ:gX}:∀ {v a b:List Xab},et ρ v a->et ρ v b->a=b
 | _,_,_,.nil,h=>by cases h; rfl
 | _,_,_,.cons h1 c,h=>by cases h with | cons d f=>rw [VR.inj h1 d,et.inj c f]
end
theorem vC (R:Rel C h0 ρ s.σ h) {o:Oper}:∀ {m:xp} {d:Made},MR C ρ m d->w7 C s (waits o) m=true->T.BY h (kQ o d)
 | [],[],_,_=>trivial
 | (i,b,off,l)::m,(q,a,l')::d,⟨h1,⟨pl,h2,g⟩,j,e⟩,c=>by
  subst h1;unfold w7 at c;unfold kQ;cases f:tS i (waits o) with
  | true =>
   rw [f] at c;simp only [cond_true];exact vC R e c
  | false =>
   rw [f] at c;simp only [cond_false,Bool.and_eq_true] at c ⊢;obtain ⟨hc,c⟩:=c;refine ⟨?_,vC R e c⟩;cases hk:cells C s b off l.length with
   | none=>rw [hk] at hc; cases hc
   | some k =>
    rw [hk] at hc
    have:=pU (j6 9) (show rG (sA 9) k l=true from hc)
    subst this;obtain ⟨_,k',n,p⟩:=sF R hk h2;rw [j.inj n,g];exact p
 | [],_::_,h,_=>h.elim
 | _::_,[],h,_=>h.elim
def Jm {l:List (Xax × List Xab)} {t:T} (h1:T.BY h l) (h2:t L K h):wj l t L K h:=by
 cases l with
 | nil=>exact h2
 | cons p l=>exact ⟨h1,h2⟩
theorem SH:∀ {ts:List T},ts≠[]->(∀ t∈ts,t L K h)->Wr ts L K h
 | [],hn,_=>(hn rfl).elim
 | [t],_,ht=>ht t ai
 | t::u::ts,_,ht=>by
  show T.every L K h (t::u::ts)
  have:∀ l:List T,(∀ t∈l,t L K h)->T.every L K h l:=by
   intro l
   induction l with
   | nil=>intro _; trivial
   | cons a l b=>exact fun hl=>⟨hl a ai,b fun t ht=>hl t (by simp [ht])⟩
  exact this _ ht
def K5 (C:Cx) (h0:Hp) (ρ:gX) (σ:dU AO) (e:Ev) (k:Env->T) (L:Lp) (K:Xab->Hp->Prop):Prop :=
 ∀ ρ1 h1 a,Le ρ ρ1->Rel C h0 ρ1 σ h1->ER ρ1 e a->k a L K h1
def K5.mono {ρ ρ':gX} {σ:dU AO} {k:Env->T} (le:Le ρ ρ') (h:K5 C h0 ρ σ e k L K):K5 C h0 ρ' σ e k L K:=fun ρ1 h1 b a=>h ρ1 h1 b (le.trans a)
theorem pz (O:Ok C) {call:gp} (z:ox C h0 call) {k:Env->T}:∀ (f:Nat) {D:List Nat} {ρ:gX} {s:CS} {h:Hp} {e j:Ev} {y:CS} {I:Env} {m:xp} {m':Made} {p A:Cm},
  yM C call n ops f D e s m p=some (j,y,A)->Rel C h0 ρ s.σ h->ER ρ e I->MR C ρ m m'->K5 C h0 ρ y.σ j k L K->gi C.P n ops f D I m' k L K h
 | 0,D,ρ,s,h,e,j,y,I,m,m',p,A,c,R,Q,J,hk=>by cases c
 | f+1,D,ρ,s,h,e,j,y,I,m,m',p,A,c,R,Q,J,hk=>by
  unfold yM at c;unfold gi;cases hc:de C.P D true (idx 0 ops.toList) with
  | cons q qs =>
   obtain ⟨i,o⟩:=q;rw [hc] at c;simp only at c ⊢;obtain ⟨w,S,c⟩:=aa9.1 c;refine xJ Q S (fun B M d=>?_) (fun E M d=>?_)
   ·subst B;simp only at c;unfold Gy at c;split at c
    ·rename_i t x V;simp only [V];obtain ⟨v,hv,c⟩:=aa9.1 c;obtain ⟨⟨b,off,l,u⟩,hl,c⟩:=aa9.1 c;obtain ⟨v',W,_,X⟩:=bT R d hv;unfold sr;rw [X];obtain ⟨pl,l',u',k1,k2,k3,k4,k5⟩:=Bd R W hl;refine k5 (fun a l v=>gi C.P n ops f (i::D) (ez n M o.dst v) ((i,a,l)::m') k) L K ?_;exact pz O z f c R (d.put o.dst k3) ⟨rfl,⟨pl,k1,rfl⟩,k2,J⟩ hk
    ·rename_i Y;obtain ⟨⟨v,s2⟩,h1,c⟩:=aa9.1 c;have Z:vD C.P o M (fun v=>gi C.P n ops f (i::D) (ez n M o.dst v) m' k) L K h:=by
      refine Ix O z R d h1 ?_;intro ρ1 v1 h1 le U hv;exact pz O z f c U ((d.mono le).put o.dst hv) (J.mono le) (hk.mono le)
     have hne:∀ t x,o.op≠.load t x:=fun t x hh=>Y t x hh
     clear c S;obtain ⟨dst,op,type,pos,after,guard⟩:=o;cases op <;> first | exact Z | exact (hne _ _ rfl).elim
   ·subst E;exact pz O z f c R (d.put o.dst oN) J hk
  | nil =>
   rw [hc] at c;simp only at c ⊢;cases hn:de C.P D false (idx 0 ops.toList) with
   | nil =>
    rw [hn] at c;cases c;exact hk ρ h I (Le.refl _) R Q
   | cons q qs =>
    rw [hn] at c;simp only at c ⊢;unfold Re at c;obtain ⟨⟨e3,s3,p3⟩,h1,c⟩:=aa9.1 c;obtain ⟨h2,c⟩:=bt.1 (show fY _ _=some (j,y,A) from c);cases c
    have one:∀ (q:Nat × Oper) (p2:Cm) (F:Ev) (G:CS) (N:Cm),Am C call n ops e s m (fun i e s p=>yM C call n ops f (i::D) e s m p) q p2=some (F,G,N)->F=j->G.σ=y.σ ->
      mn n ops q.2 I (fun e=>vD C.P q.2 e fun v=>wj (kQ q.2 m') (gi C.P n ops f (q.1::D) (ez n e q.2.dst v) m' k)) (fun e=>gi C.P n ops f (q.1::D) (ez n e q.2.dst undef) m' k) L K h:=by
     rintro ⟨i,o⟩ p2 F G N g rfl hσ;unfold Am at g;simp only at g ⊢;obtain ⟨w,S,g⟩:=aa9.1 g;refine xJ Q S (fun B M d=>?_) (fun E M d=>?_)
     ·subst B;obtain ⟨⟨v,s5⟩,W,g⟩:=aa9.1 g;obtain ⟨X,g⟩:=bt.1 (show fY _ _=some (F,G,N) from g);refine Ix (s:=⟨s.σ,ED i s.nx p2⟩) O z R d W ?_;intro ρ1 v1 h1 le U hv;have mr1:=J.mono le;refine Jm (vC U mr1 X) ?_;exact pz O z f g U ((d.mono le).put o.dst hv) mr1 (by rw [hσ]; exact hk.mono le)
     ·subst E;exact pz O z f g R (d.put o.dst oN) J (by rw [hσ]; exact hk)
    refine SH ai fun t ht=>?_
    simp only [List.map_cons,List.mem_cons,List.mem_map] at ht;rcases ht with rfl | ⟨q2,hq2,rfl⟩
    ·exact one q p j y A h1 rfl rfl
    ·have:=bm9.1 h2 q2 hq2
     unfold sameAs at this;cases H:Am C call n ops e s m (fun i e s p=>yM C call n ops f (i::D) e s m p) q2 A with
     | none=>rw [H] at this; cases this
     | some r =>
      obtain ⟨F,G,N⟩:=r;rw [H] at this;have this:(Cz (sA 9) F j && Cz RA G.σ y.σ)=true:=this;simp only [Bool.and_eq_true] at this;exact one q2 A F G N H (Ai (j6 9) this.1) (Ai (fun a b=>Ss) this.2)
end
end Go.Sx.Cr
