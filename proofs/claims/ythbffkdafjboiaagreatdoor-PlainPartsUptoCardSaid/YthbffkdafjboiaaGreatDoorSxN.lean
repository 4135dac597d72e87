/- Part of the framework. No condition. -/
import Derived.Test.YthbffkdafjboiaaGreatDoorSxJg
import Derived.Test.YthbffkdafjboiaaGreatDoorSxY
set_option linter.all false
set_option maxHeartbeats 4000000
namespace Go.Sx.Cr
section
variable {C:Cx} {h0:Hp} {ρ:gn} {s s1:CS} {h:Hp} {e e1:Ev} {e':Env} {L:Lp} {K:ZB->Hp->Prop} {n:Nat} {ops:Array Oper}
def IT {α:Type} (v:ZB) (k:ZB->α):forced v k=k v:=by
 unfold forced;split
 ·split
  ·split <;> rfl
  ·rfl
 ·split <;> rfl
 ·rfl
def ER.put (er:ER ρ e e') (dst:Option Tmp) {v v':ZB} (hv:VR ρ v v'):ER ρ (Cp n e dst v) (dV n e' dst v'):=by
 cases dst with
 | none=>exact er
 | some d =>
  unfold Cp dV;simp only [IT];cases hb:Nat.blt d n with
  | false=>exact er
  | true =>
   simp only [cond_true];intro t u ht;rw [dI.vp] at ht;rw [du]
   by_cases h:t=d
   ·rw [Xb h] at ht; cases ht;rw [Xb h.symm]; exact ⟨v',rfl,hv⟩
   ·rw [W6 h] at ht;rw [W6 fun hh=>h hh.symm]; exact er t u ht
def ER.again (er:ER ρ e e') {d:Nat} {v:ZB} (hd:cM e' d=some v):ER ρ e (dV n e' (some d) v):=by
 intro t u ht;obtain ⟨u',h1,h2⟩:=er t u ht;refine ⟨u',?_,h2⟩;unfold dV;simp only;cases Nat.blt d n with
 | false=>exact h1
 | true =>
  simp only [cond_true];rw [du]
  by_cases h:d=t
  ·subst h; rw [Xb rfl,<- h1,hd]
  ·rw [W6 h]; exact h1
def vS (er:ER ρ e e') {o:Oper} {w:Bool} (hw:BI ops o e=some w) {yes no:Env->T} (hy:w=true->∀ e2,ER ρ e e2->yes e2 L K h) (hn:w=false->∀ e2,ER ρ e e2->no e2 L K h):kY n ops o e' yes no L K h:=by
 unfold BI at hw;unfold kY;cases hg:guardOf ops o with
 | none =>
  rw [hg] at hw; simp only at hw ⊢;cases hw; exact hy rfl e' er
 | some p =>
  obtain ⟨od,want⟩:=p;rw [hg] at hw;cases od with
  | none=>simp only at hw ⊢; cases hw; exact hn rfl e' er
  | some d =>
   simp only at hw ⊢;obtain ⟨v,hv,hw⟩:=W1.1 hw;obtain ⟨v',h1,h2⟩:=er d v hv;rw [h1];unfold Rf at hw;split at hw
   ·rename_i b;cases hw; cases h2;have ea:=er.again (n:=n) h1;cases want <;> cases b <;> simp only [cond_true,cond_false]
    ·exact hy rfl _ ea
    ·exact hn rfl _ ea
    ·exact hn rfl _ ea
    ·exact hy rfl _ ea
   ·cases hw;cases h2;exact hn rfl e' er
   ·cases hw
theorem CG (O:Ok C) {call:fV} (CO:mZ C h0 call) {k:Env->T}:∀ (l:List Oper) {ρ:gn} {s:CS} {h:Hp} {e:Ev} {e':Env},Pg C call n ops l e s=some (e1,s1)->Rel C h0 ρ s.σ h->ER ρ e e' ->
  (∀ ρ1 h1 e2,Le ρ ρ1->Rel C h0 ρ1 s1.σ h1->ER ρ1 e1 e2->k e2 L K h1)->D7 C.P n ops l e' k L K h
 | [],ρ,s,h,e,e',hx,R,er,hk=>by
  cases (show some (e,s)=some (e1,s1) from hx);exact hk ρ h e' (Le.refl _) R er
 | o::l,ρ,s,h,e,e',hx,R,er,hk=>by
  obtain ⟨w,hw,hx⟩:=W1.1 (show (BI ops o e).bind _=some (e1,s1) from hx);unfold D7;refine vS er hw (fun hwt e2 er2=>?_) (fun hwf e2 er2=>?_)
  ·subst hwt;obtain ⟨⟨v,s2⟩,h1,h2⟩:=W1.1 (show (TO C call o e s).bind _=some (e1,s1) from hx);refine F7 O CO R er2 h1 ?_;intro ρ1 v1 h1 le R1 hv;exact CG O CO l h2 R1 ((er2.mono le).put o.dst hv) fun ρ2 h2 e3 le2=>hk ρ2 h2 e3 (le.trans le2)
  ·subst hwf;exact CG O CO l hx R (er2.put o.dst nB) hk
theorem ox {q:ZB->ZB->Bool} (hq:∀ a b,q a b=true->a=b):∀ {l k:List ZB},qd q l k=true->l=k
 | [],[],_=>rfl
 | a::l,b::k,h=>by
  simp only [qd,Bool.and_eq_true] at h;rw [hq a b h.1,ox hq h.2]
 | [],_::_,h=>by simp [qd] at h
 | _::_,[],h=>by simp [qd] at h
def Iu {a b:ZC} (h:Qj a b=true):a=b:=by
 unfold Qj at h;split at h
 ·rfl
 ·simp only [Bool.and_eq_true] at h;rw [Xg h.1,Xg h.2]
 ·cases h
def E2 {a b:ZA} (h:n' a b=true):a=b:=by
 rw [kP] at h; exact W2 h
theorem jA:∀ (n:Nat) (a b:ZB),qJ n a b=true->a=b
 | 0,_,_,h=>by cases h
 | n+1,a,b,h=>by
  unfold qJ at h;split at h <;> first
   | (cases h; done)
   | rfl
   | skip
  ·rw [beq_iff_eq] at h; rw [h]
  ·simp only [Bool.and_eq_true,decide_eq_true_eq,beq_iff_eq] at h; rw [h.1,h.2]
  ·rw [E2 h]
  ·rw [Iu h]
  ·simp only [Bool.and_eq_true] at h;rw [Iu h.1.1,Xg h.1.2,Xg h.2]
  ·rw [Xg h]
  ·simp only [Bool.and_eq_true] at h;rw [Xg h.1.1,ox (jA n) h.1.2,ox (jA n) h.2]
  ·simp only [Bool.and_eq_true] at h;rw [Xg h.1,jA n _ _ h.2]
  ·rw [ox (jA n) h]
  ·rw [ox (jA n) h]
theorem yq {α:Type} {q:α->α->Bool} (hq:∀ a b,q a b=true->a=b):∀ {l k:List (α × ZB)},cZ q l k=true->l=k
 | [],[],_=>rfl
 | a::l,b::k,h=>by
  simp only [cZ,Bool.and_eq_true] at h;rw [show a=b from Prod.ext (hq _ _ h.1.1) (jA _ _ _ h.1.2),yq hq h.2]
 | [],_::_,h=>by simp [cZ] at h
 | _::_,[],h=>by simp [cZ] at h
def OS {a b:AO} (h:N4 a b=true):a=b:=by
 unfold N4 at h;split at h
 ·rfl
 ·simp only [Bool.and_eq_true] at h;rw [Xg h.1.1,Xg h.1.2,ox (jA _) h.2]
 ·rw [yq (fun a b=>E2) h]
 ·rw [yq (fun a b hh=>by rw [rD] at hh; exact W2 hh) h]
 ·rw [yq (fun a b hh=>by rw [oI] at hh; exact W2 hh) h]
 ·cases h
def Jj {α:Type} {q:α->α->Bool} (hq:∀ a b,q a b=true->a=b) {a b:Option α} (h:GI q a b=true):a=b:=by
 unfold GI at h;split at h
 ·rfl
 ·rw [hq _ _ h]
 ·cases h
theorem yr {α:Type} {q:α->α->Bool} (hq:∀ a b,q a b=true->a=b):∀ {a b:dI α},AK q a b=true->a=b
 | .nil,.nil,_=>rfl
 | .node o l r,.node o' l' r',h=>by
  simp only [AK,Bool.and_eq_true] at h;rw [Jj hq h.1.1,yr hq h.1.2,yr hq h.2]
 | .nil,.node _ _ _,h=>by simp [AK] at h
 | .node _ _ _,.nil,h=>by simp [AK] at h
def MR (C:Cx) (ρ:gn):vu->Made->Prop
 | [],[]=>True
 | (i,b,off,l)::m,(i',a,l')::m'=>i=i'/\(∃ pl,ρ b=some pl/\a=⟨pl.cj,pl.sh+off,none⟩)/\dQ ρ l l'/\MR C ρ m m'
 | _,_=>False
theorem MR.mono {ρ ρ':gn} (le:Le ρ ρ'):∀ {m:vu} {m':Made},MR C ρ m m'->MR C ρ' m m'
 | [],[],_=>trivial
 | (i,b,off,l)::m,(i',a,l')::m',⟨h1,⟨pl,h2,h3⟩,h4,h5⟩=>⟨h1,⟨pl,le _ _ h2,h3⟩,h4.mono le,MR.mono le h5⟩
 | [],_::_,h=>h.elim
 | _::_,[],h=>h.elim
def JD.inj {pl:Pl} {c a b:Nat} (h:JD pl c a) (k:JD pl c b):a=b:=by
 rcases h with ⟨h1,h2⟩ | ⟨h1,h2⟩ <;> rcases k with ⟨k1,k2⟩ | ⟨k1,k2⟩ <;> omega
mutual
theorem VR.inj {ρ:gn}:∀ {v a b:ZB},VR ρ v a->VR ρ v b->a=b
 | _,_,_,.bool _,h=>by cases h; rfl
 | _,_,_,.int _ _,h=>by cases h; rfl
 | _,_,_,.string _,h=>by cases h; rfl
 | _,_,_,.Ql,h=>by cases h; rfl
 | _,_,_,.ptr off hb,h=>by cases h with | ptr _ h2=>rw [hb] at h2; cases h2; rfl
 | _,_,_,.lX _,h=>by cases h; rfl
 | _,_,_,.sl _ _ hb hc _,h=>by cases h with | sl _ _ h2 h3 _=>rw [hb] at h2; cases h2; rw [hc.inj h3]
 | _,_,_,.PZ,h=>by cases h; rfl
 | _,_,_,.map hb,h=>by cases h with | map h2=>rw [hb] at h2; cases h2; rfl
 | _,_,_,.func _ h1 h2,h=>by cases h with | func _ k1 k2=>rw [dQ.inj h1 k1,dQ.inj h2 k2]
 | _,_,_,.nilFunc,h=>by cases h; rfl
 | _,_,_,.nilIface,h=>by cases h; rfl
 | _,_,_,.iface _ h1,h=>by cases h with | iface _ k1=>rw [VR.inj h1 k1]
 | _,_,_,.agg h1,h=>by cases h with | agg k1=>rw [dQ.inj h1 k1]
 | _,_,_,.tuple h1,h=>by cases h with | tuple k1=>rw [dQ.inj h1 k1]
theorem dQ.inj {ρ:gn}:∀ {v a b:List ZB},dQ ρ v a->dQ ρ v b->a=b
 | _,_,_,.nil,h=>by cases h; rfl
 | _,_,_,.cons h1 t1,h=>by cases h with | cons k1 t2=>rw [VR.inj h1 k1,dQ.inj t1 t2]
end
theorem tR (R:Rel C h0 ρ s.σ h) {o:Oper}:∀ {m:vu} {m':Made},MR C ρ m m'->uX C s (waits o) m=true->T.C6 h (j1 o m')
 | [],[],_,_=>trivial
 | (i,b,off,l)::m,(i',a,l')::m',⟨h1,⟨pl,h2,h3⟩,h4,h5⟩,hx=>by
  subst h1;unfold uX at hx;unfold j1;cases hw:r5 i (waits o) with
  | true =>
   rw [hw] at hx;simp only [cond_true];exact tR R h5 hx
  | false =>
   rw [hw] at hx;simp only [cond_false,Bool.and_eq_true] at hx ⊢;obtain ⟨hc,hx⟩:=hx;refine ⟨?_,tR R h5 hx⟩;cases hk:cells C s b off l.length with
   | none=>rw [hk] at hc; cases hc
   | some k =>
    rw [hk] at hc
    have:=ox (jA 9) (show qd (qJ 9) k l=true from hc)
    subst this;obtain ⟨_,k',h6,h7⟩:=qP R hk h2;rw [h4.inj h6,h3];exact h7
 | [],_::_,h,_=>h.elim
 | _::_,[],h,_=>h.elim
def GL {l:List (Zx × List ZB)} {t:T} (h1:T.C6 h l) (h2:t L K h):uu l t L K h:=by
 cases l with
 | nil=>exact h2
 | cons p l=>exact ⟨h1,h2⟩
theorem O0:∀ {ts:List T},ts≠[]->(∀ t∈ts,t L K h)->SH ts L K h
 | [],hn,_=>(hn rfl).elim
 | [t],_,ht=>ht t aj
 | t::u::ts,_,ht=>by
  show T.every L K h (t::u::ts)
  have:∀ l:List T,(∀ t∈l,t L K h)->T.every L K h l:=by
   intro l
   induction l with
   | nil=>intro _; trivial
   | cons a l ih=>exact fun hl=>⟨hl a aj,ih fun t ht=>hl t (by simp [ht])⟩
  exact this _ ht
def It (C:Cx) (h0:Hp) (ρ:gn) (σ:dI AO) (e:Ev) (k:Env->T) (L:Lp) (K:ZB->Hp->Prop):Prop :=
 ∀ ρ1 h1 e2,Le ρ ρ1->Rel C h0 ρ1 σ h1->ER ρ1 e e2->k e2 L K h1
def It.mono {ρ ρ':gn} {σ:dI AO} {k:Env->T} (le:Le ρ ρ') (h:It C h0 ρ σ e k L K):It C h0 ρ' σ e k L K:=fun ρ1 h1 e2 le2=>h ρ1 h1 e2 (le.trans le2)
theorem nX (O:Ok C) {call:fV} (CO:mZ C h0 call) {k:Env->T}:∀ (fu:Nat) {D:List Nat} {ρ:gn} {s:CS} {h:Hp} {e e1:Ev} {s1:CS} {e':Env} {m:vu} {m':Made} {p p1:Az},
  xo C call n ops fu D e s m p=some (e1,s1,p1)->Rel C h0 ρ s.σ h->ER ρ e e'->MR C ρ m m'->It C h0 ρ s1.σ e1 k L K->fR C.P n ops fu D e' m' k L K h
 | 0,D,ρ,s,h,e,e1,s1,e',m,m',p,p1,hx,R,er,mr,hk=>by cases hx
 | fu+1,D,ρ,s,h,e,e1,s1,e',m,m',p,p1,hx,R,er,mr,hk=>by
  unfold xo at hx;unfold fR;cases hc:cU C.P D true (idx 0 ops.toList) with
  | cons q qs =>
   obtain ⟨i,o⟩:=q;rw [hc] at hx;simp only at hx ⊢;obtain ⟨w,hw,hx⟩:=W1.1 hx;refine vS er hw (fun hwt e2 er2=>?_) (fun hwf e2 er2=>?_)
   ·subst hwt;simp only at hx;unfold Ed at hx;split at hx
    ·rename_i t x hop;simp only [hop];obtain ⟨v,hv,hx⟩:=W1.1 hx;obtain ⟨⟨b,off,l,u⟩,hl,hx⟩:=W1.1 hx;obtain ⟨v',g1,_,g2⟩:=bP R er2 hv;unfold qH;rw [g2];obtain ⟨pl,l',u',k1,k2,k3,k4,k5⟩:=zp R g1 hl;refine k5 (fun a l v=>fR C.P n ops fu (i::D) (dV n e2 o.dst v) ((i,a,l)::m') k) L K ?_;exact nX O CO fu hx R (er2.put o.dst k3) ⟨rfl,⟨pl,k1,rfl⟩,k2,mr⟩ hk
    ·rename_i hnl;obtain ⟨⟨v,s2⟩,h1,hx⟩:=W1.1 hx;have hgo:tS C.P o e2 (fun v=>fR C.P n ops fu (i::D) (dV n e2 o.dst v) m' k) L K h:=by
      refine F7 O CO R er2 h1 ?_;intro ρ1 v1 h1 le R1 hv;exact nX O CO fu hx R1 ((er2.mono le).put o.dst hv) (mr.mono le) (hk.mono le)
     have hne:∀ t x,o.op≠.load t x:=fun t x hh=>hnl t x hh
     clear hx hw;obtain ⟨dst,op,type,pos,after,guard⟩:=o;cases op <;> first | exact hgo | exact (hne _ _ rfl).elim
   ·subst hwf;exact nX O CO fu hx R (er2.put o.dst nB) mr hk
  | nil =>
   rw [hc] at hx;simp only at hx ⊢;cases hn:cU C.P D false (idx 0 ops.toList) with
   | nil =>
    rw [hn] at hx;cases hx;exact hk ρ h e' (Le.refl _) R er
   | cons q qs =>
    rw [hn] at hx;simp only at hx ⊢;unfold NJ at hx;obtain ⟨⟨e3,s3,p3⟩,h1,hx⟩:=W1.1 hx;obtain ⟨h2,hx⟩:=bq.1 (show fG _ _=some (e1,s1,p1) from hx);cases hx
    have one:∀ (q:Nat × Oper) (p2:Az) (e4:Ev) (s4:CS) (p4:Az),yw C call n ops e s m (fun i e s p=>xo C call n ops fu (i::D) e s m p) q p2=some (e4,s4,p4)->e4=e1->s4.σ=s1.σ ->
      kY n ops q.2 e' (fun e=>tS C.P q.2 e fun v=>uu (j1 q.2 m') (fR C.P n ops fu (q.1::D) (dV n e q.2.dst v) m' k)) (fun e=>fR C.P n ops fu (q.1::D) (dV n e q.2.dst undef) m' k) L K h:=by
     rintro ⟨i,o⟩ p2 e4 s4 p4 hs rfl hσ;unfold yw at hs;simp only at hs ⊢;obtain ⟨w,hw,hs⟩:=W1.1 hs;refine vS er hw (fun hwt e2 er2=>?_) (fun hwf e2 er2=>?_)
     ·subst hwt;obtain ⟨⟨v,s5⟩,g1,hs⟩:=W1.1 hs;obtain ⟨g2,hs⟩:=bq.1 (show fG _ _=some (e4,s4,p4) from hs);refine F7 (s:=⟨s.σ,CH i s.nx p2⟩) O CO R er2 g1 ?_;intro ρ1 v1 h1 le R1 hv;have mr1:=mr.mono le;refine GL (tR R1 mr1 g2) ?_;exact nX O CO fu hs R1 ((er2.mono le).put o.dst hv) mr1 (by rw [hσ]; exact hk.mono le)
     ·subst hwf;exact nX O CO fu hs R (er2.put o.dst nB) mr (by rw [hσ]; exact hk)
    refine O0 aj fun t ht=>?_
    simp only [List.map_cons,List.mem_cons,List.mem_map] at ht;rcases ht with rfl | ⟨q2,hq2,rfl⟩
    ·exact one q p e1 s1 p1 h1 rfl rfl
    ·have:=XA.1 h2 q2 hq2
     unfold sameAs at this;cases hs2:yw C call n ops e s m (fun i e s p=>xo C call n ops fu (i::D) e s m p) q2 p1 with
     | none=>rw [hs2] at this; cases this
     | some r =>
      obtain ⟨e4,s4,p4⟩:=r;rw [hs2] at this;have this:(AK (qJ 9) e4 e1 && AK N4 s4.σ s1.σ)=true:=this;simp only [Bool.and_eq_true] at this;exact one q2 p1 e4 s4 p4 hs2 (yr (jA 9) this.1) (yr (fun a b=>OS) this.2)
end
end Go.Sx.Cr
