/- Closed runs, part N: regions over a store, and over the heap that it stands for. Asked: of the context, what Ok says; of calls, what CallOk says. -/
import Derived.Test.YtlpcncdglfjnoaaGreatDoorSxJg
import Derived.Test.YtlpcncdglfjnoaaGreatDoorSxY
set_option linter.all false
set_option maxHeartbeats 4000000
namespace Go.Sx.Cr
section
variable {C:Cx} {h0:Hp} {ρ:fR} {s s1:CS} {h:Hp} {e e1:Ev} {e':Env} {L:Lp} {K:ZB->Hp->Prop} {n:Nat} {ops:Array Oper}
theorem IR {α:Type} (v:ZB) (k:ZB->α):forced v k=k v:=by
 unfold forced;split
 ·split
  ·split <;> rfl
  ·rfl
 ·split <;> rfl
 ·rfl
theorem ER.put (er:ER ρ e e') (dst:Option Tmp) {v v':ZB} (hv:VR ρ v v'):ER ρ (Dg n e dst v) (dO n e' dst v'):=by
 cases dst with
 | none=>exact er
 | some d =>
  unfold Dg dO;simp only [IR];cases hb:Nat.blt d n with
  | false=>exact er
  | true =>
   simp only [cond_true];intro t u ht;rw [dB.uF] at ht;rw [dl]
   by_cases h:t=d
   ·rw [W2 h] at ht; cases ht;rw [W2 h.symm]; exact ⟨v',rfl,hv⟩
   ·rw [WV h] at ht;rw [WV fun hh=>h hh.symm]; exact er t u ht
theorem ER.again (er:ER ρ e e') {d:Nat} {v:ZB} (hd:cJ e' d=some v):ER ρ e (dO n e' (some d) v):=by
 intro t u ht;obtain ⟨u',h1,h2⟩:=er t u ht;refine ⟨u',?_,h2⟩;unfold dO;simp only;cases Nat.blt d n with
 | false=>exact h1
 | true =>
  simp only [cond_true];rw [dl]
  by_cases h:d=t
  ·subst h; rw [W2 rfl,<- h1,hd]
  ·rw [WV h]; exact h1
theorem wL (er:ER ρ e e') {o:Oper} {w:Bool} (hw:A9 ops o e=some w) {yes no:Env->T} (hy:w=true->∀ e2,ER ρ e e2->yes e2 L K h) (hn:w=false->∀ e2,ER ρ e e2->no e2 L K h):kZ n ops o e' yes no L K h:=by
 unfold A9 at hw;unfold kZ;cases hg:guardOf ops o with
 | none =>
  rw [hg] at hw; simp only at hw ⊢;cases hw; exact hy rfl e' er
 | some p =>
  obtain ⟨od,want⟩:=p;rw [hg] at hw;cases od with
  | none=>simp only at hw ⊢; cases hw; exact hn rfl e' er
  | some d =>
   simp only at hw ⊢;obtain ⟨v,hv,hw⟩:=WO.1 hw;obtain ⟨v',h1,h2⟩:=er d v hv;rw [h1];unfold Rk at hw;split at hw
   ·rename_i b;cases hw; cases h2;have ea:=er.again (n:=n) h1;cases want <;> cases b <;> simp only [cond_true,cond_false]
    ·exact hy rfl _ ea
    ·exact hn rfl _ ea
    ·exact hn rfl _ ea
    ·exact hy rfl _ ea
   ·cases hw;cases h2;exact hn rfl e' er
   ·cases hw
theorem C3 (O:Ok C) {call:fL} (CO:mE C h0 call) {k:Env->T}:∀ (l:List Oper) {ρ:fR} {s:CS} {h:Hp} {e:Ev} {e':Env},PI C call n ops l e s=some (e1,s1)->Rel C h0 ρ s.σ h->ER ρ e e' ->
  (∀ ρ1 h1 e2,Le ρ ρ1->Rel C h0 ρ1 s1.σ h1->ER ρ1 e1 e2->k e2 L K h1)->Ep C.P n ops l e' k L K h
 | [],ρ,s,h,e,e',hx,R,er,hk=>by
  cases (show some (e,s)=some (e1,s1) from hx);exact hk ρ h e' (Le.refl _) R er
 | o::l,ρ,s,h,e,e',hx,R,er,hk=>by
  obtain ⟨w,hw,hx⟩:=WO.1 (show (A9 ops o e).bind _=some (e1,s1) from hx);unfold Ep;refine wL er hw (fun hwt e2 er2=>?_) (fun hwf e2 er2=>?_)
  ·subst hwt;obtain ⟨⟨v,s2⟩,h1,h2⟩:=WO.1 (show (TI C call o e s).bind _=some (e1,s1) from hx);refine FN O CO R er2 h1 ?_;intro ρ1 v1 h1 le R1 hv;exact C3 O CO l h2 R1 ((er2.mono le).put o.dst hv) fun ρ2 h2 e3 le2=>hk ρ2 h2 e3 (le.trans le2)
  ·subst hwf;exact C3 O CO l hx R (er2.put o.dst ob) hk
theorem ou {q:ZB->ZB->Bool} (hq:∀ a b,q a b=true->a=b):∀ {l k:List ZB},ph q l k=true->l=k
 | [],[],_=>rfl
 | a::l,b::k,h=>by
  simp only [ph,Bool.and_eq_true] at h;rw [hq a b h.1,ou hq h.2]
 | [],_::_,h=>by simp [ph] at h
 | _::_,[],h=>by simp [ph] at h
theorem HJ {a b:Option ZC} (h:Ph a b=true):a=b:=by
 unfold Ph at h;split at h
 ·rfl
 ·simp only [Bool.and_eq_true] at h;rw [W3 h.1,W3 h.2]
 ·cases h
theorem DD {a b:ZA} (h:oc a b=true):a=b:=by
 rw [kz] at h; exact WR h
theorem jq:∀ (n:Nat) (a b:ZB),rk n a b=true->a=b
 | 0,_,_,h=>by cases h
 | n+1,a,b,h=>by
  unfold rk at h;split at h <;> first
   | (cases h; done)
   | rfl
   | skip
  ·rw [beq_iff_eq] at h; rw [h]
  ·simp only [Bool.and_eq_true,decide_eq_true_eq,beq_iff_eq] at h; rw [h.1,h.2]
  ·rw [DD h]
  ·rw [HJ h]
  ·simp only [Bool.and_eq_true] at h;rw [HJ h.1.1,W3 h.1.2,W3 h.2]
  ·rw [W3 h]
  ·simp only [Bool.and_eq_true] at h;rw [W3 h.1.1,ou (jq n) h.1.2,ou (jq n) h.2]
  ·simp only [Bool.and_eq_true] at h;rw [W3 h.1,jq n _ _ h.2]
  ·rw [ou (jq n) h]
  ·rw [ou (jq n) h]
theorem ym {α:Type} {q:α->α->Bool} (hq:∀ a b,q a b=true->a=b):∀ {l k:List (α × ZB)},cT q l k=true->l=k
 | [],[],_=>rfl
 | a::l,b::k,h=>by
  simp only [cT,Bool.and_eq_true] at h;rw [show a=b from Prod.ext (hq _ _ h.1.1) (jq _ _ _ h.1.2),ym hq h.2]
 | [],_::_,h=>by simp [cT] at h
 | _::_,[],h=>by simp [cT] at h
theorem Py {a b:AO} (h:MY a b=true):a=b:=by
 unfold MY at h;split at h
 ·rfl
 ·simp only [Bool.and_eq_true] at h;rw [W3 h.1.1,W3 h.1.2,ou (jq _) h.2]
 ·rw [ym (fun a b=>DD) h]
 ·rw [ym (fun a b hh=>by rw [rA] at hh; exact WR hh) h]
 ·rw [ym (fun a b hh=>by rw [oG] at hh; exact WR hh) h]
 ·cases h
theorem IS {α:Type} {q:α->α->Bool} (hq:∀ a b,q a b=true->a=b) {a b:Option α} (h:GA q a b=true):a=b:=by
 unfold GA at h;split at h
 ·rfl
 ·rw [hq _ _ h]
 ·cases h
theorem yq {α:Type} {q:α->α->Bool} (hq:∀ a b,q a b=true->a=b):∀ {a b:dB α},Aq q a b=true->a=b
 | .nil,.nil,_=>rfl
 | .node o l r,.node o' l' r',h=>by
  simp only [Aq,Bool.and_eq_true] at h;rw [IS hq h.1.1,yq hq h.1.2,yq hq h.2]
 | .nil,.node _ _ _,h=>by simp [Aq] at h
 | .node _ _ _,.nil,h=>by simp [Aq] at h
def MR (C:Cx) (ρ:fR):uy->Made->Prop
 | [],[]=>True
 | (i,b,off,l)::m,(i',a,l')::m'=>i=i'/\(∃ pl,ρ b=some pl/\a=⟨pl.bY,pl.sh+off,none⟩)/\dG ρ l l'/\MR C ρ m m'
 | _,_=>False
theorem MR.mono {ρ ρ':fR} (le:Le ρ ρ'):∀ {m:uy} {m':Made},MR C ρ m m'->MR C ρ' m m'
 | [],[],_=>trivial
 | (i,b,off,l)::m,(i',a,l')::m',⟨h1,⟨pl,h2,h3⟩,h4,h5⟩=>⟨h1,⟨pl,le _ _ h2,h3⟩,h4.mono le,MR.mono le h5⟩
 | [],_::_,h=>h.elim
 | _::_,[],h=>h.elim
theorem Jt.inj {pl:Pl} {c a b:Nat} (h:Jt pl c a) (k:Jt pl c b):a=b:=by
 rcases h with ⟨h1,h2⟩ | ⟨h1,h2⟩ <;> rcases k with ⟨k1,k2⟩ | ⟨k1,k2⟩ <;> omega
mutual
theorem VR.inj {ρ:fR}:∀ {v a b:ZB},VR ρ v a->VR ρ v b->a=b
 | _,_,_,.bool _,h=>by cases h; rfl
 | _,_,_,.int _ _,h=>by cases h; rfl
 | _,_,_,.string _,h=>by cases h; rfl
 | _,_,_,.Qc,h=>by cases h; rfl
 | _,_,_,.ptr off hb,h=>by cases h with | ptr _ h2=>rw [hb] at h2; cases h2; rfl
 | _,_,_,.lO _,h=>by cases h; rfl
 | _,_,_,.sl _ _ hb hc _,h=>by cases h with | sl _ _ h2 h3 _=>rw [hb] at h2; cases h2; rw [hc.inj h3]
 | _,_,_,.OX,h=>by cases h; rfl
 | _,_,_,.map hb,h=>by cases h with | map h2=>rw [hb] at h2; cases h2; rfl
 | _,_,_,.func _ h1 h2,h=>by cases h with | func _ k1 k2=>rw [dG.inj h1 k1,dG.inj h2 k2]
 | _,_,_,.nilFunc,h=>by cases h; rfl
 | _,_,_,.nilIface,h=>by cases h; rfl
 | _,_,_,.iface _ h1,h=>by cases h with | iface _ k1=>rw [VR.inj h1 k1]
 | _,_,_,.agg h1,h=>by cases h with | agg k1=>rw [dG.inj h1 k1]
 | _,_,_,.tuple h1,h=>by cases h with | tuple k1=>rw [dG.inj h1 k1]
theorem dG.inj {ρ:fR}:∀ {v a b:List ZB},dG ρ v a->dG ρ v b->a=b
 | _,_,_,.nil,h=>by cases h; rfl
 | _,_,_,.cons h1 t1,h=>by cases h with | cons k1 t2=>rw [VR.inj h1 k1,dG.inj t1 t2]
end
theorem tO (R:Rel C h0 ρ s.σ h) {o:Oper}:∀ {m:uy} {m':Made},MR C ρ m m'->uv C s (waits o) m=true->T.C1 h (jE o m')
 | [],[],_,_=>trivial
 | (i,b,off,l)::m,(i',a,l')::m',⟨h1,⟨pl,h2,h3⟩,h4,h5⟩,hx=>by
  subst h1;unfold uv at hx;unfold jE;cases hw:r6 i (waits o) with
  | true =>
   rw [hw] at hx;simp only [cond_true];exact tO R h5 hx
  | false =>
   rw [hw] at hx;simp only [cond_false,Bool.and_eq_true] at hx ⊢;obtain ⟨hc,hx⟩:=hx;refine ⟨?_,tO R h5 hx⟩;cases hk:cells C s b off l.length with
   | none=>rw [hk] at hc; cases hc
   | some k =>
    rw [hk] at hc
    have:=ou (jq 9) (show ph (rk 9) k l=true from hc)
    subst this;obtain ⟨_,k',h6,h7⟩:=qV R hk h2;rw [h4.inj h6,h3];exact h7
 | [],_::_,h,_=>h.elim
 | _::_,[],h,_=>h.elim
theorem Ga {l:List (ZC × List ZB)} {t:T} (h1:T.C1 h l) (h2:t L K h):uq l t L K h:=by
 cases l with
 | nil=>exact h2
 | cons p l=>exact ⟨h1,h2⟩
theorem Pz:∀ {ts:List T},ts≠[]->(∀ t∈ts,t L K h)->Te ts L K h
 | [],hn,_=>(hn rfl).elim
 | [t],_,ht=>ht t aj
 | t::u::ts,_,ht=>by
  show T.every L K h (t::u::ts)
  have:∀ l:List T,(∀ t∈l,t L K h)->T.every L K h l:=by
   intro l
   induction l with
   | nil=>intro _; trivial
   | cons a l ih=>exact fun hl=>⟨hl a aj,ih fun t ht=>hl t (by simp [ht])⟩
  exact this _ ht
def HE (C:Cx) (h0:Hp) (ρ:fR) (σ:dB AO) (e:Ev) (k:Env->T) (L:Lp) (K:ZB->Hp->Prop):Prop :=
 ∀ ρ1 h1 e2,Le ρ ρ1->Rel C h0 ρ1 σ h1->ER ρ1 e e2->k e2 L K h1
theorem HE.mono {ρ ρ':fR} {σ:dB AO} {k:Env->T} (le:Le ρ ρ') (h:HE C h0 ρ σ e k L K):HE C h0 ρ' σ e k L K:=fun ρ1 h1 e2 le2=>h ρ1 h1 e2 (le.trans le2)
theorem nE (O:Ok C) {call:fL} (CO:mE C h0 call) {k:Env->T}:∀ (fu:Nat) {D:List Nat} {ρ:fR} {s:CS} {h:Hp} {e e1:Ev} {s1:CS} {e':Env} {m:uy} {m':Made} {p p1:Ar},
  xk C call n ops fu D e s m p=some (e1,s1,p1)->Rel C h0 ρ s.σ h->ER ρ e e'->MR C ρ m m'->HE C h0 ρ s1.σ e1 k L K->fF C.P n ops fu D e' m' k L K h
 | 0,D,ρ,s,h,e,e1,s1,e',m,m',p,p1,hx,R,er,mr,hk=>by cases hx
 | fu+1,D,ρ,s,h,e,e1,s1,e',m,m',p,p1,hx,R,er,mr,hk=>by
  unfold xk at hx;unfold fF;cases hc:cO C.P D true (idx 0 ops.toList) with
  | cons q qs =>
   obtain ⟨i,o⟩:=q;rw [hc] at hx;simp only at hx ⊢;obtain ⟨w,hw,hx⟩:=WO.1 hx;refine wL er hw (fun hwt e2 er2=>?_) (fun hwf e2 er2=>?_)
   ·subst hwt;simp only at hx;unfold FE at hx;split at hx
    ·rename_i t x hop;simp only [hop];obtain ⟨v,hv,hx⟩:=WO.1 hx;obtain ⟨⟨b,off,l,u⟩,hl,hx⟩:=WO.1 hx;obtain ⟨v',g1,_,g2⟩:=bH R er2 hv;unfold qT;rw [g2];obtain ⟨pl,l',u',k1,k2,k3,k4,k5⟩:=zD R g1 hl;refine k5 (fun a l v=>fF C.P n ops fu (i::D) (dO n e2 o.dst v) ((i,a,l)::m') k) L K ?_;exact nE O CO fu hx R (er2.put o.dst k3) ⟨rfl,⟨pl,k1,rfl⟩,k2,mr⟩ hk
    ·rename_i hnl;obtain ⟨⟨v,s2⟩,h1,hx⟩:=WO.1 hx;have hgo:tQ C.P o e2 (fun v=>fF C.P n ops fu (i::D) (dO n e2 o.dst v) m' k) L K h:=by
      refine FN O CO R er2 h1 ?_;intro ρ1 v1 h1 le R1 hv;exact nE O CO fu hx R1 ((er2.mono le).put o.dst hv) (mr.mono le) (hk.mono le)
     have hne:∀ t x,o.op≠.load t x:=fun t x hh=>hnl t x hh
     clear hx hw;obtain ⟨dst,op,type,pos,after,guard⟩:=o;cases op <;> first | exact hgo | exact (hne _ _ rfl).elim
   ·subst hwf;exact nE O CO fu hx R (er2.put o.dst ob) mr hk
  | nil =>
   rw [hc] at hx;simp only at hx ⊢;cases hn:cO C.P D false (idx 0 ops.toList) with
   | nil =>
    rw [hn] at hx;cases hx;exact hk ρ h e' (Le.refl _) R er
   | cons q qs =>
    rw [hn] at hx;simp only at hx ⊢;unfold Mj at hx;obtain ⟨⟨e3,s3,p3⟩,h1,hx⟩:=WO.1 hx;obtain ⟨h2,hx⟩:=bj.1 (show fw _ _=some (e1,s1,p1) from hx);cases hx
    have one:∀ (q:Nat × Oper) (p2:Ar) (e4:Ev) (s4:CS) (p4:Ar),yr C call n ops e s m (fun i e s p=>xk C call n ops fu (i::D) e s m p) q p2=some (e4,s4,p4)->e4=e1->s4.σ=s1.σ ->
      kZ n ops q.2 e' (fun e=>tQ C.P q.2 e fun v=>uq (jE q.2 m') (fF C.P n ops fu (q.1::D) (dO n e q.2.dst v) m' k)) (fun e=>fF C.P n ops fu (q.1::D) (dO n e q.2.dst undef) m' k) L K h:=by
     rintro ⟨i,o⟩ p2 e4 s4 p4 hs rfl hσ;unfold yr at hs;simp only at hs ⊢;obtain ⟨w,hw,hs⟩:=WO.1 hs;refine wL er hw (fun hwt e2 er2=>?_) (fun hwf e2 er2=>?_)
     ·subst hwt;obtain ⟨⟨v,s5⟩,g1,hs⟩:=WO.1 hs;obtain ⟨g2,hs⟩:=bj.1 (show fw _ _=some (e4,s4,p4) from hs);refine FN (s:=⟨s.σ,CE i s.nx p2⟩) O CO R er2 g1 ?_;intro ρ1 v1 h1 le R1 hv;have mr1:=mr.mono le;refine Ga (tO R1 mr1 g2) ?_;exact nE O CO fu hs R1 ((er2.mono le).put o.dst hv) mr1 (by rw [hσ]; exact hk.mono le)
     ·subst hwf;exact nE O CO fu hs R (er2.put o.dst ob) mr (by rw [hσ]; exact hk)
    refine Pz aj fun t ht=>?_
    simp only [List.map_cons,List.mem_cons,List.mem_map] at ht;rcases ht with rfl | ⟨q2,hq2,rfl⟩
    ·exact one q p e1 s1 p1 h1 rfl rfl
    ·have:=Xn.1 h2 q2 hq2
     unfold sameAs at this;cases hs2:yr C call n ops e s m (fun i e s p=>xk C call n ops fu (i::D) e s m p) q2 p1 with
     | none=>rw [hs2] at this; cases this
     | some r =>
      obtain ⟨e4,s4,p4⟩:=r;rw [hs2] at this;have this:(Aq (rk 9) e4 e1 && Aq MY s4.σ s1.σ)=true:=this;simp only [Bool.and_eq_true] at this;exact one q2 p1 e4 s4 p4 hs2 (yq (jq 9) this.1) (yq (fun a b=>Py) this.2)
end
end Go.Sx.Cr
