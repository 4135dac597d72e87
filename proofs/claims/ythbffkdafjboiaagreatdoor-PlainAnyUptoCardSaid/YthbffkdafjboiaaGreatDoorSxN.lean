/- Part of the framework. No condition. -/
import Derived.Test.YthbffkdafjboiaaGreatDoorSxJg
import Derived.Test.YthbffkdafjboiaaGreatDoorSxY
set_option linter.all false
set_option maxHeartbeats 4000000
namespace Go.Sx.Cr
section
variable {C:Cx} {h0:Hp} {ρ:gF} {s s1:CS} {h:Hp} {e e1:Ev} {e':Env} {L:Lp} {K:Xab->Hp->Prop} {n:Nat} {ops:Array Oper}
def JT {α:Type} (v:Xab) (k:Xab->α):forced v k=k v:=by
 unfold forced;split
 ·split
  ·split <;> rfl
  ·rfl
 ·split <;> rfl
 ·rfl
def ER.put (F:ER ρ e e') (dst:Option Tmp) {v v':Xab} (hv:VR ρ v v'):ER ρ (Dh n e dst v) (dX n e' dst v'):=by
 cases dst with
 | none=>exact F
 | some d =>
  unfold Dh dX;simp only [JT];cases J:Nat.blt d n with
  | false=>exact F
  | true =>
   simp only [cond_true];intro t u j;rw [dL.wu] at j;rw [dB]
   by_cases h:t=d
   ·rw [YC h] at j; cases j;rw [YC h.symm]; exact ⟨v',rfl,hv⟩
   ·rw [Yx h] at j;rw [Yx fun G=>h G.symm]; exact F t u j
def ER.again (j:ER ρ e e') {d:Nat} {v:Xab} (F:cQ e' d=some v):ER ρ e (dX n e' (some d) v):=by
 intro t u G;obtain ⟨J,h1,h2⟩:=j t u G;refine ⟨J,?_,h2⟩;unfold dX;simp only;cases Nat.blt d n with
 | false=>exact h1
 | true =>
  simp only [cond_true];rw [dB]
  by_cases h:d=t
  ·subst h; rw [YC rfl,<- h1,F]
  ·rw [Yx h]; exact h1
def wP (j:ER ρ e e') {o:Oper} {w:Bool} (hw:CC ops o e=some w) {u no:Env->T} (G:w=true->∀ e2,ER ρ e e2->u e2 L K h) (hn:w=false->∀ e2,ER ρ e e2->no e2 L K h):lN n ops o e' u no L K h:=by
 unfold CC at hw;unfold lN;cases J:guardOf ops o with
 | none =>
  rw [J] at hw; simp only at hw ⊢;cases hw; exact G rfl e' j
 | some p =>
  obtain ⟨O,want⟩:=p;rw [J] at hw;cases O with
  | none=>simp only at hw ⊢; cases hw; exact hn rfl e' j
  | some d =>
   simp only at hw ⊢;obtain ⟨v,hv,hw⟩:=Yt.1 hw;obtain ⟨v',h1,h2⟩:=j d v hv;rw [h1];unfold SV at hw;split at hw
   ·rename_i b;cases hw; cases h2;have F:=j.again (n:=n) h1;cases want <;> cases b <;> simp only [cond_true,cond_false]
    ·exact G rfl _ F
    ·exact hn rfl _ F
    ·exact hn rfl _ F
    ·exact G rfl _ F
   ·cases hw;cases h2;exact hn rfl e' j
   ·cases hw
theorem Dv (O:Ok C) {call:fY} (j:nT C h0 call) {k:Env->T}:∀ (l:List Oper) {ρ:gF} {s:CS} {h:Hp} {e:Ev} {e':Env},QO C call n ops l e s=some (e1,s1)->Rel C h0 ρ s.σ h->ER ρ e e' ->
  (∀ ρ1 h1 e2,Le ρ ρ1->Rel C h0 ρ1 s1.σ h1->ER ρ1 e1 e2->k e2 L K h1)->EZ C.P n ops l e' k L K h
 | [],ρ,s,h,e,e',hx,R,u,hk=>by
  cases (show some (e,s)=some (e1,s1) from hx);exact hk ρ h e' (Le.refl _) R u
 | o::l,ρ,s,h,e,e',hx,R,u,hk=>by
  obtain ⟨w,hw,hx⟩:=Yt.1 (show (CC ops o e).bind _=some (e1,s1) from hx);unfold EZ;refine wP u hw (fun F e2 d=>?_) (fun G e2 d=>?_)
  ·subst F;obtain ⟨⟨v,X⟩,h1,h2⟩:=Yt.1 (show (Vi C call o e s).bind _=some (e1,s1) from hx);refine GY O j R d h1 ?_;intro ρ1 Y h1 le U hv;exact Dv O j l h2 U ((d.mono le).put o.dst hv) fun ρ2 h2 V J=>hk ρ2 h2 V (le.trans J)
  ·subst G;exact Dv O j l hx R (d.put o.dst ot) hk
theorem ph {q:Xab->Xab->Bool} (d:∀ a b,q a b=true->a=b):∀ {l k:List Xab},qM q l k=true->l=k
 | [],[],_=>rfl
 | a::l,b::k,h=>by
  simp only [qM,Bool.and_eq_true] at h;rw [d a b h.1,ph d h.2]
 | [],_::_,h=>by simp [qM] at h
 | _::_,[],h=>by simp [qM] at h
def Jt {a b:Xac} (h:RT a b=true):a=b:=by
 unfold RT at h;split at h
 ·rfl
 ·simp only [Bool.and_eq_true] at h;rw [YL h.1,YL h.2]
 ·cases h
def F3 {a b:Xaa} (h:oT a b=true):a=b:=by
 rw [lC] at h; exact Yz h
theorem jP:∀ (n:Nat) (a b:Xab),rB n a b=true->a=b
 | 0,_,_,h=>by cases h
 | n+1,a,b,h=>by
  unfold rB at h;split at h <;> first
   | (cases h; done)
   | rfl
   | skip
  ·rw [beq_iff_eq] at h; rw [h]
  ·simp only [Bool.and_eq_true,decide_eq_true_eq,beq_iff_eq] at h; rw [h.1,h.2]
  ·rw [F3 h]
  ·rw [Jt h]
  ·simp only [Bool.and_eq_true] at h;rw [Jt h.1.1,YL h.1.2,YL h.2]
  ·rw [YL h]
  ·simp only [Bool.and_eq_true] at h;rw [YL h.1.1,ph (jP n) h.1.2,ph (jP n) h.2]
  ·simp only [Bool.and_eq_true] at h;rw [YL h.1,jP n _ _ h.2]
  ·rw [ph (jP n) h]
  ·rw [ph (jP n) h]
theorem za {α:Type} {q:α->α->Bool} (d:∀ a b,q a b=true->a=b):∀ {l k:List (α × Xab)},db q l k=true->l=k
 | [],[],_=>rfl
 | a::l,b::k,h=>by
  simp only [db,Bool.and_eq_true] at h;rw [show a=b from Prod.ext (d _ _ h.1.1) (jP _ _ _ h.1.2),za d h.2]
 | [],_::_,h=>by simp [db] at h
 | _::_,[],h=>by simp [db] at h
def Qj {a b:AO} (h:Ps a b=true):a=b:=by
 unfold Ps at h;split at h
 ·rfl
 ·simp only [Bool.and_eq_true] at h;rw [YL h.1.1,YL h.1.2,ph (jP _) h.2]
 ·rw [za (fun a b=>F3) h]
 ·rw [za (fun a b d=>by rw [sA] at d; exact Yz d) h]
 ·rw [za (fun a b d=>by rw [pC] at d; exact Yz d) h]
 ·cases h
def Kk {α:Type} {q:α->α->Bool} (d:∀ a b,q a b=true->a=b) {a b:Option α} (h:HA q a b=true):a=b:=by
 unfold HA at h;split at h
 ·rfl
 ·rw [d _ _ h]
 ·cases h
theorem zb {α:Type} {q:α->α->Bool} (d:∀ a b,q a b=true->a=b):∀ {a b:dL α},BD q a b=true->a=b
 | .nil,.nil,_=>rfl
 | .node o l r,.node o' l' j,h=>by
  simp only [BD,Bool.and_eq_true] at h;rw [Kk d h.1.1,zb d h.1.2,zb d h.2]
 | .nil,.node _ _ _,h=>by simp [BD] at h
 | .node _ _ _,.nil,h=>by simp [BD] at h
def MR (C:Cx) (ρ:gF):wx->Made->Prop
 | [],[]=>True
 | (i,b,off,l)::m,(i',a,l')::m'=>i=i'/\(∃ pl,ρ b=some pl/\a=⟨pl.cv,pl.sh+off,none⟩)/\dS ρ l l'/\MR C ρ m m'
 | _,_=>False
theorem MR.mono {ρ ρ':gF} (le:Le ρ ρ'):∀ {m:wx} {m':Made},MR C ρ m m'->MR C ρ' m m'
 | [],[],_=>trivial
 | (i,b,off,l)::m,(i',a,l')::m',⟨h1,⟨pl,h2,h3⟩,h4,h5⟩=>⟨h1,⟨pl,le _ _ h2,h3⟩,h4.mono le,MR.mono le h5⟩
 | [],_::_,h=>h.elim
 | _::_,[],h=>h.elim
def KD.inj {pl:Pl} {c a b:Nat} (h:KD pl c a) (k:KD pl c b):a=b:=by
 rcases h with ⟨h1,h2⟩ | ⟨h1,h2⟩ <;> rcases k with ⟨d,j⟩ | ⟨d,j⟩ <;> omega
mutual
theorem VR.inj {ρ:gF}:∀ {v a b:Xab},VR ρ v a->VR ρ v b->a=b
 | _,_,_,.bool _,h=>by cases h; rfl
 | _,_,_,.int _ _,h=>by cases h; rfl
 | _,_,_,.string _,h=>by cases h; rfl
 | _,_,_,.RV,h=>by cases h; rfl
 | _,_,_,.ptr off j,h=>by cases h with | ptr _ h2=>rw [j] at h2; cases h2; rfl
 | _,_,_,.mM _,h=>by cases h; rfl
 | _,_,_,.sl _ _ j hc _,h=>by cases h with | sl _ _ h2 h3 _=>rw [j] at h2; cases h2; rw [hc.inj h3]
 | _,_,_,.Ry,h=>by cases h; rfl
 | _,_,_,.map j,h=>by cases h with | map h2=>rw [j] at h2; cases h2; rfl
 | _,_,_,.func _ h1 h2,h=>by cases h with | func _ d u=>rw [dS.inj h1 d,dS.inj h2 u]
 | _,_,_,.nilFunc,h=>by cases h; rfl
 | _,_,_,.nilIface,h=>by cases h; rfl
 | _,_,_,.iface _ h1,h=>by cases h with | iface _ d=>rw [VR.inj h1 d]
 | _,_,_,.agg h1,h=>by cases h with | agg d=>rw [dS.inj h1 d]
 | _,_,_,.tuple h1,h=>by cases h with | tuple d=>rw [dS.inj h1 d]
theorem dS.inj {ρ:gF}:∀ {v a b:List Xab},dS ρ v a->dS ρ v b->a=b
 | _,_,_,.nil,h=>by cases h; rfl
 | _,_,_,.cons h1 d,h=>by cases h with | cons j t2=>rw [VR.inj h1 j,dS.inj d t2]
end
theorem uG (R:Rel C h0 ρ s.σ h) {o:Oper}:∀ {m:wx} {m':Made},MR C ρ m m'->we C s (waits o) m=true->T.BC h (kq o m')
 | [],[],_,_=>trivial
 | (i,b,off,l)::m,(i',a,l')::m',⟨h1,⟨pl,h2,h3⟩,h4,h5⟩,hx=>by
  subst h1;unfold we at hx;unfold kq;cases hw:sX i (waits o) with
  | true =>
   rw [hw] at hx;simp only [cond_true];exact uG R h5 hx
  | false =>
   rw [hw] at hx;simp only [cond_false,Bool.and_eq_true] at hx ⊢;obtain ⟨hc,hx⟩:=hx;refine ⟨?_,uG R h5 hx⟩;cases hk:cells C s b off l.length with
   | none=>rw [hk] at hc; cases hc
   | some k =>
    rw [hk] at hc
    have:=ph (jP 9) (show qM (rB 9) k l=true from hc)
    subst this;obtain ⟨_,k',h6,h7⟩:=rG R hk h2;rw [h4.inj h6,h3];exact h7
 | [],_::_,h,_=>h.elim
 | _::_,[],h,_=>h.elim
def HE {l:List (Xax × List Xab)} {t:T} (h1:T.BC h l) (h2:t L K h):vk l t L K h:=by
 cases l with
 | nil=>exact h2
 | cons p l=>exact ⟨h1,h2⟩
theorem Qs:∀ {ts:List T},ts≠[]->(∀ t∈ts,t L K h)->Um ts L K h
 | [],hn,_=>(hn rfl).elim
 | [t],_,d=>d t aj
 | t::u::ts,_,d=>by
  show T.every L K h (t::u::ts)
  have:∀ l:List T,(∀ t∈l,t L K h)->T.every L K h l:=by
   intro l
   induction l with
   | nil=>intro _; trivial
   | cons a l j=>exact fun hl=>⟨hl a aj,j fun t d=>hl t (by simp [d])⟩
  exact this _ d
def Js (C:Cx) (h0:Hp) (ρ:gF) (σ:dL AO) (e:Ev) (k:Env->T) (L:Lp) (K:Xab->Hp->Prop):Prop :=
 ∀ ρ1 h1 e2,Le ρ ρ1->Rel C h0 ρ1 σ h1->ER ρ1 e e2->k e2 L K h1
def Js.mono {ρ ρ':gF} {σ:dL AO} {k:Env->T} (le:Le ρ ρ') (h:Js C h0 ρ σ e k L K):Js C h0 ρ' σ e k L K:=fun ρ1 h1 e2 d=>h ρ1 h1 e2 (le.trans d)
theorem oP (O:Ok C) {call:fY} (j:nT C h0 call) {k:Env->T}:∀ (fu:Nat) {D:List Nat} {ρ:gF} {s:CS} {h:Hp} {e e1:Ev} {s1:CS} {e':Env} {m:wx} {m':Made} {p p1:Bo},
  xY C call n ops fu D e s m p=some (e1,s1,p1)->Rel C h0 ρ s.σ h->ER ρ e e'->MR C ρ m m'->Js C h0 ρ s1.σ e1 k L K->fU C.P n ops fu D e' m' k L K h
 | 0,D,ρ,s,h,e,e1,s1,e',m,m',p,p1,hx,R,er,X,hk=>by cases hx
 | fu+1,D,ρ,s,h,e,e1,s1,e',m,m',p,p1,hx,R,er,X,hk=>by
  unfold xY at hx;unfold fU;cases hc:cY C.P D true (idx 0 ops.toList) with
  | cons q qs =>
   obtain ⟨i,o⟩:=q;rw [hc] at hx;simp only at hx ⊢;obtain ⟨w,hw,hx⟩:=Yt.1 hx;refine wP er hw (fun F e2 d=>?_) (fun G e2 d=>?_)
   ·subst F;simp only at hx;unfold Fb at hx;split at hx
    ·rename_i t x hop;simp only [hop];obtain ⟨v,hv,hx⟩:=Yt.1 hx;obtain ⟨⟨b,off,l,u⟩,hl,hx⟩:=Yt.1 hx;obtain ⟨v',g1,_,g2⟩:=bS R d hv;unfold rz;rw [g2];obtain ⟨pl,l',u',k1,k2,k3,k4,k5⟩:=Ac R g1 hl;refine k5 (fun a l v=>fU C.P n ops fu (i::D) (dX n e2 o.dst v) ((i,a,l)::m') k) L K ?_;exact oP O j fu hx R (d.put o.dst k3) ⟨rfl,⟨pl,k1,rfl⟩,k2,X⟩ hk
    ·rename_i hnl;obtain ⟨⟨v,s2⟩,h1,hx⟩:=Yt.1 hx;have hgo:uH C.P o e2 (fun v=>fU C.P n ops fu (i::D) (dX n e2 o.dst v) m' k) L K h:=by
      refine GY O j R d h1 ?_;intro ρ1 v1 h1 le R1 hv;exact oP O j fu hx R1 ((d.mono le).put o.dst hv) (X.mono le) (hk.mono le)
     have hne:∀ t x,o.op≠.load t x:=fun t x hh=>hnl t x hh
     clear hx hw;obtain ⟨dst,op,type,pos,after,guard⟩:=o;cases op <;> first | exact hgo | exact (hne _ _ rfl).elim
   ·subst G;exact oP O j fu hx R (d.put o.dst ot) X hk
  | nil =>
   rw [hc] at hx;simp only at hx ⊢;cases hn:cY C.P D false (idx 0 ops.toList) with
   | nil =>
    rw [hn] at hx;cases hx;exact hk ρ h e' (Le.refl _) R er
   | cons q qs =>
    rw [hn] at hx;simp only at hx ⊢;unfold O1 at hx;obtain ⟨⟨e3,s3,p3⟩,h1,hx⟩:=Yt.1 hx;obtain ⟨h2,hx⟩:=bF.1 (show fF _ _=some (e1,s1,p1) from hx);cases hx
    have one:∀ (q:Nat × Oper) (p2:Bo) (J:Ev) (U:CS) (Y:Bo),ze C call n ops e s m (fun i e s p=>xY C call n ops fu (i::D) e s m p) q p2=some (J,U,Y)->J=e1->U.σ=s1.σ ->
      lN n ops q.2 e' (fun e=>uH C.P q.2 e fun v=>vk (kq q.2 m') (fU C.P n ops fu (q.1::D) (dX n e q.2.dst v) m' k)) (fun e=>fU C.P n ops fu (q.1::D) (dX n e q.2.dst undef) m' k) L K h:=by
     rintro ⟨i,o⟩ p2 J U Y hs rfl hσ;unfold ze at hs;simp only at hs ⊢;obtain ⟨w,hw,hs⟩:=Yt.1 hs;refine wP er hw (fun F e2 d=>?_) (fun G e2 d=>?_)
     ·subst F;obtain ⟨⟨v,s5⟩,g1,hs⟩:=Yt.1 hs;obtain ⟨g2,hs⟩:=bF.1 (show fF _ _=some (J,U,Y) from hs);refine GY (s:=⟨s.σ,Dw i s.nx p2⟩) O j R d g1 ?_;intro ρ1 v1 h1 le R1 hv;have Z:=X.mono le;refine HE (uG R1 Z g2) ?_;exact oP O j fu hs R1 ((d.mono le).put o.dst hv) Z (by rw [hσ]; exact hk.mono le)
     ·subst G;exact oP O j fu hs R (d.put o.dst ot) X (by rw [hσ]; exact hk)
    refine Qs aj fun t ht=>?_
    simp only [List.map_cons,List.mem_cons,List.mem_map] at ht;rcases ht with rfl | ⟨q2,hq2,rfl⟩
    ·exact one q p e1 s1 p1 h1 rfl rfl
    ·have:=Y1.1 h2 q2 hq2
     unfold sameAs at this;cases V:ze C call n ops e s m (fun i e s p=>xY C call n ops fu (i::D) e s m p) q2 p1 with
     | none=>rw [V] at this; cases this
     | some r =>
      obtain ⟨J,U,Y⟩:=r;rw [V] at this;have this:(BD (rB 9) J e1 && BD Ps U.σ s1.σ)=true:=this;simp only [Bool.and_eq_true] at this;exact one q2 p1 J U Y V (zb (jP 9) this.1) (zb (fun a b=>Qj) this.2)
end
end Go.Sx.Cr
