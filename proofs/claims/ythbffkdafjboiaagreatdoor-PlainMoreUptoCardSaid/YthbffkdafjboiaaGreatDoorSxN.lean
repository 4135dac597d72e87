/- Part of the framework. No condition. -/
import Derived.Test.YthbffkdafjboiaaGreatDoorSxJg
import Derived.Test.YthbffkdafjboiaaGreatDoorSxY
set_option linter.all false
set_option maxHeartbeats 4000000
namespace Go.Sx.Cr
section
variable {C:Cx} {h0:Hp} {ρ:gn} {s s1:CS} {h:Hp} {e e1:Ev} {e':Env} {L:Lp} {K:Xab->Hp->Prop} {n:Nat} {ops:Array Oper}
def Jz {α:Type} (v:Xab) (k:Xab->α):forced v k=k v:=by
 unfold forced;split
 ·split
  ·split <;> rfl
  ·rfl
 ·split <;> rfl
 ·rfl
def ER.put (G:ER ρ e e') (dst:Option Tmp) {v v':Xab} (hv:VR ρ v v'):ER ρ (C0 n e dst v) (dZ n e' dst v'):=by
 cases dst with
 | none=>exact G
 | some d =>
  unfold C0 dZ;simp only [Jz];cases hb:Nat.blt d n with
  | false=>exact G
  | true =>
   simp only [cond_true];intro t u j;rw [dK.vW] at j;rw [dA]
   by_cases h:t=d
   ·rw [Y8 h] at j; cases j;rw [Y8 h.symm]; exact ⟨v',rfl,hv⟩
   ·rw [Y2 h] at j;rw [Y2 fun J=>h J.symm]; exact G t u j
def ER.again (j:ER ρ e e') {d:Nat} {v:Xab} (G:cQ e' d=some v):ER ρ e (dZ n e' (some d) v):=by
 intro t u J;obtain ⟨O,h1,h2⟩:=j t u J;refine ⟨O,?_,h2⟩;unfold dZ;simp only;cases Nat.blt d n with
 | false=>exact h1
 | true =>
  simp only [cond_true];rw [dA]
  by_cases h:d=t
  ·subst h; rw [Y8 rfl,<- h1,G]
  ·rw [Y2 h]; exact h1
def wB (j:ER ρ e e') {o:Oper} {w:Bool} (hw:Cg ops o e=some w) {u no:Env->T} (hy:w=true->∀ e2,ER ρ e e2->u e2 L K h) (hn:w=false->∀ e2,ER ρ e e2->no e2 L K h):lx n ops o e' u no L K h:=by
 unfold Cg at hw;unfold lx;cases J:guardOf ops o with
 | none =>
  rw [J] at hw; simp only at hw ⊢;cases hw; exact hy rfl e' j
 | some p =>
  obtain ⟨O,want⟩:=p;rw [J] at hw;cases O with
  | none=>simp only at hw ⊢; cases hw; exact hn rfl e' j
  | some d =>
   simp only at hw ⊢;obtain ⟨v,hv,hw⟩:=YZ.1 hw;obtain ⟨v',h1,h2⟩:=j d v hv;rw [h1];unfold Sp at hw;split at hw
   ·rename_i b;cases hw; cases h2;have G:=j.again (n:=n) h1;cases want <;> cases b <;> simp only [cond_true,cond_false]
    ·exact hy rfl _ G
    ·exact hn rfl _ G
    ·exact hn rfl _ G
    ·exact hy rfl _ G
   ·cases hw;cases h2;exact hn rfl e' j
   ·cases hw
theorem De (O:Ok C) {call:gd} (u:nv C h0 call) {k:Env->T}:∀ (l:List Oper) {ρ:gn} {s:CS} {h:Hp} {e:Ev} {e':Env},Qi C call n ops l e s=some (e1,s1)->Rel C h0 ρ s.σ h->ER ρ e e' ->
  (∀ ρ1 h1 e2,Le ρ ρ1->Rel C h0 ρ1 s1.σ h1->ER ρ1 e1 e2->k e2 L K h1)->EH C.P n ops l e' k L K h
 | [],ρ,s,h,e,e',hx,R,G,hk=>by
  cases (show some (e,s)=some (e1,s1) from hx);exact hk ρ h e' (Le.refl _) R G
 | o::l,ρ,s,h,e,e',hx,R,G,hk=>by
  obtain ⟨w,hw,hx⟩:=YZ.1 (show (Cg ops o e).bind _=some (e1,s1) from hx);unfold EH;refine wB G hw (fun J e2 j=>?_) (fun U e2 j=>?_)
  ·subst J;obtain ⟨⟨v,Z⟩,h1,h2⟩:=YZ.1 (show (U4 C call o e s).bind _=some (e1,s1) from hx);refine GH O u R j h1 ?_;intro ρ1 v1 h1 le X hv;exact De O u l h2 X ((j.mono le).put o.dst hv) fun ρ2 h2 Y V=>hk ρ2 h2 Y (le.trans V)
  ·subst U;exact De O u l hx R (j.put o.dst nN) hk
theorem oO {q:Xab->Xab->Bool} (j:∀ a b,q a b=true->a=b):∀ {l k:List Xab},qv q l k=true->l=k
 | [],[],_=>rfl
 | a::l,b::k,h=>by
  simp only [qv,Bool.and_eq_true] at h;rw [j a b h.1,oO j h.2]
 | [],_::_,h=>by simp [qv] at h
 | _::_,[],h=>by simp [qv] at h
def I9 {a b:Xac} (h:Rr a b=true):a=b:=by
 unfold Rr at h;split at h
 ·rfl
 ·simp only [Bool.and_eq_true] at h;rw [Zf h.1,Zf h.2]
 ·cases h
def FM {a b:Xaa} (h:oy a b=true):a=b:=by
 rw [ld] at h; exact Y5 h
theorem jM:∀ (n:Nat) (a b:Xab),q8 n a b=true->a=b
 | 0,_,_,h=>by cases h
 | n+1,a,b,h=>by
  unfold q8 at h;split at h <;> first
   | (cases h; done)
   | rfl
   | skip
  ·rw [beq_iff_eq] at h; rw [h]
  ·simp only [Bool.and_eq_true,decide_eq_true_eq,beq_iff_eq] at h; rw [h.1,h.2]
  ·rw [FM h]
  ·rw [I9 h]
  ·simp only [Bool.and_eq_true] at h;rw [I9 h.1.1,Zf h.1.2,Zf h.2]
  ·rw [Zf h]
  ·simp only [Bool.and_eq_true] at h;rw [Zf h.1.1,oO (jM n) h.1.2,oO (jM n) h.2]
  ·simp only [Bool.and_eq_true] at h;rw [Zf h.1,jM n _ _ h.2]
  ·rw [oO (jM n) h]
  ·rw [oO (jM n) h]
theorem yX {α:Type} {q:α->α->Bool} (j:∀ a b,q a b=true->a=b):∀ {l k:List (α × Xab)},db q l k=true->l=k
 | [],[],_=>rfl
 | a::l,b::k,h=>by
  simp only [db,Bool.and_eq_true] at h;rw [show a=b from Prod.ext (j _ _ h.1.1) (jM _ _ _ h.1.2),yX j h.2]
 | [],_::_,h=>by simp [db] at h
 | _::_,[],h=>by simp [db] at h
def PS {a b:AO} (h:OZ a b=true):a=b:=by
 unfold OZ at h;split at h
 ·rfl
 ·simp only [Bool.and_eq_true] at h;rw [Zf h.1.1,Zf h.1.2,oO (jM _) h.2]
 ·rw [yX (fun a b=>FM) h]
 ·rw [yX (fun a b j=>by rw [rV] at j; exact Y5 j) h]
 ·rw [yX (fun a b j=>by rw [o7] at j; exact Y5 j) h]
 ·cases h
def JY {α:Type} {q:α->α->Bool} (j:∀ a b,q a b=true->a=b) {a b:Option α} (h:Hk q a b=true):a=b:=by
 unfold Hk at h;split at h
 ·rfl
 ·rw [j _ _ h]
 ·cases h
theorem yY {α:Type} {q:α->α->Bool} (j:∀ a b,q a b=true->a=b):∀ {a b:dK α},Bd q a b=true->a=b
 | .nil,.nil,_=>rfl
 | .node o l r,.node o' l' r',h=>by
  simp only [Bd,Bool.and_eq_true] at h;rw [JY j h.1.1,yY j h.1.2,yY j h.2]
 | .nil,.node _ _ _,h=>by simp [Bd] at h
 | .node _ _ _,.nil,h=>by simp [Bd] at h
def MR (C:Cx) (ρ:gn):wa->Made->Prop
 | [],[]=>True
 | (i,b,off,l)::m,(i',a,l')::m'=>i=i'/\(∃ pl,ρ b=some pl/\a=⟨pl.cr,pl.sh+off,none⟩)/\dS ρ l l'/\MR C ρ m m'
 | _,_=>False
theorem MR.mono {ρ ρ':gn} (le:Le ρ ρ'):∀ {m:wa} {m':Made},MR C ρ m m'->MR C ρ' m m'
 | [],[],_=>trivial
 | (i,b,off,l)::m,(i',a,l')::m',⟨h1,⟨pl,h2,h3⟩,h4,h5⟩=>⟨h1,⟨pl,le _ _ h2,h3⟩,h4.mono le,MR.mono le h5⟩
 | [],_::_,h=>h.elim
 | _::_,[],h=>h.elim
def Kk.inj {pl:Pl} {c a b:Nat} (h:Kk pl c a) (k:Kk pl c b):a=b:=by
 rcases h with ⟨h1,h2⟩ | ⟨h1,h2⟩ <;> rcases k with ⟨j,u⟩ | ⟨j,u⟩ <;> omega
mutual
theorem VR.inj {ρ:gn}:∀ {v a b:Xab},VR ρ v a->VR ρ v b->a=b
 | _,_,_,.bool _,h=>by cases h; rfl
 | _,_,_,.int _ _,h=>by cases h; rfl
 | _,_,_,.string _,h=>by cases h; rfl
 | _,_,_,.Rt,h=>by cases h; rfl
 | _,_,_,.ptr off hb,h=>by cases h with | ptr _ h2=>rw [hb] at h2; cases h2; rfl
 | _,_,_,.mj _,h=>by cases h; rfl
 | _,_,_,.sl _ _ hb hc _,h=>by cases h with | sl _ _ h2 h3 _=>rw [hb] at h2; cases h2; rw [hc.inj h3]
 | _,_,_,.Q1,h=>by cases h; rfl
 | _,_,_,.map hb,h=>by cases h with | map h2=>rw [hb] at h2; cases h2; rfl
 | _,_,_,.func _ h1 h2,h=>by cases h with | func _ j u=>rw [dS.inj h1 j,dS.inj h2 u]
 | _,_,_,.nilFunc,h=>by cases h; rfl
 | _,_,_,.nilIface,h=>by cases h; rfl
 | _,_,_,.iface _ h1,h=>by cases h with | iface _ j=>rw [VR.inj h1 j]
 | _,_,_,.agg h1,h=>by cases h with | agg j=>rw [dS.inj h1 j]
 | _,_,_,.tuple h1,h=>by cases h with | tuple j=>rw [dS.inj h1 j]
theorem dS.inj {ρ:gn}:∀ {v a b:List Xab},dS ρ v a->dS ρ v b->a=b
 | _,_,_,.nil,h=>by cases h; rfl
 | _,_,_,.cons h1 t1,h=>by cases h with | cons j t2=>rw [VR.inj h1 j,dS.inj t1 t2]
end
theorem uo (R:Rel C h0 ρ s.σ h) {o:Oper}:∀ {m:wa} {m':Made},MR C ρ m m'->vN C s (waits o) m=true->T.DF h (kg o m')
 | [],[],_,_=>trivial
 | (i,b,off,l)::m,(i',a,l')::m',⟨h1,⟨pl,h2,h3⟩,h4,h5⟩,hx=>by
  subst h1;unfold vN at hx;unfold kg;cases hw:sI i (waits o) with
  | true =>
   rw [hw] at hx;simp only [cond_true];exact uo R h5 hx
  | false =>
   rw [hw] at hx;simp only [cond_false,Bool.and_eq_true] at hx ⊢;obtain ⟨hc,hx⟩:=hx;refine ⟨?_,uo R h5 hx⟩;cases hk:cells C s b off l.length with
   | none=>rw [hk] at hc; cases hc
   | some k =>
    rw [hk] at hc
    have:=oO (jM 9) (show qv (q8 9) k l=true from hc)
    subst this;obtain ⟨_,k',h6,h7⟩:=ri R hk h2;rw [h4.inj h6,h3];exact h7
 | [],_::_,h,_=>h.elim
 | _::_,[],h,_=>h.elim
def Hn {l:List (Xax × List Xab)} {t:T} (h1:T.DF h l) (h2:t L K h):uU l t L K h:=by
 cases l with
 | nil=>exact h2
 | cons p l=>exact ⟨h1,h2⟩
theorem P0:∀ {ts:List T},ts≠[]->(∀ t∈ts,t L K h)->TY ts L K h
 | [],hn,_=>(hn rfl).elim
 | [t],_,j=>j t aj
 | t::u::ts,_,j=>by
  show T.every L K h (t::u::ts)
  have:∀ l:List T,(∀ t∈l,t L K h)->T.every L K h l:=by
   intro l
   induction l with
   | nil=>intro _; trivial
   | cons a l G=>exact fun hl=>⟨hl a aj,G fun t j=>hl t (by simp [j])⟩
  exact this _ j
def I8 (C:Cx) (h0:Hp) (ρ:gn) (σ:dK AO) (e:Ev) (k:Env->T) (L:Lp) (K:Xab->Hp->Prop):Prop :=
 ∀ ρ1 h1 e2,Le ρ ρ1->Rel C h0 ρ1 σ h1->ER ρ1 e e2->k e2 L K h1
def I8.mono {ρ ρ':gn} {σ:dK AO} {k:Env->T} (le:Le ρ ρ') (h:I8 C h0 ρ σ e k L K):I8 C h0 ρ' σ e k L K:=fun ρ1 h1 e2 j=>h ρ1 h1 e2 (le.trans j)
theorem ov (O:Ok C) {call:gd} (G:nv C h0 call) {k:Env->T}:∀ (fu:Nat) {D:List Nat} {ρ:gn} {s:CS} {h:Hp} {e e1:Ev} {s1:CS} {e':Env} {m:wa} {m':Made} {p p1:A5},
  xK C call n ops fu D e s m p=some (e1,s1,p1)->Rel C h0 ρ s.σ h->ER ρ e e'->MR C ρ m m'->I8 C h0 ρ s1.σ e1 k L K->fW C.P n ops fu D e' m' k L K h
 | 0,D,ρ,s,h,e,e1,s1,e',m,m',p,p1,hx,R,er,Z,hk=>by cases hx
 | fu+1,D,ρ,s,h,e,e1,s1,e',m,m',p,p1,hx,R,er,Z,hk=>by
  unfold xK at hx;unfold fW;cases hc:cY C.P D true (idx 0 ops.toList) with
  | cons q qs =>
   obtain ⟨i,o⟩:=q;rw [hc] at hx;simp only at hx ⊢;obtain ⟨w,hw,hx⟩:=YZ.1 hx;refine wB er hw (fun J e2 j=>?_) (fun U e2 j=>?_)
   ·subst J;simp only at hx;unfold EN at hx;split at hx
    ·rename_i t x hop;simp only [hop];obtain ⟨v,hv,hx⟩:=YZ.1 hx;obtain ⟨⟨b,off,l,u⟩,hl,hx⟩:=YZ.1 hx;obtain ⟨v',g1,_,g2⟩:=bS R j hv;unfold qX;rw [g2];obtain ⟨pl,l',u',k1,k2,k3,k4,k5⟩:=zT R g1 hl;refine k5 (fun a l v=>fW C.P n ops fu (i::D) (dZ n e2 o.dst v) ((i,a,l)::m') k) L K ?_;exact ov O G fu hx R (j.put o.dst k3) ⟨rfl,⟨pl,k1,rfl⟩,k2,Z⟩ hk
    ·rename_i hnl;obtain ⟨⟨v,s2⟩,h1,hx⟩:=YZ.1 hx;have hgo:uq C.P o e2 (fun v=>fW C.P n ops fu (i::D) (dZ n e2 o.dst v) m' k) L K h:=by
      refine GH O G R j h1 ?_;intro ρ1 v1 h1 le R1 hv;exact ov O G fu hx R1 ((j.mono le).put o.dst hv) (Z.mono le) (hk.mono le)
     have hne:∀ t x,o.op≠.load t x:=fun t x hh=>hnl t x hh
     clear hx hw;obtain ⟨dst,op,type,pos,after,guard⟩:=o;cases op <;> first | exact hgo | exact (hne _ _ rfl).elim
   ·subst U;exact ov O G fu hx R (j.put o.dst nN) Z hk
  | nil =>
   rw [hc] at hx;simp only at hx ⊢;cases hn:cY C.P D false (idx 0 ops.toList) with
   | nil =>
    rw [hn] at hx;cases hx;exact hk ρ h e' (Le.refl _) R er
   | cons q qs =>
    rw [hn] at hx;simp only at hx ⊢;unfold OC at hx;obtain ⟨⟨e3,s3,p3⟩,h1,hx⟩:=YZ.1 hx;obtain ⟨h2,hx⟩:=bq.1 (show fM _ _=some (e1,s1,p1) from hx);cases hx
    have one:∀ (q:Nat × Oper) (p2:A5) (V:Ev) (X:CS) (p4:A5),y6 C call n ops e s m (fun i e s p=>xK C call n ops fu (i::D) e s m p) q p2=some (V,X,p4)->V=e1->X.σ=s1.σ ->
      lx n ops q.2 e' (fun e=>uq C.P q.2 e fun v=>uU (kg q.2 m') (fW C.P n ops fu (q.1::D) (dZ n e q.2.dst v) m' k)) (fun e=>fW C.P n ops fu (q.1::D) (dZ n e q.2.dst undef) m' k) L K h:=by
     rintro ⟨i,o⟩ p2 V X p4 hs rfl hσ;unfold y6 at hs;simp only at hs ⊢;obtain ⟨w,hw,hs⟩:=YZ.1 hs;refine wB er hw (fun J e2 j=>?_) (fun U e2 j=>?_)
     ·subst J;obtain ⟨⟨v,s5⟩,g1,hs⟩:=YZ.1 hs;obtain ⟨g2,hs⟩:=bq.1 (show fM _ _=some (V,X,p4) from hs);refine GH (s:=⟨s.σ,Df i s.nx p2⟩) O G R j g1 ?_;intro ρ1 v1 h1 le R1 hv;have mr1:=Z.mono le;refine Hn (uo R1 mr1 g2) ?_;exact ov O G fu hs R1 ((j.mono le).put o.dst hv) mr1 (by rw [hσ]; exact hk.mono le)
     ·subst U;exact ov O G fu hs R (j.put o.dst nN) Z (by rw [hσ]; exact hk)
    refine P0 aj fun t ht=>?_
    simp only [List.map_cons,List.mem_cons,List.mem_map] at ht;rcases ht with rfl | ⟨q2,hq2,rfl⟩
    ·exact one q p e1 s1 p1 h1 rfl rfl
    ·have:=Zx.1 h2 q2 hq2
     unfold sameAs at this;cases Y:y6 C call n ops e s m (fun i e s p=>xK C call n ops fu (i::D) e s m p) q2 p1 with
     | none=>rw [Y] at this; cases this
     | some r =>
      obtain ⟨V,X,p4⟩:=r;rw [Y] at this;have this:(Bd (q8 9) V e1 && Bd OZ X.σ s1.σ)=true:=this;simp only [Bool.and_eq_true] at this;exact one q2 p1 V X p4 Y (yY (jM 9) this.1) (yY (fun a b=>PS) this.2)
end
end Go.Sx.Cr
