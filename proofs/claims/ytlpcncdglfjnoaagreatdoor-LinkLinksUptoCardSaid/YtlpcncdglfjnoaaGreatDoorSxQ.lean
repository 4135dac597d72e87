/- Closed runs, part Q: code and functions over a store, and over the heap that it stands for: what the kernel reckons, the program's call does. Asked: of the context, what Ok says. -/
import Derived.Test.YtlpcncdglfjnoaaGreatDoorSxN
set_option linter.all false
set_option maxHeartbeats 4000000
namespace Go.Sx.Cr
section
variable {C:Cx} {h0:Hp} {n:Nat}
def End (C:Cx) (h0:Hp) (n:Nat) (ρ:fZ) (σ:dC AO) (e:Ev) (q:Act->Hp->Prop):Prop :=
 ∀ ρ1 e2 a1 h1,Le ρ ρ1->Rel C h0 ρ1 σ h1->ER ρ1 e e2->gb ⟨n,[]⟩ e2 a1->q a1 h1
theorem End.mono {ρ ρ':fZ} {σ:dC AO} {e:Ev} {q:Act->Hp->Prop} (le:Le ρ ρ') (h:End C h0 n ρ σ e q):End C h0 n ρ' σ e q:=fun ρ1 e2 a1 h1 le2=>h ρ1 e2 a1 h1 (le.trans le2)
def yZ (C:Cx) (h0:Hp) (n:Nat) (step:Ev->CS->XS) (c:Code):Prop :=
 ∀ e s x e1 s1,step e s=some (x,e1,s1)->∀ ρ e' a h (Q:Exit->Act->Hp->Prop),Rel C h0 ρ s.σ h->ER ρ e e'->gb ⟨n,[]⟩ e' a->End C h0 n ρ s1.σ e1 (Q x)->cW C.P c Q a h
theorem J2 (O:Ok C) (hm:C.P.follows .mixedOrders=true) {call:fL} (CO:mH C h0 call) {id:Nat} {ops:Array Oper} {draw:Bool} {e e1:Ev} {s s1:CS} (hx:C3 C call n ops draw e s=some (e1,s1)) {ρ:fZ} {e':Env} {a:Act} {h:Hp} {Q:Exit->Act->Hp->Prop}
  (R:Rel C h0 ρ s.σ h) (er:ER ρ e e') (g:gb ⟨n,[]⟩ e' a) (hk:End C h0 n ρ s1.σ e1 (Q .normal)):cW C.P (.region id ops draw) Q a h:=by
 let k:Env->T:=fun e2 _ _ h1=>∃ ρ1,Le ρ ρ1/\Rel C h0 ρ1 s1.σ h1/\ER ρ1 e1 e2
 have hq:∀ e2 a' h',k e2 [] (fun _ _=>True) h'->gb ⟨n,[]⟩ e2 a'->Fr (dstsOf ops) e' e2->Q .normal a' h':=by
  rintro e2 a' h' ⟨ρ1,le,R1,er1⟩ g1 _;exact hk ρ1 e2 a' h' le R1 er1 g1
 unfold C3 at hx;cases draw with
 | false =>
  simp only at hx;exact wm (n:=⟨n,[]⟩) hq (CD O CO _ hx R er fun ρ1 h1 e2 le R1 er1=>⟨ρ1,le,R1,er1⟩) g
 | true =>
  simp only at hx;obtain ⟨hok,hx⟩:=bn.1 hx;obtain ⟨⟨e3,s3,p3⟩,h1,h2⟩:=Wq.1 hx;cases h2;refine VO (n:=⟨n,[]⟩) hm id ops e' k [] (fun _ _=>True) Q a h hq ?_ g;unfold ui;simp only [hok];exact nY O CO _ h1 R er (m:=[]) (m':=[]) trivial fun ρ1 h1 e2 le R1 er1=>⟨ρ1,le,R1,er1⟩
theorem HU {x:Exit} (h:wJ x=true):x=.normal:=by cases x <;> first | rfl | cases h
theorem zM {next:Act->Hp->Prop} {Q:Exit->Act->Hp->Prop} {x:Exit} (h:wJ x=false):K9 next Q x=Q x:=by cases x <;> first | rfl | cases h
theorem Qm {step:Ev->CS->XS} {c:Code} (ok:yZ C h0 n step c):∀ k,yZ C h0 n (Ie step k) (.loop c):=by
 intro k e s x e1 s1 hx ρ e' a h Q R er g hk;refine Ht (fun m a h=>∃ ρ0 e0 s0 e0',Ie step m e0 s0=some (x,e1,s1)/\Le ρ ρ0/\Rel C h0 ρ0 s0.σ h/\ER ρ0 e0 e0'/\gb ⟨n,[]⟩ e0' a) ⟨k,ρ,e,s,e',hx,Le.refl _,R,er,g⟩ ?_;rintro m a h ⟨ρ0,e0,s0,e0',hx,le,R,er,g⟩;cases m with
 | zero=>cases hx
 | succ m =>
  obtain ⟨⟨y,e2,s2⟩,h1,h2⟩:=Wq.1 (show (step e0 s0).bind _=some (x,e1,s1) from hx);simp only at h2;cases hn:wJ y with
  | true =>
   rw [hn] at h2;refine ok e0 s0 y e2 s2 h1 ρ0 e0' a h _ R er g ?_;rw [HU hn];intro ρ1 e3 a1 h3 le1 R1 er1 g1;exact ⟨m,Nat.lt_succ_self m,ρ1,e2,s2,e3,h2,le.trans le1,R1,er1,g1⟩
  | false =>
   rw [hn] at h2;cases h2;refine ok e0 s0 x e1 s1 h1 ρ0 e0' a h _ R er g ?_;rw [zM hn];exact hk.mono le
theorem BL {c:Code} {J:Nat->Act->Hp->Prop} {Q:Exit->Act->Hp->Prop} {x:Exit} (h:Ak c x=none):iO c J Q x=Q x:=by
 funext a h'
 cases x <;> first | rfl | skip
 rename_i l
 have:findLabel c l=none:=h
 simp only [iO,this]
theorem vG {c r:Code} {J:Nat->Act->Hp->Prop} {Q:Exit->Act->Hp->Prop} {x:Exit} (h:Ak c x=some r):∃ l,x=.goto l/\findLabel c l=some r/\iO c J Q x=J l:=by
 cases x <;> first | (cases h; done) | skip
 rename_i l;have h:findLabel c l=some r:=h;exact ⟨l,rfl,h,by funext a h'; simp only [iO,h]⟩
theorem Nt {step:Code->Ev->CS->XS} (ok:∀ r,yZ C h0 n (step r) r) (c:Code) (k:Nat):yZ C h0 n (pa step c k c) (.scope c):=by
 intro e s x e1 s1 hx ρ e' a h Q R er g hk
 have go:∀ (m:Nat) (r:Code) ρ0 e0 s0 e0' a h,pa step c m r e0 s0=some (x,e1,s1)->Le ρ ρ0->Rel C h0 ρ0 s0.σ h->ER ρ0 e0 e0'->gb ⟨n,[]⟩ e0' a ->
   cW C.P r (iO c (fun l a h=>∃ m',m'<m/\∃ r ρ0 e0 s0 e0',findLabel c l=some r/\pa step c m' r e0 s0=some (x,e1,s1)/\Le ρ ρ0/\Rel C h0 ρ0 s0.σ h/\ER ρ0 e0 e0'/\gb ⟨n,[]⟩ e0' a) Q) a h:=by
  intro m r ρ0 e0 s0 e0' a h hx le R er g;cases m with
  | zero=>cases hx
  | succ m =>
   obtain ⟨⟨y,e2,s2⟩,h1,h2⟩:=Wq.1 (show (step r e0 s0).bind _=some (x,e1,s1) from hx);simp only at h2;refine ok r e0 s0 y e2 s2 h1 ρ0 e0' a h _ R er g ?_;cases hg:Ak c y with
   | none =>
    rw [hg] at h2;cases h2;rw [BL hg];exact hk.mono le
   | some r' =>
    rw [hg] at h2;obtain ⟨l,hl1,hl2,hl3⟩:=vG (J:=fun l a h=>∃ m',m'<m+1/\∃ r ρ0 e0 s0 e0',findLabel c l=some r/\pa step c m' r e0 s0=some (x,e1,s1)/\Le ρ ρ0/\Rel C h0 ρ0 s0.σ h/\ER ρ0 e0 e0'/\gb ⟨n,[]⟩ e0' a) (Q:=Q) hg;rw [hl3];intro ρ1 e3 a1 h3 le1 R1 er1 g1;exact ⟨m,Nat.lt_succ_self m,r',ρ1,e2,s2,e3,hl2,h2,le.trans le1,R1,er1,g1⟩
 refine Fw Nat.lt_wfRel.wf (fun l m a h=>∃ r ρ0 e0 s0 e0',findLabel c l=some r/\pa step c m r e0 s0=some (x,e1,s1)/\Le ρ ρ0/\Rel C h0 ρ0 s0.σ h/\ER ρ0 e0 e0'/\gb ⟨n,[]⟩ e0' a) ?_ ?_
 ·refine rp ?_ (go k c ρ e s e' a h hx (Le.refl _) R er g);intro y a h hq;cases hg:Ak c y with
  | none=>rw [BL hg] at hq ⊢; exact hq
  | some r' =>
   obtain ⟨l,hl1,_,hl3⟩:=vG (J:=fun l a h=>∃ m,∃ r ρ0 e0 s0 e0',findLabel c l=some r/\pa step c m r e0 s0=some (x,e1,s1)/\Le ρ ρ0/\Rel C h0 ρ0 s0.σ h/\ER ρ0 e0 e0'/\gb ⟨n,[]⟩ e0' a) (Q:=Q) hg;obtain ⟨l2,hl4,_,hl5⟩:=vG (J:=fun l a h=>∃ m',m'<k/\∃ r ρ0 e0 s0 e0',findLabel c l=some r/\pa step c m' r e0 s0=some (x,e1,s1)/\Le ρ ρ0/\Rel C h0 ρ0 s0.σ h/\ER ρ0 e0 e0'/\gb ⟨n,[]⟩ e0' a) (Q:=Q) hg;rw [hl5] at hq;have hll:=hl1.symm.trans hl4;cases hll;rw [hl3];obtain ⟨m',_,hq⟩:=hq;exact ⟨m',hq⟩
 ·rintro l m a h ⟨r,ρ0,e0,s0,e0',hl,hx,le,R,er,g⟩;exact ⟨r,hl,go m r ρ0 e0 s0 e0' a h hx le R er g⟩
theorem Ox {id:Nat} {x:Exit} (h:B0 id x=true):x=.exit id:=by
 cases x <;> first | (cases h; done) | skip
 rename_i i;have h:Nat.beq i id=true:=h;rw [WD h]
theorem D3 {id:Nat} {Q:Exit->Act->Hp->Prop} {x:Exit} (h:B0 id x=false):ln id Q x=Q x:=by
 funext a h'
 cases x <;> first | rfl | skip
 rename_i i;have h:Nat.beq i id=false:=h
 have:¬ i=id:=fun hh=>by subst hh; rw [Nat.beq_refl] at h; cases h
 simp only [ln,if_neg this]
theorem Fj (O:Ok C) (hm:C.P.follows .mixedOrders=true) {call:fL} (CO:mH C h0 call):∀ (fu:Nat) (c:Code),yZ C h0 n (lH C call n fu c) c:=by
 intro fu
 induction fu with
 | zero=>intro c e s x e1 s1 hx; cases hx
 | succ fu ih =>
  intro c e s x e1 s1 hx ρ e' a h Q R er g hk;unfold lH at hx;cases c <;> simp only at hx
  case skip=>cases hx; exact Ia (hk ρ e' a h (Le.refl _) R er g)
  case label l=>cases hx; exact FG (hk ρ e' a h (Le.refl _) R er g)
  case exit i=>cases hx; exact H7 (hk ρ e' a h (Le.refl _) R er g)
  case goto l=>cases hx; exact HD (hk ρ e' a h (Le.refl _) R er g)
  case ret=>cases hx; exact LC (hk ρ e' a h (Le.refl _) R er g)
  case seq c1 c2 =>
   obtain ⟨⟨y,e2,s2⟩,h1,h2⟩:=Wq.1 (show (lH C call n fu c1 e s).bind _=some (x,e1,s1) from hx);simp only at h2;refine B' (ih c1 e s y e2 s2 h1 ρ e' a h _ R er g ?_);cases hn:wJ y with
   | true =>
    rw [hn] at h2;rw [HU hn];intro ρ1 e3 a1 h3 le1 R1 er1 g1;exact ih c2 e2 s2 x e1 s1 h2 ρ1 e3 a1 h3 Q R1 er1 g1 (hk.mono le1)
   | false =>
    rw [hn] at h2;cases h2;rw [zM hn];exact hk
  case cond c c1 c2 =>
   unfold Q1 at hx;split at hx
   ·rename_i hc;obtain ⟨v',h1,h2⟩:=GX R er hc;cases h2;exact Ct (g.ev h1) (fun _=>ih c1 e s x e1 s1 hx ρ e' a h Q R er g hk) (fun hf=>by cases hf)
   ·rename_i hc;obtain ⟨v',h1,h2⟩:=GX R er hc;cases h2;exact Ct (g.ev h1) (fun hf=>by cases hf) (fun _=>ih c2 e s x e1 s1 hx ρ e' a h Q R er g hk)
   ·cases hx
  case block id c =>
   obtain ⟨⟨y,e2,s2⟩,h1,h2⟩:=Wq.1 (show (lH C call n fu c e s).bind _=some (x,e1,s1) from hx);simp only at h2;refine Ek (ih c e s y e2 s2 h1 ρ e' a h _ R er g ?_);cases hn:B0 id y with
   | true =>
    rw [hn] at h2;cases h2;rw [Ox hn];intro ρ1 e3 a1 h3 le1 R1 er1 g1;simp only [ln,if_pos];exact hk ρ1 e3 a1 h3 le1 R1 er1 g1
   | false =>
    rw [hn] at h2;cases h2;rw [D3 hn];exact hk
  case region id ops draw =>
   obtain ⟨⟨e2,s2⟩,h1,h2⟩:=Wq.1 hx;cases h2;exact J2 O hm CO h1 R er g hk
  case loop c=>exact Qm (ih c) _ e s x e1 s1 hx ρ e' a h Q R er g hk
  case scope c=>exact Nt ih c _ e s x e1 s1 hx ρ e' a h Q R er g hk
  all_goals (cases hx)
theorem Fo:∀ (l:List YB) (i t:Nat) (v:YB),i<=t->l[t-i]?=some v->cJ (tj i l) t=some v
 | [],i,t,v,_,h=>by simp at h
 | u::l,i,t,v,hi,h=>by
  simp only [tj,dl]
  by_cases hh:i=t
  ·subst hh;rw [WC rfl];simpa using h
  ·rw [Ww hh];refine Fo l (i+1) t v ad ?_;rw [show t-i=(t-(i+1))+1 from ad,Ya] at h;exact h
theorem EF:∀ (l:List YB) (i t:Nat) (v:YB),(G1 i l).get t=some v->i<=t/\l[t-i]?=some v
 | [],i,t,v,h=>by simp [G1,dC.get_nil] at h
 | u::l,i,t,v,h=>by
  simp only [G1] at h;rw [dC.uk] at h
  by_cases hh:t=i
  ·subst hh;rw [WC rfl] at h;cases h;exact ⟨WH _,aj⟩
  ·rw [Ww hh] at h;obtain ⟨h1,h2⟩:=EF l (i+1) t v h;refine ⟨ad,?_⟩;rw [show t-i=(t-(i+1))+1 from ad,Ya];exact h2
theorem OJ {ρ:fZ} {l l':List YB} (h:dL ρ l l'):ER ρ (G1 0 l) (tj 0 l'):=by
 intro t v ht;obtain ⟨h1,h2⟩:=EF l 0 t v ht;obtain ⟨v',h3,h4⟩:=h.get h2;exact ⟨v',Fo l' 0 t v' h1 h3,h4⟩
theorem BU {ρ:fZ} {s:CS} {h:Hp} {e:Ev} {e':Env} {K:YB->Hp->Prop} (R:Rel C h0 ρ s.σ h) (er:ER ρ e e'):∀ {rs:List ResultVar} {l:List YB},Jb C s e rs=some l->∃ l',dL ρ l l'/\∀ k:List YB->T,k l' [] K h->vH C.P rs e' k [] K h
 | [],l,hx=>by
  cases (show some []=some l from hx);exact ⟨[],.nil,fun k hk=>hk⟩
 | r::rs,l,hx=>by
  obtain ⟨v,hv,hx⟩:=Wq.1 (show (Re C s e r).bind _=some l from hx);obtain ⟨l2,hl,hx⟩:=Wq.1 hx;cases hx;obtain ⟨l',h1,h2⟩:=BU R er hl;cases r with
  | tmp t =>
   obtain ⟨v',h3,_,h4⟩:=bH (x:=.tmp t) R er hv;refine ⟨v'::l',.cons h3 h1,fun k hk=>?_⟩;unfold vH;rw [h4];exact h2 _ hk
  | cell a t =>
   obtain ⟨p,hp,hv⟩:=Wq.1 (show (e.get a).bind _=some v from hv);obtain ⟨⟨b,off,c,u⟩,hc,hv⟩:=Wq.1 hv;cases hv;obtain ⟨p',h3,_,h4⟩:=bH (x:=.tmp a) R er hp;obtain ⟨pl,c',u',k1,k2,k3,k4,k5⟩:=zi R h3 hc;refine ⟨u'::l',.cons k3 h1,fun k hk=>?_⟩;unfold vH;rw [h4];exact k5 (fun _ _ v=>vH C.P rs e' fun l=>k (v::l)) [] K (h2 _ hk)
theorem Lu {ρ:fZ} {l l':List YB} (h:dL ρ l l'):VR ρ (one l) (one l'):=by
 cases h with
 | nil=>exact .tuple .nil
 | cons h t=>cases t with
  | nil=>exact h
  | cons h2 t=>exact .tuple (.cons h (.cons h2 t))
theorem PG (O:Ok C) (hm:C.P.follows .mixedOrders=true):∀ fu,mH C h0 (RH C fu):=by
 intro fu
 induction fu with
 | zero=>intro f vs s v s1 hx; cases hx
 | succ fu ih =>
  intro f vs s v s1 hx ρ h vs' R hv;obtain ⟨fn,hf,hx⟩:=Wq.1 (show (C.P.funcs[f]?).bind _=some (v,s1) from hx);unfold Rk at hx;obtain ⟨hl,hx⟩:=bn.1 hx;obtain ⟨c,hb,hx⟩:=Wq.1 hx;obtain ⟨⟨x,e,s2⟩,hc,hx⟩:=Wq.1 hx;obtain ⟨hr,hx⟩:=bn.1 (show fz _ _=some (v,s1) from hx);obtain ⟨l,hres,hx⟩:=Wq.1 hx;cases hx;have hl':vs'.length<=fn.ntmps:=by rw [<- hv.length]; exact WW hl
  have g:gb ⟨fn.ntmps,[]⟩ (tj 0 vs') { tmps:=vs'.toArray++Array.replicate (fn.ntmps-vs'.toArray.size) undef,defers:=[] }:=by
   refine ⟨by simp; omega,rfl,fun s v hv=>?_⟩;obtain ⟨_,h2⟩:=wB vs' 0 s v hv;have hs:s<vs'.length:=by
    rcases Xg s vs'.length with h | h
    ·exact h
    ·simp only [Nat.sub_zero] at h2; rw [W2 h] at h2; cases h2
   simp only [Nat.sub_zero] at h2;simp [Array.getD_eq_getD_getElem?,Array.getElem?_append,hs];rw [Wu hs] at h2;exact WQ h2
  have hcw:cW C.P c (fun x a h'=>(x=.normal\/x=.ret)/\a.defers=[]/\∃ us,Ry C.P h' a.tmps fn.results.toList us/\∃ ρ1,Le ρ ρ1/\Rel C h0 ρ1 s1.σ h'/\VR ρ1 (one l) (one us)) { tmps:=vs'.toArray++Array.replicate (fn.ntmps-vs'.toArray.size) undef,defers:=[] } h:=by
   refine Fj O hm ih 1000 c (G1 0 vs) s x e s1 hc ρ (tj 0 vs') _ h _ R (OJ hv) g ?_;intro ρ1 e2 a1 h1 le R1 er1 g1;refine ⟨?_,g1.defers,?_⟩
   ·cases x <;> first | exact .inl rfl | exact .inr rfl | (cases hr; done)
   ·obtain ⟨l',h3,h4⟩:=BU (K:=fun _ _=>True) R1 er1 hres;obtain ⟨us,h5,h6⟩:=rL g1 (h4 (fun us _ _ _=>us=l') rfl);subst h5;exact ⟨us,h6,ρ1,le,R1,Lu h3⟩
  intro w hw;refine calls_of_wp hf hb (Code.wp_mono ?_ (hcw w w (dz.refl w) hw));rintro x a w' ⟨h1,hx,hd,us,hres,hk⟩;obtain ⟨h2,h3⟩:=qN (K:=fun v h'=>∃ ρ1,Le ρ ρ1/\Rel C h0 ρ1 s1.σ h'/\VR ρ1 (one l) v) hres hk;obtain ⟨v,w'',hr,hs,hR⟩:=oW _ w' _ h2
  have:=GP _ h3 w' v w'' hr
  subst this;rcases hx with rfl | rfl
  ·exact ⟨hd,v,hr,v,rfl,h1,hR⟩
  ·exact ⟨hd,v,hr,v,rfl,h1,hR⟩
end
end Go.Sx.Cr
