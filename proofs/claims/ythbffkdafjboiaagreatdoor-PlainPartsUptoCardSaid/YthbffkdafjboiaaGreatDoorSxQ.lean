/- Part of the framework. No condition. -/
import Derived.Test.YthbffkdafjboiaaGreatDoorSxN
set_option linter.all false
set_option maxHeartbeats 4000000
namespace Go.Sx.Cr
section
variable {C:Cx} {h0:Hp} {n:Nat}
def End (C:Cx) (h0:Hp) (n:Nat) (ρ:gn) (σ:dI AO) (e:Ev) (q:Act->Hp->Prop):Prop :=
 ∀ ρ1 e2 a1 h1,Le ρ ρ1->Rel C h0 ρ1 σ h1->ER ρ1 e e2->gu ⟨n,[]⟩ e2 a1->q a1 h1
def End.mono {ρ ρ':gn} {σ:dI AO} {e:Ev} {q:Act->Hp->Prop} (le:Le ρ ρ') (h:End C h0 n ρ σ e q):End C h0 n ρ' σ e q:=fun ρ1 e2 a1 h1 le2=>h ρ1 e2 a1 h1 (le.trans le2)
def zt (C:Cx) (h0:Hp) (n:Nat) (step:Ev->CS->XS) (c:Code):Prop :=
 ∀ e s x e1 s1,step e s=some (x,e1,s1)->∀ ρ e' a h (Q:Exit->Act->Hp->Prop),Rel C h0 ρ s.σ h->ER ρ e e'->gu ⟨n,[]⟩ e' a->End C h0 n ρ s1.σ e1 (Q x)->cW C.P c Q a h
def J8 (O:Ok C) (hm:C.P.follows .mixedOrders=true) {call:fV} (CO:mZ C h0 call) {id:Nat} {ops:Array Oper} {draw:Bool} {e e1:Ev} {s s1:CS} (hx:C1 C call n ops draw e s=some (e1,s1)) {ρ:gn} {e':Env} {a:Act} {h:Hp} {Q:Exit->Act->Hp->Prop}
  (R:Rel C h0 ρ s.σ h) (er:ER ρ e e') (g:gu ⟨n,[]⟩ e' a) (hk:End C h0 n ρ s1.σ e1 (Q .normal)):cW C.P (.region id ops draw) Q a h:=by
 let k:Env->T:=fun e2 _ _ h1=>∃ ρ1,Le ρ ρ1/\Rel C h0 ρ1 s1.σ h1/\ER ρ1 e1 e2
 have hq:∀ e2 a' h',k e2 [] (fun _ _=>True) h'->gu ⟨n,[]⟩ e2 a'->Fr (dstsOf ops) e' e2->Q .normal a' h':=by
  rintro e2 a' h' ⟨ρ1,le,R1,er1⟩ g1 _;exact hk ρ1 e2 a' h' le R1 er1 g1
 unfold C1 at hx;cases draw with
 | false =>
  simp only at hx;exact vM (n:=⟨n,[]⟩) hq (CG O CO _ hx R er fun ρ1 h1 e2 le R1 er1=>⟨ρ1,le,R1,er1⟩) g
 | true =>
  simp only at hx;obtain ⟨hok,hx⟩:=bq.1 hx;obtain ⟨⟨e3,s3,p3⟩,h1,h2⟩:=W1.1 hx;cases h2;refine Wm (n:=⟨n,[]⟩) hm id ops e' k [] (fun _ _=>True) Q a h hq ?_ g;unfold uH;simp only [hok];exact nX O CO _ h1 R er (m:=[]) (m':=[]) trivial fun ρ1 h1 e2 le R1 er1=>⟨ρ1,le,R1,er1⟩
def Hx {x:Exit} (h:vB x=true):x=.normal:=by cases x <;> first | rfl | cases h
def yA {next:Act->Hp->Prop} {Q:Exit->Act->Hp->Prop} {x:Exit} (h:vB x=false):NP next Q x=Q x:=by cases x <;> first | rfl | cases h
def P3 {step:Ev->CS->XS} {c:Code} (ok:zt C h0 n step c):∀ k,zt C h0 n (H7 step k) (.loop c):=by
 intro k e s x e1 s1 hx ρ e' a h Q R er g hk;refine HP (fun m a h=>∃ ρ0 e0 s0 e0',H7 step m e0 s0=some (x,e1,s1)/\Le ρ ρ0/\Rel C h0 ρ0 s0.σ h/\ER ρ0 e0 e0'/\gu ⟨n,[]⟩ e0' a) ⟨k,ρ,e,s,e',hx,Le.refl _,R,er,g⟩ ?_;rintro m a h ⟨ρ0,e0,s0,e0',hx,le,R,er,g⟩;cases m with
 | zero=>cases hx
 | succ m =>
  obtain ⟨⟨y,e2,s2⟩,h1,h2⟩:=W1.1 (show (step e0 s0).bind _=some (x,e1,s1) from hx);simp only at h2;cases hn:vB y with
  | true =>
   rw [hn] at h2;refine ok e0 s0 y e2 s2 h1 ρ0 e0' a h _ R er g ?_;rw [Hx hn];intro ρ1 e3 a1 h3 le1 R1 er1 g1;exact ⟨m,Nat.lt_succ_self m,ρ1,e2,s2,e3,h2,le.trans le1,R1,er1,g1⟩
  | false =>
   rw [hn] at h2;cases h2;refine ok e0 s0 x e1 s1 h1 ρ0 e0' a h _ R er g ?_;rw [yA hn];exact hk.mono le
def Bk {c:Code} {J:Nat->Act->Hp->Prop} {Q:Exit->Act->Hp->Prop} {x:Exit} (h:zI c x=none):jb c J Q x=Q x:=by
 funext a h'
 cases x <;> first | rfl | skip
 rename_i l
 have:findLabel c l=none:=h
 simp only [jb,this]
def wP {c r:Code} {J:Nat->Act->Hp->Prop} {Q:Exit->Act->Hp->Prop} {x:Exit} (h:zI c x=some r):∃ l,x=.goto l/\findLabel c l=some r/\jb c J Q x=J l:=by
 cases x <;> first | (cases h; done) | skip
 rename_i l;have h:findLabel c l=some r:=h;exact ⟨l,rfl,h,by funext a h'; simp only [jb,h]⟩
def KQ {step:Code->Ev->CS->XS} (ok:∀ r,zt C h0 n (step r) r) (c:Code) (k:Nat):zt C h0 n (oy step c k c) (.scope c):=by
 intro e s x e1 s1 hx ρ e' a h Q R er g hk
 have go:∀ (m:Nat) (r:Code) ρ0 e0 s0 e0' a h,oy step c m r e0 s0=some (x,e1,s1)->Le ρ ρ0->Rel C h0 ρ0 s0.σ h->ER ρ0 e0 e0'->gu ⟨n,[]⟩ e0' a ->
   cW C.P r (jb c (fun l a h=>∃ m',m'<m/\∃ r ρ0 e0 s0 e0',findLabel c l=some r/\oy step c m' r e0 s0=some (x,e1,s1)/\Le ρ ρ0/\Rel C h0 ρ0 s0.σ h/\ER ρ0 e0 e0'/\gu ⟨n,[]⟩ e0' a) Q) a h:=by
  intro m r ρ0 e0 s0 e0' a h hx le R er g;cases m with
  | zero=>cases hx
  | succ m =>
   obtain ⟨⟨y,e2,s2⟩,h1,h2⟩:=W1.1 (show (step r e0 s0).bind _=some (x,e1,s1) from hx);simp only at h2;refine ok r e0 s0 y e2 s2 h1 ρ0 e0' a h _ R er g ?_;cases hg:zI c y with
   | none =>
    rw [hg] at h2;cases h2;rw [Bk hg];exact hk.mono le
   | some r' =>
    rw [hg] at h2;obtain ⟨l,hl1,hl2,hl3⟩:=wP (J:=fun l a h=>∃ m',m'<m+1/\∃ r ρ0 e0 s0 e0',findLabel c l=some r/\oy step c m' r e0 s0=some (x,e1,s1)/\Le ρ ρ0/\Rel C h0 ρ0 s0.σ h/\ER ρ0 e0 e0'/\gu ⟨n,[]⟩ e0' a) (Q:=Q) hg;rw [hl3];intro ρ1 e3 a1 h3 le1 R1 er1 g1;exact ⟨m,Nat.lt_succ_self m,r',ρ1,e2,s2,e3,hl2,h2,le.trans le1,R1,er1,g1⟩
 refine Dn Nat.lt_wfRel.wf (fun l m a h=>∃ r ρ0 e0 s0 e0',findLabel c l=some r/\oy step c m r e0 s0=some (x,e1,s1)/\Le ρ ρ0/\Rel C h0 ρ0 s0.σ h/\ER ρ0 e0 e0'/\gu ⟨n,[]⟩ e0' a) ?_ ?_
 ·refine rK ?_ (go k c ρ e s e' a h hx (Le.refl _) R er g);intro y a h hq;cases hg:zI c y with
  | none=>rw [Bk hg] at hq ⊢; exact hq
  | some r' =>
   obtain ⟨l,hl1,_,hl3⟩:=wP (J:=fun l a h=>∃ m,∃ r ρ0 e0 s0 e0',findLabel c l=some r/\oy step c m r e0 s0=some (x,e1,s1)/\Le ρ ρ0/\Rel C h0 ρ0 s0.σ h/\ER ρ0 e0 e0'/\gu ⟨n,[]⟩ e0' a) (Q:=Q) hg;obtain ⟨l2,hl4,_,hl5⟩:=wP (J:=fun l a h=>∃ m',m'<k/\∃ r ρ0 e0 s0 e0',findLabel c l=some r/\oy step c m' r e0 s0=some (x,e1,s1)/\Le ρ ρ0/\Rel C h0 ρ0 s0.σ h/\ER ρ0 e0 e0'/\gu ⟨n,[]⟩ e0' a) (Q:=Q) hg;rw [hl5] at hq;have hll:=hl1.symm.trans hl4;cases hll;rw [hl3];obtain ⟨m',_,hq⟩:=hq;exact ⟨m',hq⟩
 ·rintro l m a h ⟨r,ρ0,e0,s0,e0',hl,hx,le,R,er,g⟩;exact ⟨r,hl,go m r ρ0 e0 s0 e0' a h hx le R er g⟩
def Pp {id:Nat} {x:Exit} (h:Cf id x=true):x=.exit id:=by
 cases x <;> first | (cases h; done) | skip
 rename_i i;have h:Nat.beq i id=true:=h;rw [Xg h]
def Ez {id:Nat} {Q:Exit->Act->Hp->Prop} {x:Exit} (h:Cf id x=false):lO id Q x=Q x:=by
 funext a h'
 cases x <;> first | rfl | skip
 rename_i i;have h:Nat.beq i id=false:=h
 have:¬ i=id:=fun hh=>by subst hh; rw [Nat.beq_refl] at h; cases h
 simp only [lO,if_neg this]
def Ee (O:Ok C) (hm:C.P.follows .mixedOrders=true) {call:fV} (CO:mZ C h0 call):∀ (fu:Nat) (c:Code),zt C h0 n (lN C call n fu c) c:=by
 intro fu
 induction fu with
 | zero=>intro c e s x e1 s1 hx; cases hx
 | succ fu ih =>
  intro c e s x e1 s1 hx ρ e' a h Q R er g hk;unfold lN at hx;cases c <;> simp only at hx
  case skip=>cases hx; exact Ia (hk ρ e' a h (Le.refl _) R er g)
  case label l=>cases hx; exact Ea (hk ρ e' a h (Le.refl _) R er g)
  case exit i=>cases hx; exact Ib (hk ρ e' a h (Le.refl _) R er g)
  case goto l=>cases hx; exact HA (hk ρ e' a h (Le.refl _) R er g)
  case ret=>cases hx; exact MY (hk ρ e' a h (Le.refl _) R er g)
  case seq c1 c2 =>
   obtain ⟨⟨y,e2,s2⟩,h1,h2⟩:=W1.1 (show (lN C call n fu c1 e s).bind _=some (x,e1,s1) from hx);simp only at h2;refine Ce (ih c1 e s y e2 s2 h1 ρ e' a h _ R er g ?_);cases hn:vB y with
   | true =>
    rw [hn] at h2;rw [Hx hn];intro ρ1 e3 a1 h3 le1 R1 er1 g1;exact ih c2 e2 s2 x e1 s1 h2 ρ1 e3 a1 h3 Q R1 er1 g1 (hk.mono le1)
   | false =>
    rw [hn] at h2;cases h2;rw [yA hn];exact hk
  case cond c c1 c2 =>
   unfold QZ at hx;split at hx
   ·rename_i hc;obtain ⟨v',h1,h2⟩:=F8 R er hc;cases h2;exact CQ (g.ev h1) (fun _=>ih c1 e s x e1 s1 hx ρ e' a h Q R er g hk) (fun hf=>by cases hf)
   ·rename_i hc;obtain ⟨v',h1,h2⟩:=F8 R er hc;cases h2;exact CQ (g.ev h1) (fun hf=>by cases hf) (fun _=>ih c2 e s x e1 s1 hx ρ e' a h Q R er g hk)
   ·cases hx
  case block id c =>
   obtain ⟨⟨y,e2,s2⟩,h1,h2⟩:=W1.1 (show (lN C call n fu c e s).bind _=some (x,e1,s1) from hx);simp only at h2;refine EF (ih c e s y e2 s2 h1 ρ e' a h _ R er g ?_);cases hn:Cf id y with
   | true =>
    rw [hn] at h2;cases h2;rw [Pp hn];intro ρ1 e3 a1 h3 le1 R1 er1 g1;simp only [lO,if_pos];exact hk ρ1 e3 a1 h3 le1 R1 er1 g1
   | false =>
    rw [hn] at h2;cases h2;rw [Ez hn];exact hk
  case region id ops draw =>
   obtain ⟨⟨e2,s2⟩,h1,h2⟩:=W1.1 hx;cases h2;exact J8 O hm CO h1 R er g hk
  case loop c=>exact P3 (ih c) _ e s x e1 s1 hx ρ e' a h Q R er g hk
  case scope c=>exact KQ ih c _ e s x e1 s1 hx ρ e' a h Q R er g hk
  all_goals (cases hx)
theorem Ef:∀ (l:List ZB) (i t:Nat) (v:ZB),i<=t->l[t-i]?=some v->cM (tI i l) t=some v
 | [],i,t,v,_,h=>by simp at h
 | u::l,i,t,v,hi,h=>by
  simp only [tI,du]
  by_cases hh:i=t
  ·subst hh;rw [Xb rfl];simpa using h
  ·rw [W6 hh];refine Ef l (i+1) t v ad ?_;rw [show t-i=(t-(i+1))+1 from ad,YV] at h;exact h
theorem Ec:∀ (l:List ZB) (i t:Nat) (v:ZB),(GY i l).get t=some v->i<=t/\l[t-i]?=some v
 | [],i,t,v,h=>by simp [GY,dI.get_nil] at h
 | u::l,i,t,v,h=>by
  simp only [GY] at h;rw [dI.vp] at h
  by_cases hh:t=i
  ·subst hh;rw [Xb rfl] at h;cases h;exact ⟨Xk _,aj⟩
  ·rw [W6 hh] at h;obtain ⟨h1,h2⟩:=Ec l (i+1) t v h;refine ⟨ad,?_⟩;rw [show t-i=(t-(i+1))+1 from ad,YV];exact h2
def O2 {ρ:gn} {l l':List ZB} (h:dQ ρ l l'):ER ρ (GY 0 l) (tI 0 l'):=by
 intro t v ht;obtain ⟨h1,h2⟩:=Ec l 0 t v ht;obtain ⟨v',h3,h4⟩:=h.get h2;exact ⟨v',Ef l' 0 t v' h1 h3,h4⟩
theorem CC {ρ:gn} {s:CS} {h:Hp} {e:Ev} {e':Env} {K:ZB->Hp->Prop} (R:Rel C h0 ρ s.σ h) (er:ER ρ e e'):∀ {rs:List ResultVar} {l:List ZB},Jx C s e rs=some l->∃ l',dQ ρ l l'/\∀ k:List ZB->T,k l' [] K h->wm C.P rs e' k [] K h
 | [],l,hx=>by
  cases (show some []=some l from hx);exact ⟨[],.nil,fun k hk=>hk⟩
 | r::rs,l,hx=>by
  obtain ⟨v,hv,hx⟩:=W1.1 (show (RA C s e r).bind _=some l from hx);obtain ⟨l2,hl,hx⟩:=W1.1 hx;cases hx;obtain ⟨l',h1,h2⟩:=CC R er hl;cases r with
  | tmp t =>
   obtain ⟨v',h3,_,h4⟩:=bP (x:=.tmp t) R er hv;refine ⟨v'::l',.cons h3 h1,fun k hk=>?_⟩;unfold wm;rw [h4];exact h2 _ hk
  | cell a t =>
   obtain ⟨p,hp,hv⟩:=W1.1 (show (e.get a).bind _=some v from hv);obtain ⟨⟨b,off,c,u⟩,hc,hv⟩:=W1.1 hv;cases hv;obtain ⟨p',h3,_,h4⟩:=bP (x:=.tmp a) R er hp;obtain ⟨pl,c',u',k1,k2,k3,k4,k5⟩:=zp R h3 hc;refine ⟨u'::l',.cons k3 h1,fun k hk=>?_⟩;unfold wm;rw [h4];exact k5 (fun _ _ v=>wm C.P rs e' fun l=>k (v::l)) [] K (h2 _ hk)
def LX {ρ:gn} {l l':List ZB} (h:dQ ρ l l'):VR ρ (one l) (one l'):=by
 cases h with
 | nil=>exact .tuple .nil
 | cons h t=>cases t with
  | nil=>exact h
  | cons h2 t=>exact .tuple (.cons h (.cons h2 t))
def Ou (O:Ok C) (hm:C.P.follows .mixedOrders=true):∀ fu,mZ C h0 (TA C fu):=by
 intro fu
 induction fu with
 | zero=>intro f vs s v s1 hx; cases hx
 | succ fu ih =>
  intro f vs s v s1 hx ρ h vs' R hv;obtain ⟨fn,hf,hx⟩:=W1.1 (show (C.P.funcs[f]?).bind _=some (v,s1) from hx);unfold Rl at hx;obtain ⟨hl,hx⟩:=bq.1 hx;obtain ⟨c,hb,hx⟩:=W1.1 hx;obtain ⟨⟨x,e,s2⟩,hc,hx⟩:=W1.1 hx;obtain ⟨hr,hx⟩:=bq.1 (show fG _ _=some (v,s1) from hx);obtain ⟨l,hres,hx⟩:=W1.1 hx;cases hx;have hl':vs'.length<=fn.ntmps:=by rw [<- hv.length]; exact Xx hl
  have g:gu ⟨fn.ntmps,[]⟩ (tI 0 vs') { tmps:=vs'.toArray++Array.replicate (fn.ntmps-vs'.toArray.size) undef,defers:=[] }:=by
   refine ⟨by simp; omega,rfl,fun s v hv=>?_⟩;obtain ⟨_,h2⟩:=vZ vs' 0 s v hv;have hs:s<vs'.length:=by
    rcases XR s vs'.length with h | h
    ·exact h
    ·simp only [Nat.sub_zero] at h2; rw [XI h] at h2; cases h2
   simp only [Nat.sub_zero] at h2;simp [Array.getD_eq_getD_getElem?,Array.getElem?_append,hs];rw [W5 hs] at h2;exact Xo h2
  have hcw:cW C.P c (fun x a h'=>(x=.normal\/x=.ret)/\a.defers=[]/\∃ us,RV C.P h' a.tmps fn.results.toList us/\∃ ρ1,Le ρ ρ1/\Rel C h0 ρ1 s1.σ h'/\VR ρ1 (one l) (one us)) { tmps:=vs'.toArray++Array.replicate (fn.ntmps-vs'.toArray.size) undef,defers:=[] } h:=by
   refine Ee O hm ih 1000 c (GY 0 vs) s x e s1 hc ρ (tI 0 vs') _ h _ R (O2 hv) g ?_;intro ρ1 e2 a1 h1 le R1 er1 g1;refine ⟨?_,g1.defers,?_⟩
   ·cases x <;> first | exact .inl rfl | exact .inr rfl | (cases hr; done)
   ·obtain ⟨l',h3,h4⟩:=CC (K:=fun _ _=>True) R1 er1 hres;obtain ⟨us,h5,h6⟩:=rT g1 (h4 (fun us _ _ _=>us=l') rfl);subst h5;exact ⟨us,h6,ρ1,le,R1,LX h3⟩
  intro w hw;refine calls_of_wp hf hb (Code.wp_mono ?_ (hcw w w (dG.refl w) hw));rintro x a w' ⟨h1,hx,hd,us,hres,hk⟩;obtain ⟨h2,h3⟩:=qI (K:=fun v h'=>∃ ρ1,Le ρ ρ1/\Rel C h0 ρ1 s1.σ h'/\VR ρ1 (one l) v) hres hk;obtain ⟨v,w'',hr,hs,hR⟩:=oF _ w' _ h2
  have:=G0 _ h3 w' v w'' hr
  subst this;rcases hx with rfl | rfl
  ·exact ⟨hd,v,hr,v,rfl,h1,hR⟩
  ·exact ⟨hd,v,hr,v,rfl,h1,hR⟩
end
end Go.Sx.Cr
