/- Closed runs, part Q: code and functions over a store, and over the heap that it stands for: what the kernel reckons, the program's call does. Asked: of the context, what Ok says. -/
import Derived.Test.YtlpcncdglfjnoaaGreatDoorSxN
set_option linter.all false
set_option maxHeartbeats 4000000
namespace Go.Sx.Cr
section
variable {C:Cx} {h0:Hp} {n:Nat}
def End (C:Cx) (h0:Hp) (n:Nat) (ρ:fR) (σ:dB AO) (e:Ev) (q:Act->Hp->Prop):Prop :=
 ∀ ρ1 e2 a1 h1,Le ρ ρ1->Rel C h0 ρ1 σ h1->ER ρ1 e e2->gh ⟨n,[]⟩ e2 a1->q a1 h1
theorem End.mono {ρ ρ':fR} {σ:dB AO} {e:Ev} {q:Act->Hp->Prop} (le:Le ρ ρ') (h:End C h0 n ρ σ e q):End C h0 n ρ' σ e q:=fun ρ1 e2 a1 h1 le2=>h ρ1 e2 a1 h1 (le.trans le2)
def yO (C:Cx) (h0:Hp) (n:Nat) (step:Ev->CS->XS) (c:Code):Prop :=
 ∀ e s x e1 s1,step e s=some (x,e1,s1)->∀ ρ e' a h (Q:Exit->Act->Hp->Prop),Rel C h0 ρ s.σ h->ER ρ e e'->gh ⟨n,[]⟩ e' a->End C h0 n ρ s1.σ e1 (Q x)->cW C.P c Q a h
theorem J4 (O:Ok C) (hm:C.P.follows .mixedOrders=true) {call:fL} (CO:mE C h0 call) {id:Nat} {ops:Array Oper} {draw:Bool} {e e1:Ev} {s s1:CS} (hx:C6 C call n ops draw e s=some (e1,s1)) {ρ:fR} {e':Env} {a:Act} {h:Hp} {Q:Exit->Act->Hp->Prop}
  (R:Rel C h0 ρ s.σ h) (er:ER ρ e e') (g:gh ⟨n,[]⟩ e' a) (hk:End C h0 n ρ s1.σ e1 (Q .normal)):cW C.P (.region id ops draw) Q a h:=by
 let k:Env->T:=fun e2 _ _ h1=>∃ ρ1,Le ρ ρ1/\Rel C h0 ρ1 s1.σ h1/\ER ρ1 e1 e2
 have hq:∀ e2 a' h',k e2 [] (fun _ _=>True) h'->gh ⟨n,[]⟩ e2 a'->Fr (dstsOf ops) e' e2->Q .normal a' h':=by
  rintro e2 a' h' ⟨ρ1,le,R1,er1⟩ g1 _;exact hk ρ1 e2 a' h' le R1 er1 g1
 unfold C6 at hx;cases draw with
 | false =>
  simp only at hx;exact wK (n:=⟨n,[]⟩) hq (C3 O CO _ hx R er fun ρ1 h1 e2 le R1 er1=>⟨ρ1,le,R1,er1⟩) g
 | true =>
  simp only at hx;obtain ⟨hok,hx⟩:=bj.1 hx;obtain ⟨⟨e3,s3,p3⟩,h1,h2⟩:=WO.1 hx;cases h2;refine Wp (n:=⟨n,[]⟩) hm id ops e' k [] (fun _ _=>True) Q a h hq ?_ g;unfold uO;simp only [hok];exact nE O CO _ h1 R er (m:=[]) (m':=[]) trivial fun ρ1 h1 e2 le R1 er1=>⟨ρ1,le,R1,er1⟩
theorem Is {x:Exit} (h:wb x=true):x=.normal:=by cases x <;> first | rfl | cases h
theorem zX {next:Act->Hp->Prop} {Q:Exit->Act->Hp->Prop} {x:Exit} (h:wb x=false):M3 next Q x=Q x:=by cases x <;> first | rfl | cases h
theorem Qr {step:Ev->CS->XS} {c:Code} (ok:yO C h0 n step c):∀ k,yO C h0 n (HY step k) (.loop c):=by
 intro k e s x e1 s1 hx ρ e' a h Q R er g hk;refine H3 (fun m a h=>∃ ρ0 e0 s0 e0',HY step m e0 s0=some (x,e1,s1)/\Le ρ ρ0/\Rel C h0 ρ0 s0.σ h/\ER ρ0 e0 e0'/\gh ⟨n,[]⟩ e0' a) ⟨k,ρ,e,s,e',hx,Le.refl _,R,er,g⟩ ?_;rintro m a h ⟨ρ0,e0,s0,e0',hx,le,R,er,g⟩;cases m with
 | zero=>cases hx
 | succ m =>
  obtain ⟨⟨y,e2,s2⟩,h1,h2⟩:=WO.1 (show (step e0 s0).bind _=some (x,e1,s1) from hx);simp only at h2;cases hn:wb y with
  | true =>
   rw [hn] at h2;refine ok e0 s0 y e2 s2 h1 ρ0 e0' a h _ R er g ?_;rw [Is hn];intro ρ1 e3 a1 h3 le1 R1 er1 g1;exact ⟨m,Nat.lt_succ_self m,ρ1,e2,s2,e3,h2,le.trans le1,R1,er1,g1⟩
  | false =>
   rw [hn] at h2;cases h2;refine ok e0 s0 x e1 s1 h1 ρ0 e0' a h _ R er g ?_;rw [zX hn];exact hk.mono le
theorem BD {c:Code} {J:Nat->Act->Hp->Prop} {Q:Exit->Act->Hp->Prop} {x:Exit} (h:Ac c x=none):iT c J Q x=Q x:=by
 funext a h'
 cases x <;> first | rfl | skip
 rename_i l
 have:findLabel c l=none:=h
 simp only [iT,this]
theorem wh {c r:Code} {J:Nat->Act->Hp->Prop} {Q:Exit->Act->Hp->Prop} {x:Exit} (h:Ac c x=some r):∃ l,x=.goto l/\findLabel c l=some r/\iT c J Q x=J l:=by
 cases x <;> first | (cases h; done) | skip
 rename_i l;have h:findLabel c l=some r:=h;exact ⟨l,rfl,h,by funext a h'; simp only [iT,h]⟩
theorem KJ {step:Code->Ev->CS->XS} (ok:∀ r,yO C h0 n (step r) r) (c:Code) (k:Nat):yO C h0 n (pj step c k c) (.scope c):=by
 intro e s x e1 s1 hx ρ e' a h Q R er g hk
 have go:∀ (m:Nat) (r:Code) ρ0 e0 s0 e0' a h,pj step c m r e0 s0=some (x,e1,s1)->Le ρ ρ0->Rel C h0 ρ0 s0.σ h->ER ρ0 e0 e0'->gh ⟨n,[]⟩ e0' a ->
   cW C.P r (iT c (fun l a h=>∃ m',m'<m/\∃ r ρ0 e0 s0 e0',findLabel c l=some r/\pj step c m' r e0 s0=some (x,e1,s1)/\Le ρ ρ0/\Rel C h0 ρ0 s0.σ h/\ER ρ0 e0 e0'/\gh ⟨n,[]⟩ e0' a) Q) a h:=by
  intro m r ρ0 e0 s0 e0' a h hx le R er g;cases m with
  | zero=>cases hx
  | succ m =>
   obtain ⟨⟨y,e2,s2⟩,h1,h2⟩:=WO.1 (show (step r e0 s0).bind _=some (x,e1,s1) from hx);simp only at h2;refine ok r e0 s0 y e2 s2 h1 ρ0 e0' a h _ R er g ?_;cases hg:Ac c y with
   | none =>
    rw [hg] at h2;cases h2;rw [BD hg];exact hk.mono le
   | some r' =>
    rw [hg] at h2;obtain ⟨l,hl1,hl2,hl3⟩:=wh (J:=fun l a h=>∃ m',m'<m+1/\∃ r ρ0 e0 s0 e0',findLabel c l=some r/\pj step c m' r e0 s0=some (x,e1,s1)/\Le ρ ρ0/\Rel C h0 ρ0 s0.σ h/\ER ρ0 e0 e0'/\gh ⟨n,[]⟩ e0' a) (Q:=Q) hg;rw [hl3];intro ρ1 e3 a1 h3 le1 R1 er1 g1;exact ⟨m,Nat.lt_succ_self m,r',ρ1,e2,s2,e3,hl2,h2,le.trans le1,R1,er1,g1⟩
 refine FA Nat.lt_wfRel.wf (fun l m a h=>∃ r ρ0 e0 s0 e0',findLabel c l=some r/\pj step c m r e0 s0=some (x,e1,s1)/\Le ρ ρ0/\Rel C h0 ρ0 s0.σ h/\ER ρ0 e0 e0'/\gh ⟨n,[]⟩ e0' a) ?_ ?_
 ·refine rn ?_ (go k c ρ e s e' a h hx (Le.refl _) R er g);intro y a h hq;cases hg:Ac c y with
  | none=>rw [BD hg] at hq ⊢; exact hq
  | some r' =>
   obtain ⟨l,hl1,_,hl3⟩:=wh (J:=fun l a h=>∃ m,∃ r ρ0 e0 s0 e0',findLabel c l=some r/\pj step c m r e0 s0=some (x,e1,s1)/\Le ρ ρ0/\Rel C h0 ρ0 s0.σ h/\ER ρ0 e0 e0'/\gh ⟨n,[]⟩ e0' a) (Q:=Q) hg;obtain ⟨l2,hl4,_,hl5⟩:=wh (J:=fun l a h=>∃ m',m'<k/\∃ r ρ0 e0 s0 e0',findLabel c l=some r/\pj step c m' r e0 s0=some (x,e1,s1)/\Le ρ ρ0/\Rel C h0 ρ0 s0.σ h/\ER ρ0 e0 e0'/\gh ⟨n,[]⟩ e0' a) (Q:=Q) hg;rw [hl5] at hq;have hll:=hl1.symm.trans hl4;cases hll;rw [hl3];obtain ⟨m',_,hq⟩:=hq;exact ⟨m',hq⟩
 ·rintro l m a h ⟨r,ρ0,e0,s0,e0',hl,hx,le,R,er,g⟩;exact ⟨r,hl,go m r ρ0 e0 s0 e0' a h hx le R er g⟩
theorem PG {id:Nat} {x:Exit} (h:C2 id x=true):x=.exit id:=by
 cases x <;> first | (cases h; done) | skip
 rename_i i;have h:Nat.beq i id=true:=h;rw [W3 h]
theorem E4 {id:Nat} {Q:Exit->Act->Hp->Prop} {x:Exit} (h:C2 id x=false):kS id Q x=Q x:=by
 funext a h'
 cases x <;> first | rfl | skip
 rename_i i;have h:Nat.beq i id=false:=h
 have:¬ i=id:=fun hh=>by subst hh; rw [Nat.beq_refl] at h; cases h
 simp only [kS,if_neg this]
theorem Dr (O:Ok C) (hm:C.P.follows .mixedOrders=true) {call:fL} (CO:mE C h0 call):∀ (fu:Nat) (c:Code),yO C h0 n (lG C call n fu c) c:=by
 intro fu
 induction fu with
 | zero=>intro c e s x e1 s1 hx; cases hx
 | succ fu ih =>
  intro c e s x e1 s1 hx ρ e' a h Q R er g hk;unfold lG at hx;cases c <;> simp only at hx
  case skip=>cases hx; exact HD (hk ρ e' a h (Le.refl _) R er g)
  case label l=>cases hx; exact Dw (hk ρ e' a h (Le.refl _) R er g)
  case exit i=>cases hx; exact Il (hk ρ e' a h (Le.refl _) R er g)
  case goto l=>cases hx; exact IB (hk ρ e' a h (Le.refl _) R er g)
  case ret=>cases hx; exact Lo (hk ρ e' a h (Le.refl _) R er g)
  case seq c1 c2 =>
   obtain ⟨⟨y,e2,s2⟩,h1,h2⟩:=WO.1 (show (lG C call n fu c1 e s).bind _=some (x,e1,s1) from hx);simp only at h2;refine Cn (ih c1 e s y e2 s2 h1 ρ e' a h _ R er g ?_);cases hn:wb y with
   | true =>
    rw [hn] at h2;rw [Is hn];intro ρ1 e3 a1 h3 le1 R1 er1 g1;exact ih c2 e2 s2 x e1 s1 h2 ρ1 e3 a1 h3 Q R1 er1 g1 (hk.mono le1)
   | false =>
    rw [hn] at h2;cases h2;rw [zX hn];exact hk
  case cond c c1 c2 =>
   unfold Rg at hx;split at hx
   ·rename_i hc;obtain ⟨v',h1,h2⟩:=GH R er hc;cases h2;exact Cl (g.ev h1) (fun _=>ih c1 e s x e1 s1 hx ρ e' a h Q R er g hk) (fun hf=>by cases hf)
   ·rename_i hc;obtain ⟨v',h1,h2⟩:=GH R er hc;cases h2;exact Cl (g.ev h1) (fun hf=>by cases hf) (fun _=>ih c2 e s x e1 s1 hx ρ e' a h Q R er g hk)
   ·cases hx
  case block id c =>
   obtain ⟨⟨y,e2,s2⟩,h1,h2⟩:=WO.1 (show (lG C call n fu c e s).bind _=some (x,e1,s1) from hx);simp only at h2;refine Fi (ih c e s y e2 s2 h1 ρ e' a h _ R er g ?_);cases hn:C2 id y with
   | true =>
    rw [hn] at h2;cases h2;rw [PG hn];intro ρ1 e3 a1 h3 le1 R1 er1 g1;simp only [kS,if_pos];exact hk ρ1 e3 a1 h3 le1 R1 er1 g1
   | false =>
    rw [hn] at h2;cases h2;rw [E4 hn];exact hk
  case region id ops draw =>
   obtain ⟨⟨e2,s2⟩,h1,h2⟩:=WO.1 hx;cases h2;exact J4 O hm CO h1 R er g hk
  case loop c=>exact Qr (ih c) _ e s x e1 s1 hx ρ e' a h Q R er g hk
  case scope c=>exact KJ ih c _ e s x e1 s1 hx ρ e' a h Q R er g hk
  all_goals (cases hx)
theorem DF:∀ (l:List ZB) (i t:Nat) (v:ZB),i<=t->l[t-i]?=some v->cJ (tG i l) t=some v
 | [],i,t,v,_,h=>by simp at h
 | u::l,i,t,v,hi,h=>by
  simp only [tG,dl]
  by_cases hh:i=t
  ·subst hh;rw [W2 rfl];simpa using h
  ·rw [WV hh];refine DF l (i+1) t v ad ?_;rw [show t-i=(t-(i+1))+1 from ad,YA] at h;exact h
theorem Dn:∀ (l:List ZB) (i t:Nat) (v:ZB),(GV i l).get t=some v->i<=t/\l[t-i]?=some v
 | [],i,t,v,h=>by simp [GV,dB.get_nil] at h
 | u::l,i,t,v,h=>by
  simp only [GV] at h;rw [dB.uF] at h
  by_cases hh:t=i
  ·subst hh;rw [W2 rfl] at h;cases h;exact ⟨W9 _,aj⟩
  ·rw [WV hh] at h;obtain ⟨h1,h2⟩:=Dn l (i+1) t v h;refine ⟨ad,?_⟩;rw [show t-i=(t-(i+1))+1 from ad,YA];exact h2
theorem Qb {ρ:fR} {l l':List ZB} (h:dG ρ l l'):ER ρ (GV 0 l) (tG 0 l'):=by
 intro t v ht;obtain ⟨h1,h2⟩:=Dn l 0 t v ht;obtain ⟨v',h3,h4⟩:=h.get h2;exact ⟨v',DF l' 0 t v' h1 h3,h4⟩
theorem Cj {ρ:fR} {s:CS} {h:Hp} {e:Ev} {e':Env} {K:ZB->Hp->Prop} (R:Rel C h0 ρ s.σ h) (er:ER ρ e e'):∀ {rs:List ResultVar} {l:List ZB},IZ C s e rs=some l->∃ l',dG ρ l l'/\∀ k:List ZB->T,k l' [] K h->vR C.P rs e' k [] K h
 | [],l,hx=>by
  cases (show some []=some l from hx);exact ⟨[],.nil,fun k hk=>hk⟩
 | r::rs,l,hx=>by
  obtain ⟨v,hv,hx⟩:=WO.1 (show (QM C s e r).bind _=some l from hx);obtain ⟨l2,hl,hx⟩:=WO.1 hx;cases hx;obtain ⟨l',h1,h2⟩:=Cj R er hl;cases r with
  | tmp t =>
   obtain ⟨v',h3,_,h4⟩:=bH (x:=.tmp t) R er hv;refine ⟨v'::l',.cons h3 h1,fun k hk=>?_⟩;unfold vR;rw [h4];exact h2 _ hk
  | cell a t =>
   obtain ⟨p,hp,hv⟩:=WO.1 (show (e.get a).bind _=some v from hv);obtain ⟨⟨b,off,c,u⟩,hc,hv⟩:=WO.1 hv;cases hv;obtain ⟨p',h3,_,h4⟩:=bH (x:=.tmp a) R er hp;obtain ⟨pl,c',u',k1,k2,k3,k4,k5⟩:=zD R h3 hc;refine ⟨u'::l',.cons k3 h1,fun k hk=>?_⟩;unfold vR;rw [h4];exact k5 (fun _ _ v=>vR C.P rs e' fun l=>k (v::l)) [] K (h2 _ hk)
theorem Lx {ρ:fR} {l l':List ZB} (h:dG ρ l l'):VR ρ (one l) (one l'):=by
 cases h with
 | nil=>exact .tuple .nil
 | cons h t=>cases t with
  | nil=>exact h
  | cons h2 t=>exact .tuple (.cons h (.cons h2 t))
theorem Ix (O:Ok C) (hm:C.P.follows .mixedOrders=true):∀ fu,mE C h0 (O9 C fu):=by
 intro fu
 induction fu with
 | zero=>intro f vs s v s1 hx; cases hx
 | succ fu ih =>
  intro f vs s v s1 hx ρ h vs' R hv;obtain ⟨fn,hf,hx⟩:=WO.1 (show (C.P.funcs[f]?).bind _=some (v,s1) from hx);unfold QV at hx;obtain ⟨hl,hx⟩:=bj.1 hx;obtain ⟨c,hb,hx⟩:=WO.1 hx;obtain ⟨⟨x,e,s2⟩,hc,hx⟩:=WO.1 hx;obtain ⟨hr,hx⟩:=bj.1 (show fw _ _=some (v,s1) from hx);obtain ⟨l,hres,hx⟩:=WO.1 hx;cases hx;have hl':vs'.length<=fn.ntmps:=by rw [<- hv.length]; exact Xi hl
  have g:gh ⟨fn.ntmps,[]⟩ (tG 0 vs') { tmps:=vs'.toArray++Array.replicate (fn.ntmps-vs'.toArray.size) undef,defers:=[] }:=by
   refine ⟨by simp; omega,rfl,fun s v hv=>?_⟩;obtain ⟨_,h2⟩:=wB vs' 0 s v hv;have hs:s<vs'.length:=by
    rcases XE s vs'.length with h | h
    ·exact h
    ·simp only [Nat.sub_zero] at h2; rw [Xs h] at h2; cases h2
   simp only [Nat.sub_zero] at h2;simp [Array.getD_eq_getD_getElem?,Array.getElem?_append,hs];rw [WT hs] at h2;exact Xc h2
  have hcw:cW C.P c (fun x a h'=>(x=.normal\/x=.ret)/\a.defers=[]/\∃ us,Ta C.P h' a.tmps fn.results.toList us/\∃ ρ1,Le ρ ρ1/\Rel C h0 ρ1 s1.σ h'/\VR ρ1 (one l) (one us)) { tmps:=vs'.toArray++Array.replicate (fn.ntmps-vs'.toArray.size) undef,defers:=[] } h:=by
   refine Dr O hm ih 1000 c (GV 0 vs) s x e s1 hc ρ (tG 0 vs') _ h _ R (Qb hv) g ?_;intro ρ1 e2 a1 h1 le R1 er1 g1;refine ⟨?_,g1.defers,?_⟩
   ·cases x <;> first | exact .inl rfl | exact .inr rfl | (cases hr; done)
   ·obtain ⟨l',h3,h4⟩:=Cj (K:=fun _ _=>True) R1 er1 hres;obtain ⟨us,h5,h6⟩:=rS g1 (h4 (fun us _ _ _=>us=l') rfl);subst h5;exact ⟨us,h6,ρ1,le,R1,Lx h3⟩
  intro w hw;refine calls_of_wp hf hb (Code.wp_mono ?_ (hcw w w (dz.refl w) hw));rintro x a w' ⟨h1,hx,hd,us,hres,hk⟩;obtain ⟨h2,h3⟩:=rl (K:=fun v h'=>∃ ρ1,Le ρ ρ1/\Rel C h0 ρ1 s1.σ h'/\VR ρ1 (one l) v) hres hk;obtain ⟨v,w'',hr,hs,hR⟩:=oO _ w' _ h2
  have:=F4 _ h3 w' v w'' hr
  subst this;rcases hx with rfl | rfl
  ·exact ⟨hd,v,hr,v,rfl,h1,hR⟩
  ·exact ⟨hd,v,hr,v,rfl,h1,hR⟩
end
end Go.Sx.Cr
