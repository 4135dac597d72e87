/- Part of the framework. No condition. -/
import Derived.Test.YthbffkdafjboiaaGreatDoorSxN
set_option linter.all false
set_option maxHeartbeats 4000000
namespace Go.Sx.Cr
section
variable {C:Cx} {h0:Hp} {n:Nat}
def End (C:Cx) (h0:Hp) (n:Nat) (ρ:gF) (σ:dL AO) (e:Ev) (q:Act->Hp->Prop):Prop :=
 ∀ ρ1 e2 d h1,Le ρ ρ1->Rel C h0 ρ1 σ h1->ER ρ1 e e2->gK ⟨n,[]⟩ e2 d->q d h1
def End.mono {ρ ρ':gF} {σ:dL AO} {e:Ev} {q:Act->Hp->Prop} (le:Le ρ ρ') (h:End C h0 n ρ σ e q):End C h0 n ρ' σ e q:=fun ρ1 e2 j h1 d=>h ρ1 e2 j h1 (le.trans d)
def Af (C:Cx) (h0:Hp) (n:Nat) (step:Ev->CS->XS) (c:Code):Prop :=
 ∀ e s x e1 s1,step e s=some (x,e1,s1)->∀ ρ e' a h (Q:Exit->Act->Hp->Prop),Rel C h0 ρ s.σ h->ER ρ e e'->gK ⟨n,[]⟩ e' a->End C h0 n ρ s1.σ e1 (Q x)->cW C.P c Q a h
def La (O:Ok C) (hm:C.P.follows .mixedOrders=true) {call:fY} (F:nT C h0 call) {id:Nat} {ops:Array Oper} {draw:Bool} {e e1:Ev} {s s1:CS} (hx:DP C call n ops draw e s=some (e1,s1)) {ρ:gF} {e':Env} {a:Act} {h:Hp} {Q:Exit->Act->Hp->Prop}
  (R:Rel C h0 ρ s.σ h) (G:ER ρ e e') (g:gK ⟨n,[]⟩ e' a) (hk:End C h0 n ρ s1.σ e1 (Q .normal)):cW C.P (.region id ops draw) Q a h:=by
 let k:Env->T:=fun e2 _ _ h1=>∃ ρ1,Le ρ ρ1/\Rel C h0 ρ1 s1.σ h1/\ER ρ1 e1 e2
 have J:∀ e2 a' h',k e2 [] (fun _ _=>True) h'->gK ⟨n,[]⟩ e2 a'->Fr (dstsOf ops) e' e2->Q .normal a' h':=by
  rintro e2 a' h' ⟨ρ1,le,j,d⟩ g1 _;exact hk ρ1 e2 a' h' le j d g1
 unfold DP at hx;cases draw with
 | false =>
  simp only at hx;exact wK (n:=⟨n,[]⟩) J (Dv O F _ hx R G fun ρ1 h1 e2 le j d=>⟨ρ1,le,j,d⟩) g
 | true =>
  simp only at hx;obtain ⟨u,hx⟩:=bF.1 hx;obtain ⟨⟨U,V,p3⟩,h1,h2⟩:=Yt.1 hx;cases h2;refine XP (n:=⟨n,[]⟩) hm id ops e' k [] (fun _ _=>True) Q a h J ?_ g;unfold vK;simp only [u];exact oP O F _ h1 R G (m:=[]) (m':=[]) trivial fun ρ1 h1 e2 le j d=>⟨ρ1,le,j,d⟩
def Is {x:Exit} (h:wC x=true):x=.normal:=by cases x <;> first | rfl | cases h
def zj {next:Act->Hp->Prop} {Q:Exit->Act->Hp->Prop} {x:Exit} (h:wC x=false):O7 next Q x=Q x:=by cases x <;> first | rfl | cases h
def RB {step:Ev->CS->XS} {c:Code} (ok:Af C h0 n step c):∀ k,Af C h0 n (I0 step k) (.loop c):=by
 intro k e s x e1 s1 hx ρ e' a h Q R j g hk;refine II (fun m a h=>∃ ρ0 e0 s0 d,I0 step m e0 s0=some (x,e1,s1)/\Le ρ ρ0/\Rel C h0 ρ0 s0.σ h/\ER ρ0 e0 d/\gK ⟨n,[]⟩ d a) ⟨k,ρ,e,s,e',hx,Le.refl _,R,j,g⟩ ?_;rintro m a h ⟨ρ0,e0,s0,d,hx,le,R,j,g⟩;cases m with
 | zero=>cases hx
 | succ m =>
  obtain ⟨⟨y,e2,G⟩,h1,h2⟩:=Yt.1 (show (step e0 s0).bind _=some (x,e1,s1) from hx);simp only at h2;cases hn:wC y with
  | true =>
   rw [hn] at h2;refine ok e0 s0 y e2 G h1 ρ0 d a h _ R j g ?_;rw [Is hn];intro ρ1 J U h3 u O F g1;exact ⟨m,Nat.lt_succ_self m,ρ1,e2,G,J,h2,le.trans u,O,F,g1⟩
  | false =>
   rw [hn] at h2;cases h2;refine ok e0 s0 x e1 s1 h1 ρ0 d a h _ R j g ?_;rw [zj hn];exact hk.mono le
def Cc {c:Code} {J:Nat->Act->Hp->Prop} {Q:Exit->Act->Hp->Prop} {x:Exit} (h:Ay c x=none):jk c J Q x=Q x:=by
 funext a h'
 cases x <;> first | rfl | skip
 rename_i l
 have:findLabel c l=none:=h
 simp only [jk,this]
def xy {c r:Code} {J:Nat->Act->Hp->Prop} {Q:Exit->Act->Hp->Prop} {x:Exit} (h:Ay c x=some r):∃ l,x=.goto l/\findLabel c l=some r/\jk c J Q x=J l:=by
 cases x <;> first | (cases h; done) | skip
 rename_i l;have h:findLabel c l=some r:=h;exact ⟨l,rfl,h,by funext a h'; simp only [jk,h]⟩
def Ma {step:Code->Ev->CS->XS} (ok:∀ r,Af C h0 n (step r) r) (c:Code) (k:Nat):Af C h0 n (pj step c k c) (.scope c):=by
 intro e s x e1 s1 hx ρ e' a h Q R G g hk
 have go:∀ (m:Nat) (r:Code) ρ0 e0 s0 d a h,pj step c m r e0 s0=some (x,e1,s1)->Le ρ ρ0->Rel C h0 ρ0 s0.σ h->ER ρ0 e0 d->gK ⟨n,[]⟩ d a ->
   cW C.P r (jk c (fun l a h=>∃ m',m'<m/\∃ r ρ0 e0 s0 d,findLabel c l=some r/\pj step c m' r e0 s0=some (x,e1,s1)/\Le ρ ρ0/\Rel C h0 ρ0 s0.σ h/\ER ρ0 e0 d/\gK ⟨n,[]⟩ d a) Q) a h:=by
  intro m r ρ0 e0 s0 d a h hx le R G g;cases m with
  | zero=>cases hx
  | succ m =>
   obtain ⟨⟨y,e2,s2⟩,h1,h2⟩:=Yt.1 (show (step r e0 s0).bind _=some (x,e1,s1) from hx);simp only at h2;refine ok r e0 s0 y e2 s2 h1 ρ0 d a h _ R G g ?_;cases j:Ay c y with
   | none =>
    rw [j] at h2;cases h2;rw [Cc j];exact hk.mono le
   | some r' =>
    rw [j] at h2;obtain ⟨l,O,U,u⟩:=xy (J:=fun l a h=>∃ m',m'<m+1/\∃ r ρ0 e0 s0 d,findLabel c l=some r/\pj step c m' r e0 s0=some (x,e1,s1)/\Le ρ ρ0/\Rel C h0 ρ0 s0.σ h/\ER ρ0 e0 d/\gK ⟨n,[]⟩ d a) (Q:=Q) j;rw [u];intro ρ1 e3 a1 h3 V R1 X g1;exact ⟨m,Nat.lt_succ_self m,r',ρ1,e2,s2,e3,U,h2,le.trans V,R1,X,g1⟩
 refine Eb Nat.lt_wfRel.wf (fun l m a h=>∃ r ρ0 e0 s0 d,findLabel c l=some r/\pj step c m r e0 s0=some (x,e1,s1)/\Le ρ ρ0/\Rel C h0 ρ0 s0.σ h/\ER ρ0 e0 d/\gK ⟨n,[]⟩ d a) ?_ ?_
 ·refine sH ?_ (go k c ρ e s e' a h hx (Le.refl _) R G g);intro y a h F;cases j:Ay c y with
  | none=>rw [Cc j] at F ⊢; exact F
  | some r' =>
   obtain ⟨l,O,_,u⟩:=xy (J:=fun l a h=>∃ m,∃ r ρ0 e0 s0 d,findLabel c l=some r/\pj step c m r e0 s0=some (x,e1,s1)/\Le ρ ρ0/\Rel C h0 ρ0 s0.σ h/\ER ρ0 e0 d/\gK ⟨n,[]⟩ d a) (Q:=Q) j;obtain ⟨l2,Y,_,Z⟩:=xy (J:=fun l a h=>∃ m',m'<k/\∃ r ρ0 e0 s0 d,findLabel c l=some r/\pj step c m' r e0 s0=some (x,e1,s1)/\Le ρ ρ0/\Rel C h0 ρ0 s0.σ h/\ER ρ0 e0 d/\gK ⟨n,[]⟩ d a) (Q:=Q) j;rw [Z] at F;have hll:=O.symm.trans Y;cases hll;rw [u];obtain ⟨m',_,F⟩:=F;exact ⟨m',F⟩
 ·rintro l m a h ⟨r,ρ0,e0,s0,d,hl,hx,le,R,G,g⟩;exact ⟨r,hl,go m r ρ0 e0 s0 d a h hx le R G g⟩
def QX {id:Nat} {x:Exit} (h:C9 id x=true):x=.exit id:=by
 cases x <;> first | (cases h; done) | skip
 rename_i i;have h:Nat.beq i id=true:=h;rw [YL h]
def FA {id:Nat} {Q:Exit->Act->Hp->Prop} {x:Exit} (h:C9 id x=false):mz id Q x=Q x:=by
 funext a h'
 cases x <;> first | rfl | skip
 rename_i i;have h:Nat.beq i id=false:=h
 have:¬ i=id:=fun d=>by subst d; rw [Nat.beq_refl] at h; cases h
 simp only [mz,if_neg this]
def Fc (O:Ok C) (hm:C.P.follows .mixedOrders=true) {call:fY} (CO:nT C h0 call):∀ (fu:Nat) (c:Code),Af C h0 n (mw C call n fu c) c:=by
 intro fu
 induction fu with
 | zero=>intro c e s x e1 s1 hx; cases hx
 | succ fu j =>
  intro c e s x e1 s1 hx ρ e' a h Q R d g hk;unfold mw at hx;cases c <;> simp only at hx
  case skip=>cases hx; exact I9 (hk ρ e' a h (Le.refl _) R d g)
  case label l=>cases hx; exact E4 (hk ρ e' a h (Le.refl _) R d g)
  case exit i=>cases hx; exact Ja (hk ρ e' a h (Le.refl _) R d g)
  case goto l=>cases hx; exact Iv (hk ρ e' a h (Le.refl _) R d g)
  case ret=>cases hx; exact Of (hk ρ e' a h (Le.refl _) R d g)
  case seq J U =>
   obtain ⟨⟨y,e2,G⟩,h1,h2⟩:=Yt.1 (show (mw C call n fu J e s).bind _=some (x,e1,s1) from hx);simp only at h2;refine C8 (j J e s y e2 G h1 ρ e' a h _ R d g ?_);cases hn:wC y with
   | true =>
    rw [hn] at h2;rw [Is hn];intro ρ1 V X h3 u Y F g1;exact j U e2 G x e1 s1 h2 ρ1 V X h3 Q Y F g1 (hk.mono u)
   | false =>
    rw [hn] at h2;cases h2;rw [zj hn];exact hk
  case cond c J U =>
   unfold SA at hx;split at hx
   ·rename_i hc;obtain ⟨v',h1,h2⟩:=GZ R d hc;cases h2;exact DE (g.ev h1) (fun _=>j J e s x e1 s1 hx ρ e' a h Q R d g hk) (fun Z=>by cases Z)
   ·rename_i hc;obtain ⟨v',h1,h2⟩:=GZ R d hc;cases h2;exact DE (g.ev h1) (fun Z=>by cases Z) (fun _=>j U e s x e1 s1 hx ρ e' a h Q R d g hk)
   ·cases hx
  case block id c =>
   obtain ⟨⟨y,e2,G⟩,h1,h2⟩:=Yt.1 (show (mw C call n fu c e s).bind _=some (x,e1,s1) from hx);simp only at h2;refine FG (j c e s y e2 G h1 ρ e' a h _ R d g ?_);cases hn:C9 id y with
   | true =>
    rw [hn] at h2;cases h2;rw [QX hn];intro ρ1 V X h3 u Y F g1;simp only [mz,if_pos];exact hk ρ1 V X h3 u Y F g1
   | false =>
    rw [hn] at h2;cases h2;rw [FA hn];exact hk
  case region id ops draw =>
   obtain ⟨⟨e2,G⟩,h1,h2⟩:=Yt.1 hx;cases h2;exact La O hm CO h1 R d g hk
  case loop c=>exact RB (j c) _ e s x e1 s1 hx ρ e' a h Q R d g hk
  case scope c=>exact Ma j c _ e s x e1 s1 hx ρ e' a h Q R d g hk
  all_goals (cases hx)
theorem Fe:∀ (l:List Xab) (i t:Nat) (v:Xab),i<=t->l[t-i]?=some v->cQ (uy i l) t=some v
 | [],i,t,v,_,h=>by simp at h
 | u::l,i,t,v,hi,h=>by
  simp only [uy,dB]
  by_cases d:i=t
  ·subst d;rw [YC rfl];simpa using h
  ·rw [Yx d];refine Fe l (i+1) t v ad ?_;rw [show t-i=(t-(i+1))+1 from ad,as9] at h;exact h
theorem Fa:∀ (l:List Xab) (i t:Nat) (v:Xab),(HP i l).get t=some v->i<=t/\l[t-i]?=some v
 | [],i,t,v,h=>by simp [HP,dL.get_nil] at h
 | u::l,i,t,v,h=>by
  simp only [HP] at h;rw [dL.wu] at h
  by_cases d:t=i
  ·subst d;rw [YC rfl] at h;cases h;exact ⟨YI _,aj⟩
  ·rw [Yx d] at h;obtain ⟨h1,h2⟩:=Fa l (i+1) t v h;refine ⟨ad,?_⟩;rw [show t-i=(t-(i+1))+1 from ad,as9];exact h2
def Qu {ρ:gF} {l l':List Xab} (h:dS ρ l l'):ER ρ (HP 0 l) (uy 0 l'):=by
 intro t v d;obtain ⟨h1,h2⟩:=Fa l 0 t v d;obtain ⟨v',h3,h4⟩:=h.get h2;exact ⟨v',Fe l' 0 t v' h1 h3,h4⟩
theorem Ds {ρ:gF} {s:CS} {h:Hp} {e:Ev} {e':Env} {K:Xab->Hp->Prop} (R:Rel C h0 ρ s.σ h) (d:ER ρ e e'):∀ {rs:List ResultVar} {l:List Xab},Kx C s e rs=some l->∃ l',dS ρ l l'/\∀ k:List Xab->T,k l' [] K h->xe C.P rs e' k [] K h
 | [],l,hx=>by
  cases (show some []=some l from hx);exact ⟨[],.nil,fun k hk=>hk⟩
 | r::rs,l,hx=>by
  obtain ⟨v,hv,hx⟩:=Yt.1 (show (Tm C s e r).bind _=some l from hx);obtain ⟨O,hl,hx⟩:=Yt.1 hx;cases hx;obtain ⟨l',h1,h2⟩:=Ds R d hl;cases r with
  | tmp t =>
   obtain ⟨v',h3,_,h4⟩:=bS (x:=.tmp t) R d hv;refine ⟨v'::l',.cons h3 h1,fun k hk=>?_⟩;unfold xe;rw [h4];exact h2 _ hk
  | cell a t =>
   obtain ⟨p,j,hv⟩:=Yt.1 (show (e.get a).bind _=some v from hv);obtain ⟨⟨b,off,c,u⟩,hc,hv⟩:=Yt.1 hv;cases hv;obtain ⟨p',h3,_,h4⟩:=bS (x:=.tmp a) R d j;obtain ⟨pl,c',F,U,V,G,X,J⟩:=Ac R h3 hc;refine ⟨F::l',.cons G h1,fun k hk=>?_⟩;unfold xe;rw [h4];exact J (fun _ _ v=>xe C.P rs e' fun l=>k (v::l)) [] K (h2 _ hk)
def M8 {ρ:gF} {l l':List Xab} (h:dS ρ l l'):VR ρ (one l) (one l'):=by
 cases h with
 | nil=>exact .tuple .nil
 | cons h t=>cases t with
  | nil=>exact h
  | cons h2 t=>exact .tuple (.cons h (.cons h2 t))
def PU (O:Ok C) (hm:C.P.follows .mixedOrders=true):∀ fu,nT C h0 (U8 C fu):=by
 intro fu
 induction fu with
 | zero=>intro f vs s v s1 hx; cases hx
 | succ fu X =>
  intro f vs s v s1 hx ρ h vs' R hv;obtain ⟨fn,Y,hx⟩:=Yt.1 (show (C.P.funcs[f]?).bind _=some (v,s1) from hx);unfold S4 at hx;obtain ⟨hl,hx⟩:=bF.1 hx;obtain ⟨c,Z,hx⟩:=Yt.1 hx;obtain ⟨⟨x,e,s2⟩,hc,hx⟩:=Yt.1 hx;obtain ⟨j,hx⟩:=bF.1 (show fF _ _=some (v,s1) from hx);obtain ⟨l,d,hx⟩:=Yt.1 hx;cases hx;have hl':vs'.length<=fn.ntmps:=by rw [<- hv.length]; exact Y2 hl
  have g:gK ⟨fn.ntmps,[]⟩ (uy 0 vs') { tmps:=vs'.toArray++Array.replicate (fn.ntmps-vs'.toArray.size) undef,defers:=[] }:=by
   refine ⟨by simp; omega,rfl,fun s v hv=>?_⟩;obtain ⟨_,h2⟩:=wX vs' 0 s v hv;have hs:s<vs'.length:=by
    rcases Zn s vs'.length with h | h
    ·exact h
    ·simp only [Nat.sub_zero] at h2; rw [Y9 h] at h2; cases h2
   simp only [Nat.sub_zero] at h2;simp [Array.getD_eq_getD_getElem?,Array.getElem?_append,hs];rw [Yv hs] at h2;exact YR h2
  have u:cW C.P c (fun x a h'=>(x=.normal\/x=.ret)/\a.defers=[]/\∃ us,TE C.P h' a.tmps fn.results.toList us/\∃ ρ1,Le ρ ρ1/\Rel C h0 ρ1 s1.σ h'/\VR ρ1 (one l) (one us)) { tmps:=vs'.toArray++Array.replicate (fn.ntmps-vs'.toArray.size) undef,defers:=[] } h:=by
   refine Fc O hm X 1000 c (HP 0 vs) s x e s1 hc ρ (uy 0 vs') _ h _ R (Qu hv) g ?_;intro ρ1 e2 a1 h1 le J F g1;refine ⟨?_,g1.defers,?_⟩
   ·cases x <;> first | exact .inl rfl | exact .inr rfl | (cases j; done)
   ·obtain ⟨l',h3,h4⟩:=Ds (K:=fun _ _=>True) J F d;obtain ⟨us,h5,h6⟩:=sP g1 (h4 (fun us _ _ _=>us=l') rfl);subst h5;exact ⟨us,h6,ρ1,le,J,M8 h3⟩
  intro w hw;refine calls_of_wp Y Z (Code.wp_mono ?_ (u w w (dK.refl w) hw));rintro x a w' ⟨h1,hx,U,us,d,hk⟩;obtain ⟨h2,h3⟩:=rA (K:=fun v h'=>∃ ρ1,Le ρ ρ1/\Rel C h0 ρ1 s1.σ h'/\VR ρ1 (one l) v) d hk;obtain ⟨v,G,j,hs,V⟩:=pz _ w' _ h2
  have:=HR _ h3 w' v G j
  subst this;rcases hx with rfl | rfl
  ·exact ⟨U,v,j,v,rfl,h1,V⟩
  ·exact ⟨U,v,j,v,rfl,h1,V⟩
end
end Go.Sx.Cr
