/- Part of the framework. No condition. -/
import Derived.Test.YthbffkdafjboiaaGreatDoorSxN
set_option linter.all false
set_option maxHeartbeats 4000000
namespace Go.Sx.Cr
section
variable {C:Cx} {h0:Hp} {n:Nat}
def End (C:Cx) (h0:Hp) (n:Nat) (ρ:gn) (σ:dK AO) (e:Ev) (q:Act->Hp->Prop):Prop :=
 ∀ ρ1 e2 j h1,Le ρ ρ1->Rel C h0 ρ1 σ h1->ER ρ1 e e2->gK ⟨n,[]⟩ e2 j->q j h1
def End.mono {ρ ρ':gn} {σ:dK AO} {e:Ev} {q:Act->Hp->Prop} (le:Le ρ ρ') (h:End C h0 n ρ σ e q):End C h0 n ρ' σ e q:=fun ρ1 e2 u h1 j=>h ρ1 e2 u h1 (le.trans j)
def zW (C:Cx) (h0:Hp) (n:Nat) (step:Ev->CS->XS) (c:Code):Prop :=
 ∀ e s x e1 s1,step e s=some (x,e1,s1)->∀ ρ e' a h (Q:Exit->Act->Hp->Prop),Rel C h0 ρ s.σ h->ER ρ e e'->gK ⟨n,[]⟩ e' a->End C h0 n ρ s1.σ e1 (Q x)->cW C.P c Q a h
def KP (O:Ok C) (hm:C.P.follows .mixedOrders=true) {call:gd} (J:nv C h0 call) {id:Nat} {ops:Array Oper} {draw:Bool} {e e1:Ev} {s s1:CS} (hx:Dz C call n ops draw e s=some (e1,s1)) {ρ:gn} {e':Env} {a:Act} {h:Hp} {Q:Exit->Act->Hp->Prop}
  (R:Rel C h0 ρ s.σ h) (U:ER ρ e e') (g:gK ⟨n,[]⟩ e' a) (hk:End C h0 n ρ s1.σ e1 (Q .normal)):cW C.P (.region id ops draw) Q a h:=by
 let k:Env->T:=fun e2 _ _ h1=>∃ ρ1,Le ρ ρ1/\Rel C h0 ρ1 s1.σ h1/\ER ρ1 e1 e2
 have V:∀ e2 a' h',k e2 [] (fun _ _=>True) h'->gK ⟨n,[]⟩ e2 a'->Fr (dstsOf ops) e' e2->Q .normal a' h':=by
  rintro e2 a' h' ⟨ρ1,le,u,j⟩ g1 _;exact hk ρ1 e2 a' h' le u j g1
 unfold Dz at hx;cases draw with
 | false =>
  simp only at hx;exact wx (n:=⟨n,[]⟩) V (De O J _ hx R U fun ρ1 h1 e2 le u j=>⟨ρ1,le,u,j⟩) g
 | true =>
  simp only at hx;obtain ⟨G,hx⟩:=bq.1 hx;obtain ⟨⟨X,Y,p3⟩,h1,h2⟩:=YZ.1 hx;cases h2;refine Yg (n:=⟨n,[]⟩) hm id ops e' k [] (fun _ _=>True) Q a h V ?_ g;unfold vl;simp only [G];exact ov O J _ h1 R U (m:=[]) (m':=[]) trivial fun ρ1 h1 e2 le u j=>⟨ρ1,le,u,j⟩
def H' {x:Exit} (h:wh x=true):x=.normal:=by cases x <;> first | rfl | cases h
def zd {next:Act->Hp->Prop} {Q:Exit->Act->Hp->Prop} {x:Exit} (h:wh x=false):OJ next Q x=Q x:=by cases x <;> first | rfl | cases h
def Q5 {step:Ev->CS->XS} {c:Code} (ok:zW C h0 n step c):∀ k,zW C h0 n (IK step k) (.loop c):=by
 intro k e s x e1 s1 hx ρ e' a h Q R u g hk;refine It (fun m a h=>∃ ρ0 e0 s0 j,IK step m e0 s0=some (x,e1,s1)/\Le ρ ρ0/\Rel C h0 ρ0 s0.σ h/\ER ρ0 e0 j/\gK ⟨n,[]⟩ j a) ⟨k,ρ,e,s,e',hx,Le.refl _,R,u,g⟩ ?_;rintro m a h ⟨ρ0,e0,s0,j,hx,le,R,u,g⟩;cases m with
 | zero=>cases hx
 | succ m =>
  obtain ⟨⟨y,e2,O⟩,h1,h2⟩:=YZ.1 (show (step e0 s0).bind _=some (x,e1,s1) from hx);simp only at h2;cases hn:wh y with
  | true =>
   rw [hn] at h2;refine ok e0 s0 y e2 O h1 ρ0 j a h _ R u g ?_;rw [H' hn];intro ρ1 U X h3 G V J g1;exact ⟨m,Nat.lt_succ_self m,ρ1,e2,O,U,h2,le.trans G,V,J,g1⟩
  | false =>
   rw [hn] at h2;cases h2;refine ok e0 s0 x e1 s1 h1 ρ0 j a h _ R u g ?_;rw [zd hn];exact hk.mono le
def BP {c:Code} {J:Nat->Act->Hp->Prop} {Q:Exit->Act->Hp->Prop} {x:Exit} (h:Ai c x=none):jk c J Q x=Q x:=by
 funext a h'
 cases x <;> first | rfl | skip
 rename_i l
 have:findLabel c l=none:=h
 simp only [jk,this]
def xj {c r:Code} {J:Nat->Act->Hp->Prop} {Q:Exit->Act->Hp->Prop} {x:Exit} (h:Ai c x=some r):∃ l,x=.goto l/\findLabel c l=some r/\jk c J Q x=J l:=by
 cases x <;> first | (cases h; done) | skip
 rename_i l;have h:findLabel c l=some r:=h;exact ⟨l,rfl,h,by funext a h'; simp only [jk,h]⟩
def LF {step:Code->Ev->CS->XS} (ok:∀ r,zW C h0 n (step r) r) (c:Code) (k:Nat):zW C h0 n (oP step c k c) (.scope c):=by
 intro e s x e1 s1 hx ρ e' a h Q R U g hk
 have go:∀ (m:Nat) (r:Code) ρ0 e0 s0 j a h,oP step c m r e0 s0=some (x,e1,s1)->Le ρ ρ0->Rel C h0 ρ0 s0.σ h->ER ρ0 e0 j->gK ⟨n,[]⟩ j a ->
   cW C.P r (jk c (fun l a h=>∃ m',m'<m/\∃ r ρ0 e0 s0 j,findLabel c l=some r/\oP step c m' r e0 s0=some (x,e1,s1)/\Le ρ ρ0/\Rel C h0 ρ0 s0.σ h/\ER ρ0 e0 j/\gK ⟨n,[]⟩ j a) Q) a h:=by
  intro m r ρ0 e0 s0 j a h hx le R U g;cases m with
  | zero=>cases hx
  | succ m =>
   obtain ⟨⟨y,e2,s2⟩,h1,h2⟩:=YZ.1 (show (step r e0 s0).bind _=some (x,e1,s1) from hx);simp only at h2;refine ok r e0 s0 y e2 s2 h1 ρ0 j a h _ R U g ?_;cases u:Ai c y with
   | none =>
    rw [u] at h2;cases h2;rw [BP u];exact hk.mono le
   | some r' =>
    rw [u] at h2;obtain ⟨l,V,X,G⟩:=xj (J:=fun l a h=>∃ m',m'<m+1/\∃ r ρ0 e0 s0 j,findLabel c l=some r/\oP step c m' r e0 s0=some (x,e1,s1)/\Le ρ ρ0/\Rel C h0 ρ0 s0.σ h/\ER ρ0 e0 j/\gK ⟨n,[]⟩ j a) (Q:=Q) u;rw [G];intro ρ1 e3 a1 h3 Y R1 Z g1;exact ⟨m,Nat.lt_succ_self m,r',ρ1,e2,s2,e3,X,h2,le.trans Y,R1,Z,g1⟩
 refine DX Nat.lt_wfRel.wf (fun l m a h=>∃ r ρ0 e0 s0 j,findLabel c l=some r/\oP step c m r e0 s0=some (x,e1,s1)/\Le ρ ρ0/\Rel C h0 ρ0 s0.σ h/\ER ρ0 e0 j/\gK ⟨n,[]⟩ j a) ?_ ?_
 ·refine r7 ?_ (go k c ρ e s e' a h hx (Le.refl _) R U g);intro y a h O;cases u:Ai c y with
  | none=>rw [BP u] at O ⊢; exact O
  | some r' =>
   obtain ⟨l,V,_,G⟩:=xj (J:=fun l a h=>∃ m,∃ r ρ0 e0 s0 j,findLabel c l=some r/\oP step c m r e0 s0=some (x,e1,s1)/\Le ρ ρ0/\Rel C h0 ρ0 s0.σ h/\ER ρ0 e0 j/\gK ⟨n,[]⟩ j a) (Q:=Q) u;obtain ⟨l2,hl4,_,hl5⟩:=xj (J:=fun l a h=>∃ m',m'<k/\∃ r ρ0 e0 s0 j,findLabel c l=some r/\oP step c m' r e0 s0=some (x,e1,s1)/\Le ρ ρ0/\Rel C h0 ρ0 s0.σ h/\ER ρ0 e0 j/\gK ⟨n,[]⟩ j a) (Q:=Q) u;rw [hl5] at O;have hll:=V.symm.trans hl4;cases hll;rw [G];obtain ⟨m',_,O⟩:=O;exact ⟨m',O⟩
 ·rintro l m a h ⟨r,ρ0,e0,s0,j,hl,hx,le,R,U,g⟩;exact ⟨r,hl,go m r ρ0 e0 s0 j a h hx le R U g⟩
def Qn {id:Nat} {x:Exit} (h:CQ id x=true):x=.exit id:=by
 cases x <;> first | (cases h; done) | skip
 rename_i i;have h:Nat.beq i id=true:=h;rw [Zf h]
def Fc {id:Nat} {Q:Exit->Act->Hp->Prop} {x:Exit} (h:CQ id x=false):lW id Q x=Q x:=by
 funext a h'
 cases x <;> first | rfl | skip
 rename_i i;have h:Nat.beq i id=false:=h
 have:¬ i=id:=fun j=>by subst j; rw [Nat.beq_refl] at h; cases h
 simp only [lW,if_neg this]
def EO (O:Ok C) (hm:C.P.follows .mixedOrders=true) {call:gd} (CO:nv C h0 call):∀ (fu:Nat) (c:Code),zW C h0 n (lV C call n fu c) c:=by
 intro fu
 induction fu with
 | zero=>intro c e s x e1 s1 hx; cases hx
 | succ fu u =>
  intro c e s x e1 s1 hx ρ e' a h Q R j g hk;unfold lV at hx;cases c <;> simp only at hx
  case skip=>cases hx; exact IN (hk ρ e' a h (Le.refl _) R j g)
  case label l=>cases hx; exact EK (hk ρ e' a h (Le.refl _) R j g)
  case exit i=>cases hx; exact IP (hk ρ e' a h (Le.refl _) R j g)
  case goto l=>cases hx; exact Ic (hk ρ e' a h (Le.refl _) R j g)
  case ret=>cases hx; exact NO (hk ρ e' a h (Le.refl _) R j g)
  case seq V X =>
   obtain ⟨⟨y,e2,U⟩,h1,h2⟩:=YZ.1 (show (lV C call n fu V e s).bind _=some (x,e1,s1) from hx);simp only at h2;refine CN (u V e s y e2 U h1 ρ e' a h _ R j g ?_);cases hn:wh y with
   | true =>
    rw [hn] at h2;rw [H' hn];intro ρ1 Y Z h3 G R1 J g1;exact u X e2 U x e1 s1 h2 ρ1 Y Z h3 Q R1 J g1 (hk.mono G)
   | false =>
    rw [hn] at h2;cases h2;rw [zd hn];exact hk
  case cond c V X =>
   unfold R6 at hx;split at hx
   ·rename_i hc;obtain ⟨v',h1,h2⟩:=GJ R j hc;cases h2;exact Dm (g.ev h1) (fun _=>u V e s x e1 s1 hx ρ e' a h Q R j g hk) (fun hf=>by cases hf)
   ·rename_i hc;obtain ⟨v',h1,h2⟩:=GJ R j hc;cases h2;exact Dm (g.ev h1) (fun hf=>by cases hf) (fun _=>u X e s x e1 s1 hx ρ e' a h Q R j g hk)
   ·cases hx
  case block id c =>
   obtain ⟨⟨y,e2,U⟩,h1,h2⟩:=YZ.1 (show (lV C call n fu c e s).bind _=some (x,e1,s1) from hx);simp only at h2;refine Fm (u c e s y e2 U h1 ρ e' a h _ R j g ?_);cases hn:CQ id y with
   | true =>
    rw [hn] at h2;cases h2;rw [Qn hn];intro ρ1 Y Z h3 G R1 J g1;simp only [lW,if_pos];exact hk ρ1 Y Z h3 G R1 J g1
   | false =>
    rw [hn] at h2;cases h2;rw [Fc hn];exact hk
  case region id ops draw =>
   obtain ⟨⟨e2,U⟩,h1,h2⟩:=YZ.1 hx;cases h2;exact KP O hm CO h1 R j g hk
  case loop c=>exact Q5 (u c) _ e s x e1 s1 hx ρ e' a h Q R j g hk
  case scope c=>exact LF u c _ e s x e1 s1 hx ρ e' a h Q R j g hk
  all_goals (cases hx)
theorem EP:∀ (l:List Xab) (i t:Nat) (v:Xab),i<=t->l[t-i]?=some v->cQ (ue i l) t=some v
 | [],i,t,v,_,h=>by simp at h
 | u::l,i,t,v,hi,h=>by
  simp only [ue,dA]
  by_cases j:i=t
  ·subst j;rw [Y8 rfl];simpa using h
  ·rw [Y2 j];refine EP l (i+1) t v ad ?_;rw [show t-i=(t-(i+1))+1 from ad,bv9] at h;exact h
theorem EM:∀ (l:List Xab) (i t:Nat) (v:Xab),(Hz i l).get t=some v->i<=t/\l[t-i]?=some v
 | [],i,t,v,h=>by simp [Hz,dK.get_nil] at h
 | u::l,i,t,v,h=>by
  simp only [Hz] at h;rw [dK.vW] at h
  by_cases j:t=i
  ·subst j;rw [Y8 rfl] at h;cases h;exact ⟨Zh _,aj⟩
  ·rw [Y2 j] at h;obtain ⟨h1,h2⟩:=EM l (i+1) t v h;refine ⟨ad,?_⟩;rw [show t-i=(t-(i+1))+1 from ad,bv9];exact h2
def P2 {ρ:gn} {l l':List Xab} (h:dS ρ l l'):ER ρ (Hz 0 l) (ue 0 l'):=by
 intro t v j;obtain ⟨h1,h2⟩:=EM l 0 t v j;obtain ⟨v',h3,h4⟩:=h.get h2;exact ⟨v',EP l' 0 t v' h1 h3,h4⟩
theorem Db {ρ:gn} {s:CS} {h:Hp} {e:Ev} {e':Env} {K:Xab->Hp->Prop} (R:Rel C h0 ρ s.σ h) (j:ER ρ e e'):∀ {rs:List ResultVar} {l:List Xab},Kd C s e rs=some l->∃ l',dS ρ l l'/\∀ k:List Xab->T,k l' [] K h->wT C.P rs e' k [] K h
 | [],l,hx=>by
  cases (show some []=some l from hx);exact ⟨[],.nil,fun k hk=>hk⟩
 | r::rs,l,hx=>by
  obtain ⟨v,hv,hx⟩:=YZ.1 (show (SR C s e r).bind _=some l from hx);obtain ⟨V,hl,hx⟩:=YZ.1 hx;cases hx;obtain ⟨l',h1,h2⟩:=Db R j hl;cases r with
  | tmp t =>
   obtain ⟨v',h3,_,h4⟩:=bS (x:=.tmp t) R j hv;refine ⟨v'::l',.cons h3 h1,fun k hk=>?_⟩;unfold wT;rw [h4];exact h2 _ hk
  | cell a t =>
   obtain ⟨p,G,hv⟩:=YZ.1 (show (e.get a).bind _=some v from hv);obtain ⟨⟨b,off,c,u⟩,hc,hv⟩:=YZ.1 hv;cases hv;obtain ⟨p',h3,_,h4⟩:=bS (x:=.tmp a) R j G;obtain ⟨pl,c',J,X,Y,O,Z,U⟩:=zT R h3 hc;refine ⟨J::l',.cons O h1,fun k hk=>?_⟩;unfold wT;rw [h4];exact U (fun _ _ v=>wT C.P rs e' fun l=>k (v::l)) [] K (h2 _ hk)
def MI {ρ:gn} {l l':List Xab} (h:dS ρ l l'):VR ρ (one l) (one l'):=by
 cases h with
 | nil=>exact .tuple .nil
 | cons h t=>cases t with
  | nil=>exact h
  | cons h2 t=>exact .tuple (.cons h (.cons h2 t))
def HV (O:Ok C) (hm:C.P.follows .mixedOrders=true):∀ fu,nv C h0 (RI C fu):=by
 intro fu
 induction fu with
 | zero=>intro f vs s v s1 hx; cases hx
 | succ fu Z =>
  intro f vs s v s1 hx ρ h vs' R hv;obtain ⟨fn,hf,hx⟩:=YZ.1 (show (C.P.funcs[f]?).bind _=some (v,s1) from hx);unfold Sz at hx;obtain ⟨hl,hx⟩:=bq.1 hx;obtain ⟨c,hb,hx⟩:=YZ.1 hx;obtain ⟨⟨x,e,s2⟩,hc,hx⟩:=YZ.1 hx;obtain ⟨u,hx⟩:=bq.1 (show fM _ _=some (v,s1) from hx);obtain ⟨l,j,hx⟩:=YZ.1 hx;cases hx;have hl':vs'.length<=fn.ntmps:=by rw [<- hv.length]; exact Zw hl
  have g:gK ⟨fn.ntmps,[]⟩ (ue 0 vs') { tmps:=vs'.toArray++Array.replicate (fn.ntmps-vs'.toArray.size) undef,defers:=[] }:=by
   refine ⟨by simp; omega,rfl,fun s v hv=>?_⟩;obtain ⟨_,h2⟩:=wJ vs' 0 s v hv;have hs:s<vs'.length:=by
    rcases ZS s vs'.length with h | h
    ·exact h
    ·simp only [Nat.sub_zero] at h2; rw [ZI h] at h2; cases h2
   simp only [Nat.sub_zero] at h2;simp [Array.getD_eq_getD_getElem?,Array.getElem?_append,hs];rw [Y1 hs] at h2;exact Zn h2
  have G:cW C.P c (fun x a h'=>(x=.normal\/x=.ret)/\a.defers=[]/\∃ us,Tg C.P h' a.tmps fn.results.toList us/\∃ ρ1,Le ρ ρ1/\Rel C h0 ρ1 s1.σ h'/\VR ρ1 (one l) (one us)) { tmps:=vs'.toArray++Array.replicate (fn.ntmps-vs'.toArray.size) undef,defers:=[] } h:=by
   refine EO O hm Z 1000 c (Hz 0 vs) s x e s1 hc ρ (ue 0 vs') _ h _ R (P2 hv) g ?_;intro ρ1 e2 a1 h1 le V J g1;refine ⟨?_,g1.defers,?_⟩
   ·cases x <;> first | exact .inl rfl | exact .inr rfl | (cases u; done)
   ·obtain ⟨l',h3,h4⟩:=Db (K:=fun _ _=>True) V J j;obtain ⟨us,h5,h6⟩:=sB g1 (h4 (fun us _ _ _=>us=l') rfl);subst h5;exact ⟨us,h6,ρ1,le,V,MI h3⟩
  intro w hw;refine calls_of_wp hf hb (Code.wp_mono ?_ (G w w (dI.refl w) hw));rintro x a w' ⟨h1,hx,X,us,j,hk⟩;obtain ⟨h2,h3⟩:=qY (K:=fun v h'=>∃ ρ1,Le ρ ρ1/\Rel C h0 ρ1 s1.σ h'/\VR ρ1 (one l) v) j hk;obtain ⟨v,U,u,hs,Y⟩:=oX _ w' _ h2
  have:=HB _ h3 w' v U u
  subst this;rcases hx with rfl | rfl
  ·exact ⟨X,v,u,v,rfl,h1,Y⟩
  ·exact ⟨X,v,u,v,rfl,h1,Y⟩
end
end Go.Sx.Cr
