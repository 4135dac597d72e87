/- Part of the framework. No condition. -/
import Derived.Test.YtmdncdaladplkaaGreatDoorSxN
set_option linter.all false
set_option maxHeartbeats 4000000
namespace Go.Sx.Cr
section
variable {C:Cx} {h0:Hp} {n:Nat}
def End (C:Cx) (h0:Hp) (n:Nat) (ρ:iv) (σ:dY AO) (e:Ev) (q:Act->Hp->Prop):Prop :=
 ∀ ρ1 a b h1,Le ρ ρ1->Rel C h0 ρ1 σ h1->ER ρ1 e a->ix ⟨n,[]⟩ a b->q b h1
variable {U:Ev}
def End.mono {ρ ρ':iv} {σ:dY AO} {q:Act->Hp->Prop} (le:Le ρ ρ') (h:End C h0 n ρ σ U q):End C h0 n ρ' σ U q:=fun ρ1 b c h1 a=>h ρ1 b c h1 (le.trans a)
def Bo (C:Cx) (h0:Hp) (n:Nat) (step:Ev->CS->XS) (c:Code):Prop :=
 ∀ e s x b d,step e s=some (x,b,d)->∀ ρ f a h (Q:Exit->Act->Hp->Prop),Rel C h0 ρ s.σ h->ER ρ e f->ix ⟨n,[]⟩ f a->End C h0 n ρ d.σ b (Q x)->cW C.P c Q a h
def Nh (O:Ok C) (u:C.P.follows .mixedOrders=true) {call:gJ} (q:ov C h0 call) {id:Nat} {ops:Array Oper} {b:Bool} {l:Ev} {s o:CS} (f:Fi C call n ops b U s=some (l,o)) {ρ:iv} {j:Env} {a:Act} {h:Hp} {Q:Exit->Act->Hp->Prop}
  (R:Rel C h0 ρ s.σ h) (r:ER ρ U j) (g:ix ⟨n,[]⟩ j a) (hk:End C h0 n ρ o.σ l (Q .normal)):cW C.P (.region id ops b) Q a h:=by
 let k:Env->T:=fun d _ _ h1=>∃ ρ1,Le ρ ρ1/\Rel C h0 ρ1 o.σ h1/\ER ρ1 l d
 have t:∀ d a' h',k d [] (fun _ _=>True) h'->ix ⟨n,[]⟩ d a'->Fr (dstsOf ops) j d->Q .normal a' h':=by
  rintro d a' h' ⟨ρ1,le,i,c⟩ w _;exact hk ρ1 d a' h' le i c w
 unfold Fi at f;cases b with
 | false =>
  simp only at f;exact xL (n:=⟨n,[]⟩) t (EL O q _ f R r fun ρ1 h1 d le i c=>⟨ρ1,le,i,c⟩) g
 | true =>
  simp only at f;obtain ⟨p,f⟩:=bF.1 f;obtain ⟨⟨x,y,z⟩,h1,h2⟩:=aa9.1 f;cases h2;refine rok (n:=⟨n,[]⟩) u id ops j k [] (fun _ _=>True) Q a h t ?_ g;unfold wK;simp only [p];exact pz O q _ h1 R r (m:=[]) (m':=[]) trivial fun ρ1 h1 d le i c=>⟨ρ1,le,i,c⟩
variable {H:Exit}
def Ke (h:xD H=true):H=.normal:=by cases H <;> first | rfl | cases h
def Az {next:Act->Hp->Prop} {Q:Exit->Act->Hp->Prop} {x:Exit} (h:xD x=false):Rt next Q x=Q x:=by cases x <;> first | rfl | cases h
variable {O:Code}
def T0 {step:Ev->CS->XS} (ok:Bo C h0 n step O):∀ k,Bo C h0 n (KO step k) (.loop O):=by
 intro k e s x i j d ρ r a h Q R f g hk;refine Kv (fun m a h=>∃ ρ0 e0 s0 b,KO step m e0 s0=some (x,i,j)/\Le ρ ρ0/\Rel C h0 ρ0 s0.σ h/\ER ρ0 e0 b/\ix ⟨n,[]⟩ b a) ⟨k,ρ,e,s,r,d,Le.refl _,R,f,g⟩ ?_;rintro m a h ⟨ρ0,e0,s0,b,d,le,R,f,g⟩;cases m with
 | zero=>cases d
 | succ m =>
  obtain ⟨⟨y,p,q⟩,h1,h2⟩:=aa9.1 (show (step e0 s0).bind _=some (x,i,j) from d);simp only at h2;cases hn:xD y with
  | true =>
   rw [hn] at h2;refine ok e0 s0 y p q h1 ρ0 b a h _ R f g ?_;rw [Ke hn];intro ρ1 t z A l u o w;exact ⟨m,fp9 m,ρ1,p,q,t,h2,le.trans l,u,o,w⟩
  | false =>
   rw [hn] at h2;cases h2;refine ok e0 s0 x i j h1 ρ0 b a h _ R f g ?_;rw [Az hn];exact hk.mono le
def Dq {J:Nat->Act->Hp->Prop} {Q:Exit->Act->Hp->Prop} {x:Exit} (h:BG O x=none):jH O J Q x=Q x:=by
 funext a h'
 cases x <;> first | rfl | skip
 rename_i l
 have:findLabel O l=none:=h
 simp only [jH,this]
def yz {r:Code} {J:Nat->Act->Hp->Prop} {Q:Exit->Act->Hp->Prop} (h:BG O H=some r):∃ l,H=.goto l/\findLabel O l=some r/\jH O J Q H=J l:=by
 cases H <;> first | (cases h; done) | skip
 rename_i l;have h:findLabel O l=some r:=h;exact ⟨l,rfl,h,by funext a h'; simp only [jH,h]⟩
def Oe {step:Code->Ev->CS->XS} (ok:∀ r,Bo C h0 n (step r) r) (c:Code) (k:Nat):Bo C h0 n (pU step c k c) (.scope c):=by
 intro e s x i j p ρ I a h Q R t g hk
 have E:∀ (m:Nat) (r:Code) ρ0 e0 s0 b a h,pU step c m r e0 s0=some (x,i,j)->Le ρ ρ0->Rel C h0 ρ0 s0.σ h->ER ρ0 e0 b->ix ⟨n,[]⟩ b a ->
   cW C.P r (jH c (fun l a h=>∃ d,d<m/\∃ r ρ0 e0 s0 b,findLabel c l=some r/\pU step c d r e0 s0=some (x,i,j)/\Le ρ ρ0/\Rel C h0 ρ0 s0.σ h/\ER ρ0 e0 b/\ix ⟨n,[]⟩ b a) Q) a h:=by
  intro m r ρ0 e0 s0 b a h p le R t g;cases m with
  | zero=>cases p
  | succ m =>
   obtain ⟨⟨y,F,G⟩,h1,h2⟩:=aa9.1 (show (step r e0 s0).bind _=some (x,i,j) from p);simp only at h2;refine ok r e0 s0 y F G h1 ρ0 b a h _ R t g ?_;cases f:BG c y with
   | none =>
    rw [f] at h2;cases h2;rw [Dq f];exact hk.mono le
   | some H =>
    rw [f] at h2;obtain ⟨l,u,w,o⟩:=yz (J:=fun l a h=>∃ d,d<m+1/\∃ r ρ0 e0 s0 b,findLabel c l=some r/\pU step c d r e0 s0=some (x,i,j)/\Le ρ ρ0/\Rel C h0 ρ0 s0.σ h/\ER ρ0 e0 b/\ix ⟨n,[]⟩ b a) (Q:=Q) f;rw [o];intro ρ1 K N O z L A M;exact ⟨m,fp9 m,H,ρ1,F,G,K,w,h2,le.trans z,L,A,M⟩
 refine FM Nat.lt_wfRel.wf (fun l m a h=>∃ r ρ0 e0 s0 b,findLabel c l=some r/\pU step c m r e0 s0=some (x,i,j)/\Le ρ ρ0/\Rel C h0 ρ0 s0.σ h/\ER ρ0 e0 b/\ix ⟨n,[]⟩ b a) ?_ ?_
 ·refine tE ?_ (E k c ρ e s I a h p (Le.refl _) R t g);intro y a h q;cases f:BG c y with
  | none=>rw [Dq f] at q ⊢; exact q
  | some H =>
   obtain ⟨l,u,_,o⟩:=yz (J:=fun l a h=>∃ m,∃ r ρ0 e0 s0 b,findLabel c l=some r/\pU step c m r e0 s0=some (x,i,j)/\Le ρ ρ0/\Rel C h0 ρ0 s0.σ h/\ER ρ0 e0 b/\ix ⟨n,[]⟩ b a) (Q:=Q) f;obtain ⟨S,B,_,D⟩:=yz (J:=fun l a h=>∃ d,d<k/\∃ r ρ0 e0 s0 b,findLabel c l=some r/\pU step c d r e0 s0=some (x,i,j)/\Le ρ ρ0/\Rel C h0 ρ0 s0.σ h/\ER ρ0 e0 b/\ix ⟨n,[]⟩ b a) (Q:=Q) f;rw [D] at q;have hll:=u.symm.trans B;cases hll;rw [o];obtain ⟨d,_,q⟩:=q;exact ⟨d,q⟩
 ·rintro l m a h ⟨r,ρ0,e0,s0,b,hl,p,le,R,t,g⟩;exact ⟨r,hl,E m r ρ0 e0 s0 b a h p le R t g⟩
def Tn {id:Nat} (h:Eo id H=true):H=.exit id:=by
 cases H <;> first | (cases h; done) | skip
 rename_i i;have h:Nat.beq i id=true:=h;rw [au9 h]
def G1 {id:Nat} {Q:Exit->Act->Hp->Prop} {x:Exit} (h:Eo id x=false):mZ id Q x=Q x:=by
 funext a h'
 cases x <;> first | rfl | skip
 rename_i i;have h:Nat.beq i id=false:=h
 have:¬ i=id:=fun b=>by subst b; rw [Nat.beq_refl] at h; cases h
 simp only [mZ,if_neg this]
def GF (O:Ok C) (H:C.P.follows .mixedOrders=true) {call:gJ} (I:ov C h0 call):∀ (q:Nat) (c:Code),Bo C h0 n (mY C call n q c) c:=by
 intro q
 induction q with
 | zero=>intro c e s x j k b; cases b
 | succ q m =>
  intro c e s x j k b ρ f a h Q R d g hk;unfold mY at b;cases c <;> simp only at b
  case skip=>cases b; exact KS (hk ρ f a h (Le.refl _) R d g)
  case label l=>cases b; exact GA (hk ρ f a h (Le.refl _) R d g)
  case exit i=>cases b; exact KT (hk ρ f a h (Le.refl _) R d g)
  case goto l=>cases b; exact Kh (hk ρ f a h (Le.refl _) R d g)
  case ret=>cases b; exact Qr (hk ρ f a h (Le.refl _) R d g)
  case seq u w =>
   obtain ⟨⟨y,r,t⟩,h1,h2⟩:=aa9.1 (show (mY C call n q u e s).bind _=some (x,j,k) from b);simp only at h2;refine En (m u e s y r t h1 ρ f a h _ R d g ?_);cases hn:xD y with
   | true =>
    rw [hn] at h2;rw [Ke hn];intro ρ1 z A B o D p E;exact m w r t x j k h2 ρ1 z A B Q D p E (hk.mono o)
   | false =>
    rw [hn] at h2;cases h2;rw [Az hn];exact hk
  case cond c u w =>
   unfold US at b;split at b
   ·rename_i hc;obtain ⟨v',h1,h2⟩:=ID R d hc;cases h2;exact EY (g.ev h1) (fun _=>m u e s x j k b ρ f a h Q R d g hk) (fun F=>by cases F)
   ·rename_i hc;obtain ⟨v',h1,h2⟩:=ID R d hc;cases h2;exact EY (g.ev h1) (fun F=>by cases F) (fun _=>m w e s x j k b ρ f a h Q R d g hk)
   ·cases b
  case block id c =>
   obtain ⟨⟨y,r,t⟩,h1,h2⟩:=aa9.1 (show (mY C call n q c e s).bind _=some (x,j,k) from b);simp only at h2;refine G8 (m c e s y r t h1 ρ f a h _ R d g ?_);cases hn:Eo id y with
   | true =>
    rw [hn] at h2;cases h2;rw [Tn hn];intro ρ1 z A B o D p E;simp only [mZ,if_pos];exact hk ρ1 z A B o D p E
   | false =>
    rw [hn] at h2;cases h2;rw [G1 hn];exact hk
  case region id ops G =>
   obtain ⟨⟨r,t⟩,h1,h2⟩:=aa9.1 b;cases h2;exact Nh O H I h1 R d g hk
  case loop c=>exact T0 (m c) _ e s x j k b ρ f a h Q R d g hk
  case scope c=>exact Oe m c _ e s x j k b ρ f a h Q R d g hk
  all_goals (cases b)
theorem GG:∀ (l:List Xab) (i t:Nat) (v:Xab),i<=t->l[t-i]?=some v->da (vu i l) t=some v
 | [],i,t,v,_,h=>by simp at h
 | u::l,i,t,v,hi,h=>by
  simp only [vu,dN]
  by_cases a:i=t
  ·subst a;rw [ag9 rfl];simpa using h
  ·rw [ac9 a];refine GG l (i+1) t v ad ?_;rw [show t-i=(t-(i+1))+1 from ad,fa9] at h;exact h
theorem GC:∀ (l:List Xab) (i t:Nat) (v:Xab),(JC i l).get t=some v->i<=t/\l[t-i]?=some v
 | [],i,t,v,h=>by simp [JC,dY.get_nil] at h
 | u::l,i,t,v,h=>by
  simp only [JC] at h;rw [dY.xv] at h
  by_cases a:t=i
  ·subst a;rw [ag9 rfl] at h;cases h;exact ⟨aq9 _,aj⟩
  ·rw [ac9 a] at h;obtain ⟨h1,h2⟩:=GC l (i+1) t v h;refine ⟨ad,?_⟩;rw [show t-i=(t-(i+1))+1 from ad,fa9];exact h2
variable {V:List Xab}
def S0 {ρ:iv} {l':List Xab} (h:eu ρ V l'):ER ρ (JC 0 V) (vu 0 l'):=by
 intro t v ht;obtain ⟨h1,h2⟩:=GC V 0 t v ht;obtain ⟨v',a,b⟩:=h.get h2;exact ⟨v',GG l' 0 t v' h1 a,b⟩
theorem EJ {ρ:iv} {s:CS} {h:Hp} {e:Ev} {g:Env} {K:Xab->Hp->Prop} (R:Rel C h0 ρ s.σ h) (i:ER ρ e g):∀ {f:List ResultVar} {l:List Xab},My C s e f=some l->∃ l',eu ρ l l'/\∀ k:List Xab->T,k l' [] K h->yf C.P f g k [] K h
 | [],l,d=>by
  cases (show some []=some l from d);exact ⟨[],.nil,fun k hk=>hk⟩
 | r::f,l,d=>by
  obtain ⟨v,hv,d⟩:=aa9.1 (show (Vv C s e r).bind _=some l from d);obtain ⟨z,hl,d⟩:=aa9.1 d;cases d;obtain ⟨l',h1,h2⟩:=EJ R i hl;cases r with
  | tmp t =>
   obtain ⟨v',j,_,m⟩:=bX (x:=.tmp t) R i hv;refine ⟨v'::l',.cons j h1,fun k hk=>?_⟩;unfold yf;rw [m];exact h2 _ hk
  | cell a t =>
   obtain ⟨p,o,hv⟩:=aa9.1 (show (e.get a).bind _=some v from hv);obtain ⟨⟨b,off,c,u⟩,hc,hv⟩:=aa9.1 hv;cases hv;obtain ⟨p',j,_,m⟩:=bX (x:=.tmp a) R i o;obtain ⟨pl,c',q,A,B,w,D,y⟩:=Bl R j hc;refine ⟨q::l',.cons w h1,fun k hk=>?_⟩;unfold yf;rw [m];exact y (fun _ _ v=>yf C.P f g fun l=>k (v::l)) [] K (h2 _ hk)
def Ph {ρ:iv} {l':List Xab} (h:eu ρ V l'):VR ρ (one V) (one l'):=by
 cases h with
 | nil=>exact .tuple .nil
 | cons h t=>cases t with
  | nil=>exact h
  | cons h2 t=>exact .tuple (.cons h (.cons h2 t))
def Sd (O:Ok C) (D:C.P.follows .mixedOrders=true):∀ m,ov C h0 (Xv C m):=by
 intro m
 induction m with
 | zero=>intro f u s v j d; cases d
 | succ m E =>
  intro f u s v j d ρ h b R hv;obtain ⟨fn,F,d⟩:=aa9.1 (show (C.P.funcs[f]?).bind _=some (v,j) from d);unfold Ve at d;obtain ⟨hl,d⟩:=bF.1 d;obtain ⟨c,G,d⟩:=aa9.1 d;obtain ⟨⟨x,e,N⟩,hc,d⟩:=aa9.1 d;obtain ⟨k,d⟩:=bF.1 (show gj _ _=some (v,j) from d);obtain ⟨l,i,d⟩:=aa9.1 d;cases d;have H:b.length<=fn.ntmps:=by rw [<- hv.length]; exact bk9 hl
  have g:ix ⟨fn.ntmps,[]⟩ (vu 0 b) { tmps:=b.toArray++Array.replicate (fn.ntmps-b.toArray.size) undef,defers:=[] }:=by
   refine ⟨by simp; omega,rfl,fun s v hv=>?_⟩;obtain ⟨_,h2⟩:=xY b 0 s v hv;have o:s<b.length:=by
    rcases cm9 s b.length with h | h
    ·exact h
    ·simp only [Nat.sub_zero] at h2; rw [bs9 h] at h2; cases h2
   simp only [Nat.sub_zero] at h2;simp [Array.getD_eq_getD_getElem?,Array.getElem?_append,o];rw [ad9 o] at h2;exact bb9 h2
  have p:cW C.P c (fun x a h'=>(x=.normal\/x=.ret)/\a.defers=[]/\∃ us,VT C.P h' a.tmps fn.results.toList us/\∃ ρ1,Le ρ ρ1/\Rel C h0 ρ1 j.σ h'/\VR ρ1 (one l) (one us)) { tmps:=b.toArray++Array.replicate (fn.ntmps-b.toArray.size) undef,defers:=[] } h:=by
   refine GF O D E 1000 c (JC 0 u) s x e j hc ρ (vu 0 b) _ h _ R (S0 hv) g ?_;intro ρ1 Q S h1 le y q z;refine ⟨?_,z.defers,?_⟩
   ·cases x <;> first | exact .inl rfl | exact .inr rfl | (cases k; done)
   ·obtain ⟨l',r,I⟩:=EJ (K:=fun _ _=>True) y q i;obtain ⟨us,J,L⟩:=tN z (I (fun us _ _ _=>us=l') rfl);subst J;exact ⟨us,L,ρ1,le,y,Ph r⟩
  intro w M;refine calls_of_wp F G (Code.wp_mono ?_ (p w w (dM.refl w) M));rintro x a w' ⟨h1,d,A,us,i,hk⟩;obtain ⟨h2,r⟩:=sD (K:=fun v h'=>∃ ρ1,Le ρ ρ1/\Rel C h0 ρ1 j.σ h'/\VR ρ1 (one l) v) i hk;obtain ⟨v,t,k,o,B⟩:=qc _ w' _ h2
  have:=JE _ r w' v t k
  subst this;rcases d with rfl | rfl
  ·exact ⟨A,v,k,v,rfl,h1,B⟩
  ·exact ⟨A,v,k,v,rfl,h1,B⟩
end
end Go.Sx.Cr
