/- Part of the framework. No condition. -/
import Derived.Test.YtmdncdaladplkaaGreatDoorSxN
set_option linter.all false
set_option maxHeartbeats 4000000
namespace Go.Sx.Cr
section
variable {C:Cx} {h0:Hp} {n:Nat}
def End (C:Cx) (h0:Hp) (n:Nat) (ρ:iG) (σ:eb AO) (e:Ev) (q:Act->Hp->Prop):Prop :=
 ∀ ρ1 a b h1,Le ρ ρ1->Rel C h0 ρ1 σ h1->ER ρ1 e a->iI ⟨n,[]⟩ a b->q b h1
variable {U:Ev}
def End.mono {ρ ρ':iG} {σ:eb AO} {q:Act->Hp->Prop} (le:Le ρ ρ') (h:End C h0 n ρ σ U q):End C h0 n ρ' σ U q:=λρ1 b c h1 a=>h ρ1 b c h1 (le.trans a)
def BJ (C:Cx) (h0:Hp) (n:Nat) (step:Ev->CS->XS) (c:Code):Prop :=
 ∀ e s x b d,step e s=some (x,b,d)->∀ ρ f a h (Q:Exit->Act->Hp->Prop),Rel C h0 ρ s.σ h->ER ρ e f->iI ⟨n,[]⟩ f a->End C h0 n ρ d.σ b (Q x)->cW C.P c Q a h
def NZ (O:Ok C) (u:C.P.follows .mixedOrders=true) {call:gY} (q:oU C h0 call) {id:Nat} {ops:Array Oper} {b:Bool} {l:Ev} {s o:CS} (f:FN C call n ops b U s=some (l,o)) {ρ:iG} {j:Env} {a:Act} {h:Hp} {Q:Exit->Act->Hp->Prop}
  (R:Rel C h0 ρ s.σ h) (r:ER ρ U j) (g:iI ⟨n,[]⟩ j a) (hk:End C h0 n ρ o.σ l (Q .normal)):cW C.P (.region id ops b) Q a h:=by
 let k:Env->T:=λd _ _ h1=>∃ ρ1,Le ρ ρ1/\Rel C h0 ρ1 o.σ h1/\ER ρ1 l d
 have t:∀ d a' h',k d [] (λ_ _=>True) h'->iI ⟨n,[]⟩ d a'->Fr (dstsOf ops) j d->Q .normal a' h':=by
  rintro d a' h' ⟨ρ1,le,i,c⟩ w _;exact hk ρ1 d a' h' le i c w
 unfold FN at f;cases b with
 | false =>
  simp only at f;exact yi (n:=⟨n,[]⟩) t (Fi O q _ f R r λρ1 h1 d le i c=>⟨ρ1,le,i,c⟩) g
 | true =>
  simp only at f;obtain ⟨p,f⟩:=bt.1 f;obtain ⟨⟨x,y,z⟩,h1,h2⟩:=aa9.1 f;cases h2;refine rok (n:=⟨n,[]⟩) u id ops j k [] (λ_ _=>True) Q a h t ?_ g;unfold xn;simp only [p];exact qc O q _ h1 R r (m:=[]) (m':=[]) trivial λρ1 h1 d le i c=>⟨ρ1,le,i,c⟩
variable {H:Exit}
def KT (h:x7 H=true):H=.normal:=by cases H <;> first | rfl | cases h
def AQ {next:Act->Hp->Prop} {Q:Exit->Act->Hp->Prop} {x:Exit} (h:x7 x=false):Sh next Q x=Q x:=by cases x <;> first | rfl | cases h
variable {O:Code}
def UN {step:Ev->CS->XS} (ok:BJ C h0 n step O):∀ k,BJ C h0 n (Lz step k) (.loop O):=by
 intro k e s x i j d ρ r a h Q R f g hk;refine La (λm a h=>∃ ρ0 e0 s0 b,Lz step m e0 s0=some (x,i,j)/\Le ρ ρ0/\Rel C h0 ρ0 s0.σ h/\ER ρ0 e0 b/\iI ⟨n,[]⟩ b a) ⟨k,ρ,e,s,r,d,Le.refl _,R,f,g⟩ ?_;rintro m a h ⟨ρ0,e0,s0,b,d,le,R,f,g⟩;cases m with
 | zero=>cases d
 | succ m =>
  obtain ⟨⟨y,p,q⟩,h1,h2⟩:=aa9.1 (show (step e0 s0).bind _=some (x,i,j) from d);simp only at h2;cases hn:x7 y with
  | true =>
   rw [hn] at h2;refine ok e0 s0 y p q h1 ρ0 b a h _ R f g ?_;rw [KT hn];intro ρ1 t z A l u o w;exact ⟨m,Nat.lt_succ_self m,ρ1,p,q,t,h2,le.trans l,u,o,w⟩
  | false =>
   rw [hn] at h2;cases h2;refine ok e0 s0 x i j h1 ρ0 b a h _ R f g ?_;rw [AQ hn];exact hk.mono le
def DP {J:Nat->Act->Hp->Prop} {Q:Exit->Act->Hp->Prop} {x:Exit} (h:BZ O x=none):jZ O J Q x=Q x:=by
 funext a h'
 cases x <;> first | rfl | skip
 rename_i l
 have:findLabel O l=none:=h
 simp only [jZ,this]
def yV {r:Code} {J:Nat->Act->Hp->Prop} {Q:Exit->Act->Hp->Prop} (h:BZ O H=some r):∃ l,H=.goto l/\findLabel O l=some r/\jZ O J Q H=J l:=by
 cases H <;> first | (cases h; done) | skip
 rename_i l;have h:findLabel O l=some r:=h;exact ⟨l,rfl,h,by funext a h'; simp only [jZ,h]⟩
def OV {step:Code->Ev->CS->XS} (ok:∀ r,BJ C h0 n (step r) r) (c:Code) (k:Nat):BJ C h0 n (qA step c k c) (.scope c):=by
 intro e s x i j p ρ I a h Q R t g hk
 have E:∀ (m:Nat) (r:Code) ρ0 e0 s0 b a h,qA step c m r e0 s0=some (x,i,j)->Le ρ ρ0->Rel C h0 ρ0 s0.σ h->ER ρ0 e0 b->iI ⟨n,[]⟩ b a ->
   cW C.P r (jZ c (λl a h=>∃ d,d<m/\∃ r ρ0 e0 s0 b,findLabel c l=some r/\qA step c d r e0 s0=some (x,i,j)/\Le ρ ρ0/\Rel C h0 ρ0 s0.σ h/\ER ρ0 e0 b/\iI ⟨n,[]⟩ b a) Q) a h:=by
  intro m r ρ0 e0 s0 b a h p le R t g;cases m with
  | zero=>cases p
  | succ m =>
   obtain ⟨⟨y,F,G⟩,h1,h2⟩:=aa9.1 (show (step r e0 s0).bind _=some (x,i,j) from p);simp only at h2;refine ok r e0 s0 y F G h1 ρ0 b a h _ R t g ?_;cases f:BZ c y with
   | none =>
    rw [f] at h2;cases h2;rw [DP f];exact hk.mono le
   | some H =>
    rw [f] at h2;obtain ⟨l,u,w,o⟩:=yV (J:=λl a h=>∃ d,d<m+1/\∃ r ρ0 e0 s0 b,findLabel c l=some r/\qA step c d r e0 s0=some (x,i,j)/\Le ρ ρ0/\Rel C h0 ρ0 s0.σ h/\ER ρ0 e0 b/\iI ⟨n,[]⟩ b a) (Q:=Q) f;rw [o];intro ρ1 K N O z L A M;exact ⟨m,Nat.lt_succ_self m,H,ρ1,F,G,K,w,h2,le.trans z,L,A,M⟩
 refine Gh Nat.lt_wfRel.wf (λl m a h=>∃ r ρ0 e0 s0 b,findLabel c l=some r/\qA step c m r e0 s0=some (x,i,j)/\Le ρ ρ0/\Rel C h0 ρ0 s0.σ h/\ER ρ0 e0 b/\iI ⟨n,[]⟩ b a) ?_ ?_
 ·refine uj ?_ (E k c ρ e s I a h p (Le.refl _) R t g);intro y a h q;cases f:BZ c y with
  | none=>rw [DP f] at q ⊢; exact q
  | some H =>
   obtain ⟨l,u,_,o⟩:=yV (J:=λl a h=>∃ m,∃ r ρ0 e0 s0 b,findLabel c l=some r/\qA step c m r e0 s0=some (x,i,j)/\Le ρ ρ0/\Rel C h0 ρ0 s0.σ h/\ER ρ0 e0 b/\iI ⟨n,[]⟩ b a) (Q:=Q) f;obtain ⟨S,B,_,D⟩:=yV (J:=λl a h=>∃ d,d<k/\∃ r ρ0 e0 s0 b,findLabel c l=some r/\qA step c d r e0 s0=some (x,i,j)/\Le ρ ρ0/\Rel C h0 ρ0 s0.σ h/\ER ρ0 e0 b/\iI ⟨n,[]⟩ b a) (Q:=Q) f;rw [D] at q;have hll:=u.symm.trans B;cases hll;rw [o];obtain ⟨d,_,q⟩:=q;exact ⟨d,q⟩
 ·rintro l m a h ⟨r,ρ0,e0,s0,b,hl,p,le,R,t,g⟩;exact ⟨r,hl,E m r ρ0 e0 s0 b a h p le R t g⟩
def Ud {id:Nat} (h:EO id H=true):H=.exit id:=by
 cases H <;> first | (cases h; done) | skip
 rename_i i;have h:Nat.beq i id=true:=h;rw [av9 h]
def HA {id:Nat} {Q:Exit->Act->Hp->Prop} {x:Exit} (h:EO id x=false):nN id Q x=Q x:=by
 funext a h'
 cases x <;> first | rfl | skip
 rename_i i;have h:Nat.beq i id=false:=h
 have:¬ i=id:=λb=>by subst b; rw [Nat.beq_refl] at h; cases h
 simp only [nN,if_neg this]
def Hc (O:Ok C) (H:C.P.follows .mixedOrders=true) {call:gY} (I:oU C h0 call):∀ (q:Nat) (c:Code),BJ C h0 n (nM C call n q c) c:=by
 intro q
 induction q with
 | zero=>intro c e s x j k b; cases b
 | succ q m =>
  intro c e s x j k b ρ f a h Q R d g hk;unfold nM at b;cases c <;> simp only at b
  case skip=>cases b; exact LF (hk ρ f a h (Le.refl _) R d g)
  case label l=>cases b; exact G9 (hk ρ f a h (Le.refl _) R d g)
  case exit i=>cases b; exact LG (hk ρ f a h (Le.refl _) R d g)
  case goto l=>cases b; exact KW (hk ρ f a h (Le.refl _) R d g)
  case ret=>cases b; exact Ri (hk ρ f a h (Le.refl _) R d g)
  case seq u w =>
   obtain ⟨⟨y,r,t⟩,h1,h2⟩:=aa9.1 (show (nM C call n q u e s).bind _=some (x,j,k) from b);simp only at h2;refine EN (m u e s y r t h1 ρ f a h _ R d g ?_);cases hn:x7 y with
   | true =>
    rw [hn] at h2;rw [KT hn];intro ρ1 z A B o D p E;exact m w r t x j k h2 ρ1 z A B Q D p E (hk.mono o)
   | false =>
    rw [hn] at h2;cases h2;rw [AQ hn];exact hk
  case cond c u w =>
   unfold VJ at b;split at b
   ·rename_i hc;obtain ⟨v',h1,h2⟩:=Jj R d hc;cases h2;exact Fw (g.ev h1) (λ_=>m u e s x j k b ρ f a h Q R d g hk) (λF=>by cases F)
   ·rename_i hc;obtain ⟨v',h1,h2⟩:=Jj R d hc;cases h2;exact Fw (g.ev h1) (λF=>by cases F) (λ_=>m w e s x j k b ρ f a h Q R d g hk)
   ·cases b
  case block id c =>
   obtain ⟨⟨y,r,t⟩,h1,h2⟩:=aa9.1 (show (nM C call n q c e s).bind _=some (x,j,k) from b);simp only at h2;refine HI (m c e s y r t h1 ρ f a h _ R d g ?_);cases hn:EO id y with
   | true =>
    rw [hn] at h2;cases h2;rw [Ud hn];intro ρ1 z A B o D p E;simp only [nN,if_pos];exact hk ρ1 z A B o D p E
   | false =>
    rw [hn] at h2;cases h2;rw [HA hn];exact hk
  case region id ops G =>
   obtain ⟨⟨r,t⟩,h1,h2⟩:=aa9.1 b;cases h2;exact NZ O H I h1 R d g hk
  case loop c=>exact UN (m c) _ e s x j k b ρ f a h Q R d g hk
  case scope c=>exact OV m c _ e s x j k b ρ f a h Q R d g hk
  all_goals (cases b)
theorem Hd:∀ (l:List Xab) (i t:Nat) (v:Xab),i<=t->l[t-i]?=some v->db (wg i l) t=some v
 | [],i,t,v,_,h=>by simp at h
 | u::l,i,t,v,hi,h=>by
  simp only [wg,dQ]
  by_cases a:i=t
  ·subst a;rw [ag9 rfl];simpa using h
  ·rw [ac9 a];refine Hd l (i+1) t v ad ?_;rw [show t-i=(t-(i+1))+1 from ad,fd9] at h;exact h
theorem Ha:∀ (l:List Xab) (i t:Nat) (v:Xab),(Kf i l).get t=some v->i<=t/\l[t-i]?=some v
 | [],i,t,v,h=>by simp [Kf,eb.get_nil] at h
 | u::l,i,t,v,h=>by
  simp only [Kf] at h;rw [eb.xV] at h
  by_cases a:t=i
  ·subst a;rw [ag9 rfl] at h;cases h;exact ⟨am9 _,ai⟩
  ·rw [ac9 a] at h;obtain ⟨h1,h2⟩:=Ha l (i+1) t v h;refine ⟨ad,?_⟩;rw [show t-i=(t-(i+1))+1 from ad,fd9];exact h2
variable {V:List Xab}
def TR {ρ:iG} {l':List Xab} (h:eA ρ V l'):ER ρ (Kf 0 V) (wg 0 l'):=by
 intro t v ht;obtain ⟨h1,h2⟩:=Ha V 0 t v ht;obtain ⟨v',a,b⟩:=h.get h2;exact ⟨v',Hd l' 0 t v' h1 a,b⟩
theorem Fg {ρ:iG} {s:CS} {h:Hp} {e:Ev} {g:Env} {K:Xab->Hp->Prop} (R:Rel C h0 ρ s.σ h) (i:ER ρ e g):∀ {f:List ResultVar} {l:List Xab},Ni C s e f=some l->∃ l',eA ρ l l'/\∀ k:List Xab->T,k l' [] K h->yE C.P f g k [] K h
 | [],l,d=>by
  cases (show some []=some l from d);exact ⟨[],.nil,λk hk=>hk⟩
 | r::f,l,d=>by
  obtain ⟨v,hv,d⟩:=aa9.1 (show (Wl C s e r).bind _=some l from d);obtain ⟨z,hl,d⟩:=aa9.1 d;cases d;obtain ⟨l',h1,h2⟩:=Fg R i hl;cases r with
  | tmp t =>
   obtain ⟨v',j,_,m⟩:=bQ (x:=.tmp t) R i hv;refine ⟨v'::l',.cons j h1,λk hk=>?_⟩;unfold yE;rw [m];exact h2 _ hk
  | cell a t =>
   obtain ⟨p,o,hv⟩:=aa9.1 (show (e.get a).bind _=some v from hv);obtain ⟨⟨b,off,c,u⟩,hc,hv⟩:=aa9.1 hv;cases hv;obtain ⟨p',j,_,m⟩:=bQ (x:=.tmp a) R i o;obtain ⟨pl,c',q,A,B,w,D,y⟩:=BG R j hc;refine ⟨q::l',.cons w h1,λk hk=>?_⟩;unfold yE;rw [m];exact y (λ_ _ v=>yE C.P f g λl=>k (v::l)) [] K (h2 _ hk)
def P3 {ρ:iG} {l':List Xab} (h:eA ρ V l'):VR ρ (one V) (one l'):=by
 cases h with
 | nil=>exact .tuple .nil
 | cons h t=>cases t with
  | nil=>exact h
  | cons h2 t=>exact .tuple (.cons h (.cons h2 t))
def Ta (O:Ok C) (D:C.P.follows .mixedOrders=true):∀ m,oU C h0 (Yk C m):=by
 intro m
 induction m with
 | zero=>intro f u s v j d; cases d
 | succ m E =>
  intro f u s v j d ρ h b R hv;obtain ⟨fn,F,d⟩:=aa9.1 (show (C.P.funcs[f]?).bind _=some (v,j) from d);unfold V4 at d;obtain ⟨hl,d⟩:=bt.1 d;obtain ⟨c,G,d⟩:=aa9.1 d;obtain ⟨⟨x,e,N⟩,hc,d⟩:=aa9.1 d;obtain ⟨k,d⟩:=bt.1 (show gF _ _=some (v,j) from d);obtain ⟨l,i,d⟩:=aa9.1 d;cases d;have H:b.length<=fn.ntmps:=by rw [<- hv.length]; exact bk9 hl
  have g:iI ⟨fn.ntmps,[]⟩ (wg 0 b) { tmps:=b.toArray++Array.replicate (fn.ntmps-b.toArray.size) undef,defers:=[] }:=by
   refine ⟨by simp; omega,rfl,λs v hv=>?_⟩;obtain ⟨_,h2⟩:=yw b 0 s v hv;have o:s<b.length:=by
    rcases cj9 s b.length with h | h
    ·exact h
    ·simp only [Nat.sub_zero] at h2; rw [bv9 h] at h2; cases h2
   simp only [Nat.sub_zero] at h2;simp [Array.getD_eq_getD_getElem?,Array.getElem?_append,o];rw [ad9 o] at h2;exact bb9 h2
  have p:cW C.P c (λx a h'=>(x=.normal\/x=.ret)/\a.defers=[]/\∃ us,WH C.P h' a.tmps fn.results.toList us/\∃ ρ1,Le ρ ρ1/\Rel C h0 ρ1 j.σ h'/\VR ρ1 (one l) (one us)) { tmps:=b.toArray++Array.replicate (fn.ntmps-b.toArray.size) undef,defers:=[] } h:=by
   refine Hc O D E 1000 c (Kf 0 u) s x e j hc ρ (wg 0 b) _ h _ R (TR hv) g ?_;intro ρ1 Q S h1 le y q z;refine ⟨?_,z.defers,?_⟩
   ·cases x <;> first | exact .inl rfl | exact .inr rfl | (cases k; done)
   ·obtain ⟨l',r,I⟩:=Fg (K:=λ_ _=>True) y q i;obtain ⟨us,J,L⟩:=ux z (I (λus _ _ _=>us=l') rfl);subst J;exact ⟨us,L,ρ1,le,y,P3 r⟩
  intro w M;refine calls_of_wp F G (Code.wp_mono ?_ (p w w (dO.refl w) M));rintro x a w' ⟨h1,d,A,us,i,hk⟩;obtain ⟨h2,r⟩:=tj (K:=λv h'=>∃ ρ1,Le ρ ρ1/\Rel C h0 ρ1 j.σ h'/\VR ρ1 (one l) v) i hk;obtain ⟨v,t,k,o,B⟩:=qJ _ w' _ h2
  have:=Kh _ r w' v t k
  subst this;rcases d with rfl | rfl
  ·exact ⟨A,v,k,v,rfl,h1,B⟩
  ·exact ⟨A,v,k,v,rfl,h1,B⟩
end
end Go.Sx.Cr
