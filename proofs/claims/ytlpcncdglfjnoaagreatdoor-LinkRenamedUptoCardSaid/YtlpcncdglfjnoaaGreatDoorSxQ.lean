/- Part of the framework. No condition. -/
import Derived.Test.YtlpcncdglfjnoaaGreatDoorSxN
set_option linter.all false
set_option maxHeartbeats 4000000
namespace Go.Sx.Cr
section
variable {C:Cx} {h0:Hp} {n:Nat}
def End (C:Cx) (h0:Hp) (n:Nat) (ρ:fY) (σ:dF AO) (e:Ev) (q:Act->Hp->Prop):Prop :=
 ∀ ρ1 a b h1,Le ρ ρ1->Rel C h0 ρ1 σ h1->ER ρ1 e a->gd ⟨n,[]⟩ a b->q b h1
variable {O:Ev}
def End.mono {ρ ρ':fY} {σ:dF AO} {q:Act->Hp->Prop} (le:Le ρ ρ') (h:End C h0 n ρ σ O q):End C h0 n ρ' σ O q:=fun ρ1 b c h1 a=>h ρ1 b c h1 (le.trans a)
def zp (C:Cx) (h0:Hp) (n:Nat) (step:Ev->CS->XS) (c:Code):Prop :=
 ∀ e s x b d,step e s=some (x,b,d)->∀ ρ f a h (Q:Exit->Act->Hp->Prop),Rel C h0 ρ s.σ h->ER ρ e f->gd ⟨n,[]⟩ f a->End C h0 n ρ d.σ b (Q x)->cW C.P c Q a h
def JD (b:Ok C) (w:C.P.follows .mixedOrders=true) {call:fL} (r:mM C h0 call) {id:Nat} {ops:Array Oper} {c:Bool} {o:Ev} {s p:CS} (i:CI C call n ops c O s=some (o,p)) {ρ:fY} {l:Env} {a:Act} {h:Hp} {Q:Exit->Act->Hp->Prop}
  (R:Rel C h0 ρ s.σ h) (t:ER ρ O l) (g:gd ⟨n,[]⟩ l a) (hk:End C h0 n ρ p.σ o (Q .normal)):cW C.P (.region id ops c) Q a h:=by
 let k:Env->T:=fun f _ _ h1=>∃ ρ1,Le ρ ρ1/\Rel C h0 ρ1 p.σ h1/\ER ρ1 o f
 have u:∀ f a' h',k f [] (fun _ _=>True) h'->gd ⟨n,[]⟩ f a'->Fr (dstsOf ops) l f->Q .normal a' h':=by
  rintro f a' h' ⟨ρ1,le,j,d⟩ x _;exact hk ρ1 f a' h' le j d x
 unfold CI at i;cases c with
 | false =>
  simp only at i;exact vX (n:=⟨n,[]⟩) u (Cl b r _ i R t fun ρ1 h1 f le j d=>⟨ρ1,le,j,d⟩) g
 | true =>
  simp only at i;obtain ⟨q,i⟩:=bi.1 i;obtain ⟨⟨y,z,A⟩,h1,h2⟩:=Vq.1 i;cases h2;refine UL (n:=⟨n,[]⟩) w id ops l k [] (fun _ _=>True) Q a h u ?_ g;unfold uJ;simp only [q];exact nM b r _ h1 R t (m:=[]) (m':=[]) trivial fun ρ1 h1 f le j d=>⟨ρ1,le,j,d⟩
variable {H:Exit}
def He (h:vP H=true):H=.normal:=by cases H <;> first | rfl | cases h
def yB {next:Act->Hp->Prop} {Q:Exit->Act->Hp->Prop} {x:Exit} (h:vP x=false):Ng next Q x=Q x:=by cases x <;> first | rfl | cases h
variable {I:Code}
def O2 {step:Ev->CS->XS} (ok:zp C h0 n step I):∀ k,zp C h0 n (HL step k) (.loop I):=by
 intro k e s x i j d ρ r a h Q R f g hk;refine Hv (fun m a h=>∃ ρ0 e0 s0 b,HL step m e0 s0=some (x,i,j)/\Le ρ ρ0/\Rel C h0 ρ0 s0.σ h/\ER ρ0 e0 b/\gd ⟨n,[]⟩ b a) ⟨k,ρ,e,s,r,d,Le.refl _,R,f,g⟩ ?_;rintro m a h ⟨ρ0,e0,s0,b,d,le,R,f,g⟩;cases m with
 | zero=>cases d
 | succ m =>
  obtain ⟨⟨y,p,q⟩,h1,h2⟩:=Vq.1 (show (step e0 s0).bind _=some (x,i,j) from d);simp only at h2;cases hn:vP y with
  | true =>
   rw [hn] at h2;refine ok e0 s0 y p q h1 ρ0 b a h _ R f g ?_;rw [He hn];intro ρ1 t z A l u o w;exact ⟨m,Nat.lt_succ_self m,ρ1,p,q,t,h2,le.trans l,u,o,w⟩
  | false =>
   rw [hn] at h2;cases h2;refine ok e0 s0 x i j h1 ρ0 b a h _ R f g ?_;rw [yB hn];exact hk.mono le
def Ba {J:Nat->Act->Hp->Prop} {Q:Exit->Act->Hp->Prop} {x:Exit} (h:zE I x=none):iM I J Q x=Q x:=by
 funext a h'
 cases x <;> first | rfl | skip
 rename_i l
 have:findLabel I l=none:=h
 simp only [iM,this]
def wY {r:Code} {J:Nat->Act->Hp->Prop} {Q:Exit->Act->Hp->Prop} (h:zE I H=some r):∃ l,H=.goto l/\findLabel I l=some r/\iM I J Q H=J l:=by
 cases H <;> first | (cases h; done) | skip
 rename_i l;have h:findLabel I l=some r:=h;exact ⟨l,rfl,h,by funext a h'; simp only [iM,h]⟩
def Ko {step:Code->Ev->CS->XS} (ok:∀ r,zp C h0 n (step r) r) (c:Code) (k:Nat):zp C h0 n (oi step c k c) (.scope c):=by
 intro e s x i j p ρ I a h Q R t g hk
 have E:∀ (m:Nat) (r:Code) ρ0 e0 s0 b a h,oi step c m r e0 s0=some (x,i,j)->Le ρ ρ0->Rel C h0 ρ0 s0.σ h->ER ρ0 e0 b->gd ⟨n,[]⟩ b a ->
   cW C.P r (iM c (fun l a h=>∃ d,d<m/\∃ r ρ0 e0 s0 b,findLabel c l=some r/\oi step c d r e0 s0=some (x,i,j)/\Le ρ ρ0/\Rel C h0 ρ0 s0.σ h/\ER ρ0 e0 b/\gd ⟨n,[]⟩ b a) Q) a h:=by
  intro m r ρ0 e0 s0 b a h p le R t g;cases m with
  | zero=>cases p
  | succ m =>
   obtain ⟨⟨y,F,G⟩,h1,h2⟩:=Vq.1 (show (step r e0 s0).bind _=some (x,i,j) from p);simp only at h2;refine ok r e0 s0 y F G h1 ρ0 b a h _ R t g ?_;cases f:zE c y with
   | none =>
    rw [f] at h2;cases h2;rw [Ba f];exact hk.mono le
   | some H =>
    rw [f] at h2;obtain ⟨l,u,w,o⟩:=wY (J:=fun l a h=>∃ d,d<m+1/\∃ r ρ0 e0 s0 b,findLabel c l=some r/\oi step c d r e0 s0=some (x,i,j)/\Le ρ ρ0/\Rel C h0 ρ0 s0.σ h/\ER ρ0 e0 b/\gd ⟨n,[]⟩ b a) (Q:=Q) f;rw [o];intro ρ1 K N O z L A M;exact ⟨m,Nat.lt_succ_self m,H,ρ1,F,G,K,w,h2,le.trans z,L,A,M⟩
 refine C6 Nat.lt_wfRel.wf (fun l m a h=>∃ r ρ0 e0 s0 b,findLabel c l=some r/\oi step c m r e0 s0=some (x,i,j)/\Le ρ ρ0/\Rel C h0 ρ0 s0.σ h/\ER ρ0 e0 b/\gd ⟨n,[]⟩ b a) ?_ ?_
 ·refine rq ?_ (E k c ρ e s I a h p (Le.refl _) R t g);intro y a h q;cases f:zE c y with
  | none=>rw [Ba f] at q ⊢; exact q
  | some H =>
   obtain ⟨l,u,_,o⟩:=wY (J:=fun l a h=>∃ m,∃ r ρ0 e0 s0 b,findLabel c l=some r/\oi step c m r e0 s0=some (x,i,j)/\Le ρ ρ0/\Rel C h0 ρ0 s0.σ h/\ER ρ0 e0 b/\gd ⟨n,[]⟩ b a) (Q:=Q) f;obtain ⟨S,B,_,D⟩:=wY (J:=fun l a h=>∃ d,d<k/\∃ r ρ0 e0 s0 b,findLabel c l=some r/\oi step c d r e0 s0=some (x,i,j)/\Le ρ ρ0/\Rel C h0 ρ0 s0.σ h/\ER ρ0 e0 b/\gd ⟨n,[]⟩ b a) (Q:=Q) f;rw [D] at q;have hll:=u.symm.trans B;cases hll;rw [o];obtain ⟨d,_,q⟩:=q;exact ⟨d,q⟩
 ·rintro l m a h ⟨r,ρ0,e0,s0,b,hl,p,le,R,t,g⟩;exact ⟨r,hl,E m r ρ0 e0 s0 b a h p le R t g⟩
def OB {id:Nat} (h:BZ id H=true):H=.exit id:=by
 cases H <;> first | (cases h; done) | skip
 rename_i i;have h:Nat.beq i id=true:=h;rw [VF h]
def Ed {id:Nat} {Q:Exit->Act->Hp->Prop} {x:Exit} (h:BZ id x=false):lm id Q x=Q x:=by
 funext a h'
 cases x <;> first | rfl | skip
 rename_i i;have h:Nat.beq i id=false:=h
 have:¬ i=id:=fun b=>by subst b; rw [Nat.beq_refl] at h; cases h
 simp only [lm,if_neg this]
def DU (O:Ok C) (G:C.P.follows .mixedOrders=true) {call:fL} (H:mM C h0 call):∀ (q:Nat) (c:Code),zp C h0 n (lh C call n q c) c:=by
 intro q
 induction q with
 | zero=>intro c e s x j k b; cases b
 | succ q m =>
  intro c e s x j k b ρ f a h Q R d g hk;unfold lh at b;cases c <;> simp only at b
  case skip=>cases b; exact HN (hk ρ f a h (Le.refl _) R d g)
  case label l=>cases b; exact DP (hk ρ f a h (Le.refl _) R d g)
  case exit i=>cases b; exact HO (hk ρ f a h (Le.refl _) R d g)
  case goto l=>cases b; exact Hi (hk ρ f a h (Le.refl _) R d g)
  case ret=>cases b; exact Mp (hk ρ f a h (Le.refl _) R d g)
  case seq c1 u =>
   obtain ⟨⟨y,r,t⟩,h1,h2⟩:=Vq.1 (show (lh C call n q c1 e s).bind _=some (x,j,k) from b);simp only at h2;refine BY (m c1 e s y r t h1 ρ f a h _ R d g ?_);cases hn:vP y with
   | true =>
    rw [hn] at h2;rw [He hn];intro ρ1 w z A o B p D;exact m u r t x j k h2 ρ1 w z A Q B p D (hk.mono o)
   | false =>
    rw [hn] at h2;cases h2;rw [yB hn];exact hk
  case cond c c1 u =>
   unfold PJ at b;split at b
   ·rename_i hc;obtain ⟨v',h1,h2⟩:=FT R d hc;cases h2;exact Cw (g.ev h1) (fun _=>m c1 e s x j k b ρ f a h Q R d g hk) (fun E=>by cases E)
   ·rename_i hc;obtain ⟨v',h1,h2⟩:=FT R d hc;cases h2;exact Cw (g.ev h1) (fun E=>by cases E) (fun _=>m u e s x j k b ρ f a h Q R d g hk)
   ·cases b
  case block id c =>
   obtain ⟨⟨y,r,t⟩,h1,h2⟩:=Vq.1 (show (lh C call n q c e s).bind _=some (x,j,k) from b);simp only at h2;refine Ej (m c e s y r t h1 ρ f a h _ R d g ?_);cases hn:BZ id y with
   | true =>
    rw [hn] at h2;cases h2;rw [OB hn];intro ρ1 w z A o B p D;simp only [lm,if_pos];exact hk ρ1 w z A o B p D
   | false =>
    rw [hn] at h2;cases h2;rw [Ed hn];exact hk
  case region id ops F =>
   obtain ⟨⟨r,t⟩,h1,h2⟩:=Vq.1 b;cases h2;exact JD O G H h1 R d g hk
  case loop c=>exact O2 (m c) _ e s x j k b ρ f a h Q R d g hk
  case scope c=>exact Ko m c _ e s x j k b ρ f a h Q R d g hk
  all_goals (cases b)
theorem DV:∀ (l:List XB) (i t:Nat) (v:XB),i<=t->l[t-i]?=some v->cQ (tB i l) t=some v
 | [],i,t,v,_,h=>by simp at h
 | u::l,i,t,v,hi,h=>by
  simp only [tB,du]
  by_cases a:i=t
  ·subst a;rw [VE rfl];simpa using h
  ·rw [Vu a];refine DV l (i+1) t v ad ?_;rw [show t-i=(t-(i+1))+1 from ad,Xe] at h;exact h
theorem DQ:∀ (l:List XB) (i t:Nat) (v:XB),(GG i l).get t=some v->i<=t/\l[t-i]?=some v
 | [],i,t,v,h=>by simp [GG,dF.get_nil] at h
 | u::l,i,t,v,h=>by
  simp only [GG] at h;rw [dF.vF] at h
  by_cases a:t=i
  ·subst a;rw [VE rfl] at h;cases h;exact ⟨VL _,ah⟩
  ·rw [Vu a] at h;obtain ⟨h1,h2⟩:=DQ l (i+1) t v h;refine ⟨ad,?_⟩;rw [show t-i=(t-(i+1))+1 from ad,Xe];exact h2
variable {U:List XB}
def Oh {ρ:fY} {l':List XB} (h:dO ρ U l'):ER ρ (GG 0 U) (tB 0 l'):=by
 intro t v a;obtain ⟨h1,h2⟩:=DQ U 0 t v a;obtain ⟨v',b,c⟩:=h.get h2;exact ⟨v',DV l' 0 t v' h1 b,c⟩
theorem Cj {ρ:fY} {s:CS} {h:Hp} {e:Ev} {g:Env} {K:XB->Hp->Prop} (R:Rel C h0 ρ s.σ h) (i:ER ρ e g):∀ {f:List ResultVar} {l:List XB},IW C s e f=some l->∃ l',dO ρ l l'/\∀ k:List XB->T,k l' [] K h->wF C.P f g k [] K h
 | [],l,d=>by
  cases (show some []=some l from d);exact ⟨[],.nil,fun k hk=>hk⟩
 | r::f,l,d=>by
  obtain ⟨v,hv,d⟩:=Vq.1 (show (Qi C s e r).bind _=some l from d);obtain ⟨z,hl,d⟩:=Vq.1 d;cases d;obtain ⟨l',h1,h2⟩:=Cj R i hl;cases r with
  | tmp t =>
   obtain ⟨v',j,_,m⟩:=bG (x:=.tmp t) R i hv;refine ⟨v'::l',.cons j h1,fun k hk=>?_⟩;unfold wF;rw [m];exact h2 _ hk
  | cell a t =>
   obtain ⟨p,o,hv⟩:=Vq.1 (show (e.get a).bind _=some v from hv);obtain ⟨⟨b,off,c,u⟩,hc,hv⟩:=Vq.1 hv;cases hv;obtain ⟨p',j,_,m⟩:=bG (x:=.tmp a) R i o;obtain ⟨pl,c',q,A,B,w,D,y⟩:=zm R j hc;refine ⟨q::l',.cons w h1,fun k hk=>?_⟩;unfold wF;rw [m];exact y (fun _ _ v=>wF C.P f g fun l=>k (v::l)) [] K (h2 _ hk)
def Lm {ρ:fY} {l':List XB} (h:dO ρ U l'):VR ρ (one U) (one l'):=by
 cases h with
 | nil=>exact .tuple .nil
 | cons h t=>cases t with
  | nil=>exact h
  | cons h2 t=>exact .tuple (.cons h (.cons h2 t))
def NO (O:Ok C) (D:C.P.follows .mixedOrders=true):∀ m,mM C h0 (R3 C m):=by
 intro m
 induction m with
 | zero=>intro f u s v j d; cases d
 | succ m E =>
  intro f u s v j d ρ h b R hv;obtain ⟨fn,F,d⟩:=Vq.1 (show (C.P.funcs[f]?).bind _=some (v,j) from d);unfold P3 at d;obtain ⟨hl,d⟩:=bi.1 d;obtain ⟨c,G,d⟩:=Vq.1 d;obtain ⟨⟨x,e,N⟩,hc,d⟩:=Vq.1 d;obtain ⟨k,d⟩:=bi.1 (show fx _ _=some (v,j) from d);obtain ⟨l,i,d⟩:=Vq.1 d;cases d;have H:b.length<=fn.ntmps:=by rw [<- hv.length]; exact VX hl
  have g:gd ⟨fn.ntmps,[]⟩ (tB 0 b) { tmps:=b.toArray++Array.replicate (fn.ntmps-b.toArray.size) undef,defers:=[] }:=by
   refine ⟨by simp; omega,rfl,fun s v hv=>?_⟩;obtain ⟨_,h2⟩:=wo b 0 s v hv;have o:s<b.length:=by
    rcases Wo s b.length with h | h
    ·exact h
    ·simp only [Nat.sub_zero] at h2; rw [V5 h] at h2; cases h2
   simp only [Nat.sub_zero] at h2;simp [Array.getD_eq_getD_getElem?,Array.getElem?_append,o];rw [VC o] at h2;exact VP h2
  have p:cW C.P c (fun x a h'=>(x=.normal\/x=.ret)/\a.defers=[]/\∃ us,Qy C.P h' a.tmps fn.results.toList us/\∃ ρ1,Le ρ ρ1/\Rel C h0 ρ1 j.σ h'/\VR ρ1 (one l) (one us)) { tmps:=b.toArray++Array.replicate (fn.ntmps-b.toArray.size) undef,defers:=[] } h:=by
   refine DU O D E 1000 c (GG 0 u) s x e j hc ρ (tB 0 b) _ h _ R (Oh hv) g ?_;intro ρ1 Q S h1 le y q z;refine ⟨?_,z.defers,?_⟩
   ·cases x <;> first | exact .inl rfl | exact .inr rfl | (cases k; done)
   ·obtain ⟨l',r,I⟩:=Cj (K:=fun _ _=>True) y q i;obtain ⟨us,J,L⟩:=rG z (I (fun us _ _ _=>us=l') rfl);subst J;exact ⟨us,L,ρ1,le,y,Lm r⟩
  intro w M;refine calls_of_wp F G (Code.wp_mono ?_ (p w w (dG.refl w) M));rintro x a w' ⟨h1,d,A,us,i,hk⟩;obtain ⟨h2,r⟩:=qu (K:=fun v h'=>∃ ρ1,Le ρ ρ1/\Rel C h0 ρ1 j.σ h'/\VR ρ1 (one l) v) i hk;obtain ⟨v,t,k,o,B⟩:=ov _ w' _ h2
  have:=GJ _ r w' v t k
  subst this;rcases d with rfl | rfl
  ·exact ⟨A,v,k,v,rfl,h1,B⟩
  ·exact ⟨A,v,k,v,rfl,h1,B⟩
end
end Go.Sx.Cr
