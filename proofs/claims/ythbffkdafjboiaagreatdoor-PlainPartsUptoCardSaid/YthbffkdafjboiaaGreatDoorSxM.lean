/- Part of the framework. No condition. -/
import Derived.Test.YthbffkdafjboiaaGreatDoorSxC
set_option linter.all false
set_option maxHeartbeats 4000000
namespace Go.Sx
section main
variable {P:Program} {n:Nd} {cuts:List Nat}
def Rp.mono {L:Lp} {K:ZB->Hp->Prop} {e0 e1:Env} {ms ms':List Nat} {κ:Exit->Env->Nat->T} {Q:Exit->Act->Hp->Prop} {L':Lp}
  (hk:Rp n L K e0 ms κ Q) (hp:ot L L') (fr:Fr ms e0 e1) (m:∀ s∈ms',s∈ms):Rp n L' K e1 ms' κ Q :=
 fun x e a h L2 hp2 hx g fr2=>hk x e a h L2 (hp.trans hp2) hx g (fr.trans (fr2.mono m))
def Sc (P:Program) (n:Nd) (cuts:List Nat) (c:Code) (e0:Env) (L:Lp) (K:ZB->Hp->Prop) (κ:Exit->Env->Nat->T) (back:Option Nat) (Inv:Nat->Act->Hp->Prop)
  (f m l:Nat) (a:Act) (h:Hp):Prop :=
 ∃ r' e' L' k e1,findLabel c l=some r'/\ot L L'/\ld P n cuts f c r' e' L'.length back k κ L' K h/\gu n e' a/\Fr (ej c) e0 e'/\Fr (ej c) e1 e' /\
  ∀ e2 a2 h2 L2,ot L' L2->k e2 L2 K h2->gu n e2 a2->Fr (ej c) e1 e2->∃ m',m'<m/\Inv m' a2 h2
def ru {fu:Nat} (ih:∀ f,f<=fu->TU P n cuts f) {c r:Code} {e0 e e1:Env} {L L1:Lp} {K:ZB->Hp->Prop} {κ:Exit->Env->Nat->T} {Q:Exit->Act->Hp->Prop}
  {back:Option Nat} {k:Env->T} {Inv:Nat->Act->Hp->Prop} {m f:Nat} {a:Act} {h:Hp}
  (hback:∀ l,lY back l=true->(findLabel c l).isSome=true) (hκ:Rp n L K e0 (ej c) κ Q) (hp:ot L L1) (hf:f<=fu+1) (hr:∀ s∈ej r,s∈ej c)
  (ht:ld P n cuts f c r e L1.length back k κ L1 K h) (g:gu n e a) (fr:Fr (ej c) e0 e) (fr1:Fr (ej c) e1 e)
  (hk:∀ e2 a2 h2 L2,ot L1 L2->k e2 L2 K h2->gu n e2 a2->Fr (ej c) e1 e2->∃ m',m'<m/\Inv m' a2 h2) :
  ∃ f',f=f'+1/\∀ t,ej t=ej r->(∀ e lv κ,fK P n cuts f' t e lv κ=fK P n cuts f' r e lv κ) ->
   cW P t (jb c (fun l a h=>(lY back l=true/\∃ m',m'<m/\Inv m' a h)\/(lY back l=false/\Sc P n cuts c e0 L K κ back Inv f' m l a h)) Q) a h:=by
 cases f with
 | zero=>simp only [ld] at ht; exact ht.elim
 | succ f' =>
  refine ⟨f',rfl,fun t hmt hsame=>?_⟩;simp only [ld] at ht;rw [<- hsame] at ht;refine ih f' ad t e _ L1 K _ a h ?_ ht g;intro x e2 a2 h2 L2 hp2 hx g2 fr2;have fr2':Fr (ej c) e e2:=fr2.mono (fun s hs=>hr s (hmt▸hs));cases x <;> first
   | exact hκ _ e2 a2 h2 L2 (hp.trans hp2) hx g2 (fr.trans fr2')
   | skip
  rename_i l;simp only at hx;unfold jb;simp only;cases hb:lY back l with
  | true =>
   simp only [hb] at hx;obtain ⟨m',hm,hI⟩:=hk e2 a2 h2 L2 hp2 hx g2 (fr1.trans fr2');cases hl:findLabel c l with
   | some r2=>exact .inl ⟨rfl,m',hm,hI⟩
   | none=>have:=hback l hb; rw [hl] at this; cases this
  | false =>
   simp only [hb] at hx;cases hl:findLabel c l with
   | none=>simp only [hl] at hx; exact hκ _ e2 a2 h2 L2 (hp.trans hp2) hx g2 (fr.trans fr2')
   | some r2 =>
    simp only [hl] at hx;exact .inr ⟨rfl,r2,e2,L2,k,e1,hl,hp.trans hp2,hx,g2,fr.trans fr2',fr1.trans fr2',fun e3 a3 h3 L3 hp3=>hk e3 a3 h3 L3 (hp2.trans hp3)⟩
def V0 (x y:Nat × Nat):Prop:=x.1<y.1\/(x.1=y.1/\x.2<y.2)
def OU:WellFounded V0:=by
 have h:WellFounded (Prod.Lex (fun a b:Nat=>a<b) (fun a b:Nat=>a<b)):=(Prod.lex Nat.lt_wfRel Nat.lt_wfRel).wf;refine Subrelation.wf ?_ h;rintro ⟨a,b⟩ ⟨c,d⟩ h;rcases h with h | ⟨h1,h2⟩
 ·exact Prod.Lex.left _ _ h
 ·simp only at h1 h2; subst h1; exact Prod.Lex.right _ h2
def vH {b l:Nat}:lY (some b) l=true↔b=l:=by
 simp only [lY];exact ⟨fun h=>Xg h,fun h=>by subst h; simp⟩
def A6 {fu:Nat} (ih:∀ f,f<=fu->TU P n cuts f) {c:Code} {e:Env} {L:Lp} {K:ZB->Hp->Prop} {κ:Exit->Env->Nat->T} {Q:Exit->Act->Hp->Prop} {a:Act} {h:Hp}
  {back:Option Nat} {Inv:Nat->Act->Hp->Prop} (hback:∀ l,lY back l=true->(findLabel c l).isSome=true) (hκ:Rp n L K e (ej c) κ Q)
  (round:∀ l,lY back l=true->∀ m a h,Inv m a h->∃ r e1 L1 k f,findLabel c l=some r/\f<=fu+1/\ot L L1/\Fr (ej c) e e1/\gu n e1 a/\ld P n cuts f c r e1 L1.length back k κ L1 K h /\
   ∀ e2 a2 h2 L2,ot L1 L2->k e2 L2 K h2->gu n e2 a2->Fr (ej c) e1 e2->∃ m',m'<m/\Inv m' a2 h2)
  (first:cW P c (jb c (fun l a h=>(lY back l=true/\∃ m,Inv m a h)\/(lY back l=false/\∃ m f,f<=fu/\Sc P n cuts c e L K κ back Inv f m l a h)) Q) a h) :
  cW P (.scope c) Q a h:=by
 have gq:∀ (J J':Nat->Act->Hp->Prop),(∀ l a h,J l a h->J' l a h)->∀ x a h,jb c J Q x a h->jb c J' Q x a h:=by
  intro J J' hJ x a h hq;cases x <;> first | exact hq | skip
  rename_i l;unfold jb at hq ⊢;simp only at hq ⊢;cases hl:findLabel c l with
  | none=>simp only [hl] at hq; exact hq
  | some r2=>simp only [hl] at hq; exact hJ l a h hq
 refine Dn OU (fun l m a h=>(lY back l=true/\m.2=fu+1/\Inv m.1 a h)\/(lY back l=false/\m.2<=fu/\Sc P n cuts c e L K κ back Inv m.2 m.1 l a h)) ?_ ?_
 ·refine rK (gq _ _ ?_) first
  rintro l a h (⟨hb,m,hI⟩ | ⟨hb,m,f,hf,hs⟩)
  ·exact ⟨(m,fu+1),.inl ⟨hb,rfl,hI⟩⟩
  ·exact ⟨(m,f),.inr ⟨hb,hf,hs⟩⟩
 ·rintro l ⟨m,f⟩ a h (⟨hb,hf,hI⟩ | ⟨hb,hf,hs⟩)
  ·obtain ⟨r,e1,L1,k,f1,hl,hf1,hp,fr,g,ht,hk⟩:=round l hb m a h hI;obtain ⟨f',rfl,hall⟩:=ru ih hback hκ hp hf1 (oi hl) ht g fr (Fr.refl _ _) hk;refine ⟨r,hl,rK (gq _ _ ?_) (hall r rfl (fun _ _ _=>rfl))⟩;simp only at hf;rintro l2 a2 h2 (⟨hb2,m',hm,hI2⟩ | ⟨hb2,hs2⟩)
   ·exact ⟨(m',fu+1),.inl hm,.inl ⟨hb2,rfl,hI2⟩⟩
   ·exact ⟨(m,f'),.inr ⟨rfl,by simp only; omega⟩,.inr ⟨hb2,by simp only; omega,hs2⟩⟩
  ·obtain ⟨r,e1,L1,k,e2,hl,hp,ht,g,fr,fr1,hk⟩:=hs;simp only at hf ht hk;obtain ⟨f',rfl,hall⟩:=ru ih hback hκ hp ad (oi hl) ht g fr fr1 hk;refine ⟨r,hl,rK (gq _ _ ?_) (hall r rfl (fun _ _ _=>rfl))⟩;rintro l2 a2 h2 (⟨hb2,m',hm,hI2⟩ | ⟨hb2,hs2⟩)
   ·exact ⟨(m',fu+1),.inl hm,.inl ⟨hb2,rfl,hI2⟩⟩
   ·exact ⟨(m,f'),.inr ⟨rfl,by simp only; omega⟩,.inr ⟨hb2,by simp only; omega,hs2⟩⟩
def F2 (P:Program) (n:Nd) (cuts:List Nat) (fu:Nat) (c r:Code) (l:Nat) (e:Env) (L:Lp) (K:ZB->Hp->Prop) (κ:Exit->Env->Nat->T) (Inv:Nat->Act->Hp->Prop):Prop :=
 ∀ m a h,Inv m a h->∃ e1 L1 k f,f<=fu+1/\ot L L1/\Fr (ej c) e e1/\gu n e1 a/\ld P n cuts f c r e1 L1.length (some l) k κ L1 K h /\
   ∀ e2 a2 h2 L2,ot L1 L2->k e2 L2 K h2->gu n e2 a2->Fr (ej c) e1 e2->∃ m',m'<m/\Inv m' a2 h2
def K2 (P:Program) (n:Nd) (cuts:List Nat) (fu:Nat) (c r:Code) (l:Nat) (e:Env) (L:Lp) (K:ZB->Hp->Prop) (κ:Exit->Env->Nat->T) (m:Nat) (a:Act) (h:Hp):Prop :=
 ∃ Inv,F2 P n cuts fu c r l e L K κ Inv/\Inv m a h
def S4 {fu:Nat} {c r:Code} {l:Nat} {e:Env} {L:Lp} {K:ZB->Hp->Prop} {κ:Exit->Env->Nat->T}:F2 P n cuts fu c r l e L K κ (K2 P n cuts fu c r l e L K κ):=by
 rintro m a h ⟨Inv,hR,hI⟩;obtain ⟨e1,L1,k,f,h1,h2,h3,h4,h5,h6⟩:=hR m a h hI;refine ⟨e1,L1,k,f,h1,h2,h3,h4,h5,fun e2 a2 h2 L2 hp hk g fr=>?_⟩;obtain ⟨m',hm,hI'⟩:=h6 e2 a2 h2 L2 hp hk g fr;exact ⟨m',hm,Inv,hR,hI'⟩
theorem AW {fu:Nat} (ih:∀ f,f<=fu->TU P n cuts f) {c r:Code} {l:Nat} {e:Env} {L:Lp} {K:ZB->Hp->Prop} {κ:Exit->Env->Nat->T} {Q:Exit->Act->Hp->Prop}
  (hκ:Rp n L K e (ej c) κ Q) (hl:findLabel c l=some r):∀ (f:Nat) (t:Code) (e1:Env) (L1:Lp) (a:Act) (h:Hp),f<=fu+1->ot L L1->findLabel t l=some r->(∀ s∈ej t,s∈ej c) ->
  wy P n cuts f c t l r e1 L1.length κ L1 K h->gu n e1 a->Fr (ej c) e e1 ->
   cW P t (jb c (fun l' a h=>(lY (some l) l'=true/\∃ m,K2 P n cuts fu c r l e L K κ m a h)\/(lY (some l) l'=false/\∃ m f,f<=fu/\Sc P n cuts c e L K κ (some l) (K2 P n cuts fu c r l e L K κ) f m l' a h)) Q) a h
 | 0,t,e1,L1,a,h,_,_,_,_,ht,_,_=>by simp only [wy] at ht; exact ht.elim
 | f+1,t,e1,L1,a,h,hf,hp,htl,hmt,ht,g,fr=>by
  unfold wy at ht;cases hh:fC l t with
  | true =>
   simp only [hh] at ht;obtain ⟨Inv,⟨m0,hI0⟩,hround⟩:=FB (P:=P) ht g;have hback:∀ l',lY (some l) l'=true->(findLabel c l').isSome=true:=by
    intro l' hl';obtain rfl:=vH.1 hl';rw [hl]; rfl
   have hR:F2 P n cuts fu c r l e L K κ Inv:=by
    intro m a1 h1 hI;obtain ⟨e2,J,k,fr2,g2,hb,hk⟩:=hround m a1 h1 hI;refine ⟨e2,L1++[J],k,f,ad,hp.trans (ot.snoc _ _),fr.trans fr2,g2,?_,hk⟩;simpa using hb
   obtain ⟨e2,J,k,fr2,g2,hb,hk⟩:=hround m0 a h hI0;have hb':ld P n cuts f c r e2 (L1++[J]).length (some l) k κ (L1++[J]) K h:=by simpa using hb
   have hk':∀ e3 a2 h2 L2,ot (L1++[J]) L2->k e3 L2 K h2->gu n e3 a2->Fr (ej c) e2 e3->∃ m',m'<m0/\K2 P n cuts fu c r l e L K κ m' a2 h2:=by
    intro e3 a2 h2 L2 hp2 hx g3 fr3;obtain ⟨m',hm,hI'⟩:=hk e3 a2 h2 L2 hp2 hx g3 fr3;exact ⟨m',hm,Inv,hR,hI'⟩
   obtain ⟨f',rfl,hall⟩:=ru ih hback hκ (hp.trans (ot.snoc _ _)) ad (oi hl) hb' g2 (fr.trans fr2) (Fr.refl _ _) hk';obtain ⟨h1,h2⟩:=A4 (P:=P) (n:=n) (cuts:=cuts) t hh htl;refine rK ?_ (hall t h1 (h2 _));intro x a h hq;cases x <;> first | exact hq | skip
   rename_i l';unfold jb at hq ⊢;simp only at hq ⊢;cases hl':findLabel c l' with
   | none=>simp only [hl'] at hq; exact hq
   | some r2 =>
    simp only [hl'] at hq;rcases hq with ⟨hb,m',hm,hI⟩ | ⟨hb,hs⟩
    ·exact .inl ⟨hb,m',hI⟩
    ·exact .inr ⟨hb,m0,f',ad,hs⟩
  | false =>
   simp only [hh] at ht;obtain ⟨x,y,rfl⟩:∃ x y,t=.seq x y:=by
    cases t <;> first | exact ⟨_,_,rfl⟩ | exact ht.elim
   simp only at ht;cases hx:findLabel x l with
   | some rx=>simp only [hx] at ht; exact ht.elim
   | none =>
    simp only [hx] at ht;have hty:findLabel y l=some r:=by simpa [findLabel,hx] using htl
    refine Ce (ih f ad x e1 _ L1 K _ a h ?_ ht g);intro z e2 a2 h2 L2 hp2 hz g2 fr2;have fr2':Fr (ej c) e e2:=fr.trans (fr2.mono fun s hs=>hmt s (Xy _ hs));cases z <;> first
     | exact AW ih hκ hl f y e2 L2 a2 h2 ad (hp.trans hp2) hty (fun s hs=>hmt s (XF _ hs)) hz g2 fr2'
     | exact hκ _ e2 a2 h2 L2 (hp.trans hp2) hz g2 fr2'
     | exact hz.elim
def Wk (P:Program) (n:Nd):Prop :=
 ∀ (id:Nat) (ops:Array Oper) (e:Env) (k:Env->T) (L:Lp) (K:ZB->Hp->Prop) (Q:Exit->Act->Hp->Prop) (a:Act) (h:Hp),
  (∀ e' a' h',k e' L K h'->gu n e' a'->Fr (dstsOf ops) e e'->Q .normal a' h')->uH P n id ops e k L K h->gu n e a->cW P (.region id ops true) Q a h
def vM {id:Nat} {ops:Array Oper} {e:Env} {k:Env->T} {L:Lp} {K:ZB->Hp->Prop} {Q:Exit->Act->Hp->Prop} {a:Act} {h:Hp}
  (hk:∀ e' a' h',k e' L K h'->gu n e' a'->Fr (dstsOf ops) e e'->Q .normal a' h') (ht:D7 P n ops ops.toList e k L K h) (g:gu n e a):cW P (.region id ops false) Q a h :=
 fun w0 w hs hw=>wp_region_list (CV hk ops.toList e a h (fun _ ho=>ho) ht g (Fr.refl _ _) w0 w hs hw)
def KZ (hR : Wk P n) : ∀ fu, TU P n cuts fu := by
  intro fu
  induction fu using Nat.strongRecOn with
  | _ fu ih =>
  intro c e κ L K Q a h hκ ht g;cases fu with
  | zero => simp only [fK] at ht; exact ht.elim
  | succ fu =>
  have ih' : ∀ f, f <= fu -> TU P n cuts f := fun f hf => ih f ad
  unfold fK at ht;cases c <;> simp only at ht
  case skip => exact Ia (hκ _ e a h L (ot.refl _) ht g (Fr.refl _ _))
  case label l => exact Ea (hκ _ e a h L (ot.refl _) ht g (Fr.refl _ _))
  case exit i => exact Ib (hκ _ e a h L (ot.refl _) ht g (Fr.refl _ _))
  case goto i => exact HA (hκ _ e a h L (ot.refl _) ht g (Fr.refl _ _))
  case ret => exact MY (hκ _ e a h L (ot.refl _) ht g (Fr.refl _ _))
  case refuse s => exact ht.elim
  case rangeFunc f ps x y => exact ht.elim
  case seq x y =>
    cases hc : IC cuts (jO y) 1000 with
    | false =>
      simp only [hc] at ht;refine Ce (ih' fu (Xk _) x e _ L K _ a h ?_ ht g);intro z e2 a2 h2 L2 hp2 hz g2 fr2;have fr2' : Fr (ej (.seq x y)) e e2 := fr2.mono fun s hs => Xy _ hs
      cases z <;> first
        | exact ih' fu (Xk _) y e2 κ L2 K Q a2 h2 (hκ.mono hp2 fr2' fun s hs => XF _ hs) hz g2
        | exact hκ _ e2 a2 h2 L2 hp2 hz g2 fr2'
    | true =>
      simp only [hc] at ht
      obtain ⟨J, k, hf, hk⟩ := Dv (n := n) (fun s hs => by
        have h1 : ∀ l : List Nat, ∀ t ∈ (live e l).map (·.1), t ∈ l := by
          intro l
          induction l with
          | nil => intro t ht; simp [live] at ht
          | cons u l ih =>
            intro t ht;unfold live at ht;cases hv : cM e u with
            | none => simp only [hv] at ht; exact Xh _ (ih t ht)
            | some v =>
              simp only [hv, List.map_cons, List.mem_cons] at ht;rcases ht with rfl | ht
              · simp
              · exact Xh _ (ih t ht)
        exact (rz _).1 (h1 _ _ hs)) ht
      have hf' : fK P n cuts fu x e (L ++ [J]).length (fun x e' lv' => match x with
            | .normal => k e'
            | x => κ x e' lv') (L ++ [J]) K h := by
        have hlen : (L ++ [J]).length = L.length + 1 :=aj
        rw [hlen]; exact hf
      refine Ce (ih' fu (Xk _) x e _ (L ++ [J]) K _ a h ?_ hf' g);intro z e2 a2 h2 L2 hp2 hz g2 fr2;have fr2' : Fr (ej (.seq x y)) e e2 := fr2.mono fun s hs => Xy _ hs
      cases z <;> first
        | exact hκ _ e2 a2 h2 L2 ((ot.snoc _ _).trans hp2) hz g2 fr2'
        | skip
      obtain ⟨e3, fr3, g3, ht3⟩ := hk e2 a2 h2 L2 hp2 hz g2 fr2;exact ih' fu (Xk _) y e3 κ L K Q a2 h2 (hκ.mono (ot.refl _) (fr3.mono fun s hs => Xy _ hs) fun s hs => XF _ hs) ht3 g3
  case cond c x y =>
    cases hv : ev e c with
    | none => simp only [hv] at ht; exact ht.elim
    | some v =>
      cases v <;> simp only [hv] at ht <;> first | exact ht.elim | skip
      rename_i b;refine CQ (b := b) (g.ev hv) (fun hb => ?_) (fun hb => ?_) <;> subst hb
      · exact ih' fu (Xk _) x e κ L K Q a h (hκ.mono (ot.refl _) (Fr.refl _ _) fun s hs => Xy _ hs) ht g
      · exact ih' fu (Xk _) y e κ L K Q a h (hκ.mono (ot.refl _) (Fr.refl _ _) fun s hs => XF _ hs) ht g
  case block id x =>
    refine EF (ih' fu (Xk _) x e _ L K _ a h ?_ ht g);intro z e2 a2 h2 L2 hp2 hz g2 fr2
    cases z <;> first
      | exact hκ _ e2 a2 h2 L2 hp2 hz g2 fr2
      | skip
    rename_i i;simp only at hz;cases hb : Nat.beq i id with
    | true =>
      simp only [hb] at hz;have := Xg hb;subst this;simp only [lO, if_true];exact hκ _ e2 a2 h2 L2 hp2 hz g2 fr2
    | false =>
      simp only [hb] at hz;have hne : ¬ i = id := by intro hh; subst hh; simp at hb
      simp only [lO, if_neg hne];exact hκ _ e2 a2 h2 L2 hp2 hz g2 fr2
  case region id ops draw =>
    cases hc : IC cuts (some id) 0 with
    | false =>
      simp only [hc] at ht;have hk : ∀ e' a' h', (κ .normal e' L.length) L K h' -> gu n e' a' -> Fr (dstsOf ops) e e' -> Q .normal a' h' := fun e' a' h' hx g' fr' => hκ _ e' a' h' L (ot.refl _) hx g' fr'
      cases draw with
      | false => exact vM hk ht g
      | true => exact hR id ops e _ L K Q a h hk ht g
    | true =>
      simp only [hc] at ht
      obtain ⟨J, k, hf, hk⟩ := Dv (n := n) (fun s hs => by
        have : ∀ l : List Oper, ∀ s ∈ (handsOn P l).map (·.1), s ∈ l.filterMap (·.dst) := by
          intro l
          induction l with
          | nil => intro s hs; simp [handsOn] at hs
          | cons o l ih =>
            intro s hs;cases l with
            | nil =>
              unfold handsOn at hs;cases hd : o.dst with
              | none => simp only [hd] at hs; simp at hs
              | some d => simp only [hd] at hs; simp at hs; subst hs; simp [hd]
            | cons o2 l =>
              have h2 : s ∈ (handsOn P (o2 :: l)).map (·.1) \/ o.dst = some s := by
                unfold handsOn at hs;split at hs
                · rename_i d hop hd
                  simp only [List.map_cons, List.mem_cons] at hs;rcases hs with rfl | hs
                  · exact .inr hd
                  · exact .inl hs
                · exact .inl hs
              rcases h2 with h2 | h2
              · have := ih s h2
                obtain ⟨o', ho', hd'⟩ := Yw.1 this;exact Yw.2 ⟨o', Xh _ ho', hd'⟩
              · exact Yw.2 ⟨o, aj, h2⟩
        exact this _ s hs) ht
      have hk' : ∀ e' a' h', k e' (L ++ [J]) K h' -> gu n e' a' -> Fr (dstsOf ops) e e' -> Q .normal a' h' := by
        intro e2 a2 h2 hz g2 fr2;obtain ⟨e3, fr3, g3, ht3⟩ := hk e2 a2 h2 (L ++ [J]) (ot.refl _) hz g2 fr2;exact hκ _ e3 a2 h2 L (ot.refl _) ht3 g3 fr3
      cases draw with
      | false => exact vM hk' hf g
      | true => exact hR id ops e _ (L ++ [J]) K Q a h hk' hf g
  case loop c =>
    obtain ⟨Inv, h0, hround⟩ := FB (P := P) ht g;refine HP Inv h0 ?_;intro m a1 h1 hI;obtain ⟨e1, J, k, fr1, g1, hb, hk⟩ := hround m a1 h1 hI
    have hb' : fK P n cuts fu c e1 (L ++ [J]).length (fun x e'' lv' => match x with
      | .normal => k e''
      | x => κ x e'' lv') (L ++ [J]) K h1 := by
      have hlen : (L ++ [J]).length = L.length + 1 :=aj
      rw [hlen]; exact hb
    refine ih' fu (Xk _) c e1 _ (L ++ [J]) K _ a1 h1 ?_ hb' g1;intro z e2 a2 h2 L2 hp2 hz g2 fr2
    cases z <;> first
      | exact hκ _ e2 a2 h2 L2 ((ot.snoc _ _).trans hp2) hz g2 (fr1.trans fr2)
      | exact hk e2 a2 h2 L2 hp2 hz g2 fr2
  case scope c =>
    have hκ : Rp n L K e (ej c) κ Q := hκ;cases hb : AU c with
    | none =>
      simp only [hb] at ht;have hback : ∀ l, lY none l = true -> (findLabel c l).isSome = true := fun l hl => by simp [lY] at hl
      cases fu with
      | zero => simp only [ld] at ht; exact ht.elim
      | succ f0 =>
      refine A6 (fu := f0) (fun f hf => ih' f ad) (Inv := fun _ _ _ => False) (back := none) hback hκ (fun l hl => by simp [lY] at hl) ?_
      obtain ⟨f', hf', hall⟩ := ru (fu := f0) (fun f hf => ih' f ad) hback hκ (ot.refl L) (Xk _) (fun s hs => hs) ht g (Fr.refl _ _) (Fr.refl _ _) (m := 0) (Inv := fun _ _ _ => False)
        (fun e2 a2 h2 L2 _ hx _ _ => hx.elim)
      obtain rfl : f0 = f' :=ad
      refine rK ?_ (hall c rfl (fun _ _ _ => rfl));intro x a h hq;cases x <;> first | exact hq | skip
      rename_i l';unfold jb at hq ⊢;simp only at hq ⊢;cases hl' : findLabel c l' with
      | none => simp only [hl'] at hq; exact hq
      | some r2 =>
        simp only [hl'] at hq;rcases hq with ⟨hb, m', hm, hI⟩ | ⟨hb, hs⟩
        · exact hI.elim
        · exact .inr ⟨hb, 0, f0, Xk _, hs⟩
    | some l =>
      simp only [hb] at ht;cases hl : findLabel c l with
      | none => simp only [hl] at ht; exact ht.elim
      | some r =>
        simp only [hl] at ht
        have hback : ∀ l', lY (some l) l' = true -> (findLabel c l').isSome = true := by
          intro l' hl';obtain rfl := vH.1 hl';rw [hl]; rfl
        cases fu with
        | zero => simp only [wy] at ht; exact ht.elim
        | succ f0 =>
        refine A6 (fu := f0) (fun f hf => ih' f ad) (Inv := K2 P n cuts f0 c r l e L K κ) (back := some l) hback hκ ?_ ?_
        · intro l' hl' m a h hI
          obtain rfl := vH.1 hl';obtain ⟨e1, L1, k, f, h1, h2, h3, h4, h5, h6⟩ := S4 m a h hI;exact ⟨r, e1, L1, k, f, hl, h1, h2, h3, h4, h5, h6⟩
        · exact AW (fun f hf => ih' f ad) hκ hl (f0 + 1) c e L a h (Xk _) (ot.refl _) hl (fun s hs => hs) ht g (Fr.refl _ _)
end main
end Go.Sx
