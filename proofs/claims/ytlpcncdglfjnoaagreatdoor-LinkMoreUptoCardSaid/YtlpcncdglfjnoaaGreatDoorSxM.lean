/- A framework of our own, part M: the main theorem: what a function's tree asks, its call does. No condition. -/
import Derived.Test.YtlpcncdglfjnoaaGreatDoorSxC
set_option linter.all false
set_option maxHeartbeats 4000000
namespace Go.Sx
section main
variable {P:Program} {n:Nd} {cuts:List Nat}
theorem Rh.mono {L:Lp} {K:ZB->Hp->Prop} {e0 e1:Env} {ms ms':List Nat} {κ:Exit->Env->Nat->T} {Q:Exit->Act->Hp->Prop} {L':Lp}
  (hk:Rh n L K e0 ms κ Q) (hp:oq L L') (fr:Fr ms e0 e1) (m:∀ s∈ms',s∈ms):Rh n L' K e1 ms' κ Q :=
 fun x e a h L2 hp2 hx g fr2=>hk x e a h L2 (hp.trans hp2) hx g (fr.trans (fr2.mono m))
def Sc (P:Program) (n:Nd) (cuts:List Nat) (c:Code) (e0:Env) (L:Lp) (K:ZB->Hp->Prop) (κ:Exit->Env->Nat->T) (back:Option Nat) (Inv:Nat->Act->Hp->Prop)
  (f m l:Nat) (a:Act) (h:Hp):Prop :=
 ∃ r' e' L' k e1,findLabel c l=some r'/\oq L L'/\kQ P n cuts f c r' e' L'.length back k κ L' K h/\gh n e' a/\Fr (dZ c) e0 e'/\Fr (dZ c) e1 e' /\
  ∀ e2 a2 h2 L2,oq L' L2->k e2 L2 K h2->gh n e2 a2->Fr (dZ c) e1 e2->∃ m',m'<m/\Inv m' a2 h2
theorem ru {fu:Nat} (ih:∀ f,f<=fu->T3 P n cuts f) {c r:Code} {e0 e e1:Env} {L L1:Lp} {K:ZB->Hp->Prop} {κ:Exit->Env->Nat->T} {Q:Exit->Act->Hp->Prop}
  {back:Option Nat} {k:Env->T} {Inv:Nat->Act->Hp->Prop} {m f:Nat} {a:Act} {h:Hp}
  (hback:∀ l,lH back l=true->(findLabel c l).isSome=true) (hκ:Rh n L K e0 (dZ c) κ Q) (hp:oq L L1) (hf:f<=fu+1) (hr:∀ s∈dZ r,s∈dZ c)
  (ht:kQ P n cuts f c r e L1.length back k κ L1 K h) (g:gh n e a) (fr:Fr (dZ c) e0 e) (fr1:Fr (dZ c) e1 e)
  (hk:∀ e2 a2 h2 L2,oq L1 L2->k e2 L2 K h2->gh n e2 a2->Fr (dZ c) e1 e2->∃ m',m'<m/\Inv m' a2 h2) :
  ∃ f',f=f'+1/\∀ t,dZ t=dZ r->(∀ e lv κ,fH P n cuts f' t e lv κ=fH P n cuts f' r e lv κ) ->
   cW P t (iT c (fun l a h=>(lH back l=true/\∃ m',m'<m/\Inv m' a h)\/(lH back l=false/\Sc P n cuts c e0 L K κ back Inv f' m l a h)) Q) a h:=by
 cases f with
 | zero=>simp only [kQ] at ht; exact ht.elim
 | succ f' =>
  refine ⟨f',rfl,fun t hmt hsame=>?_⟩;simp only [kQ] at ht;rw [<- hsame] at ht;refine ih f' ad t e _ L1 K _ a h ?_ ht g;intro x e2 a2 h2 L2 hp2 hx g2 fr2;have fr2':Fr (dZ c) e e2:=fr2.mono (fun s hs=>hr s (hmt▸hs));cases x <;> first
   | exact hκ _ e2 a2 h2 L2 (hp.trans hp2) hx g2 (fr.trans fr2')
   | skip
  rename_i l;simp only at hx;unfold iT;simp only;cases hb:lH back l with
  | true =>
   simp only [hb] at hx;obtain ⟨m',hm,hI⟩:=hk e2 a2 h2 L2 hp2 hx g2 (fr1.trans fr2');cases hl:findLabel c l with
   | some r2=>exact .inl ⟨rfl,m',hm,hI⟩
   | none=>have:=hback l hb; rw [hl] at this; cases this
  | false =>
   simp only [hb] at hx;cases hl:findLabel c l with
   | none=>simp only [hl] at hx; exact hκ _ e2 a2 h2 L2 (hp.trans hp2) hx g2 (fr.trans fr2')
   | some r2 =>
    simp only [hl] at hx;exact .inr ⟨rfl,r2,e2,L2,k,e1,hl,hp.trans hp2,hx,g2,fr.trans fr2',fr1.trans fr2',fun e3 a3 h3 L3 hp3=>hk e3 a3 h3 L3 (hp2.trans hp3)⟩
def VZ (x y:Nat × Nat):Prop:=x.1<y.1\/(x.1=y.1/\x.2<y.2)
theorem Qu:WellFounded VZ:=by
 have h:WellFounded (Prod.Lex (fun a b:Nat=>a<b) (fun a b:Nat=>a<b)):=(Prod.lex Nat.lt_wfRel Nat.lt_wfRel).wf;refine Subrelation.wf ?_ h;rintro ⟨a,b⟩ ⟨c,d⟩ h;rcases h with h | ⟨h1,h2⟩
 ·exact Prod.Lex.left _ _ h
 ·simp only at h1 h2; subst h1; exact Prod.Lex.right _ h2
theorem vU {b l:Nat}:lH (some b) l=true↔b=l:=by
 simp only [lH];exact ⟨fun h=>W3 h,fun h=>by subst h; simp⟩
theorem BM {fu:Nat} (ih:∀ f,f<=fu->T3 P n cuts f) {c:Code} {e:Env} {L:Lp} {K:ZB->Hp->Prop} {κ:Exit->Env->Nat->T} {Q:Exit->Act->Hp->Prop} {a:Act} {h:Hp}
  {back:Option Nat} {Inv:Nat->Act->Hp->Prop} (hback:∀ l,lH back l=true->(findLabel c l).isSome=true) (hκ:Rh n L K e (dZ c) κ Q)
  (round:∀ l,lH back l=true->∀ m a h,Inv m a h->∃ r e1 L1 k f,findLabel c l=some r/\f<=fu+1/\oq L L1/\Fr (dZ c) e e1/\gh n e1 a/\kQ P n cuts f c r e1 L1.length back k κ L1 K h /\
   ∀ e2 a2 h2 L2,oq L1 L2->k e2 L2 K h2->gh n e2 a2->Fr (dZ c) e1 e2->∃ m',m'<m/\Inv m' a2 h2)
  (first:cW P c (iT c (fun l a h=>(lH back l=true/\∃ m,Inv m a h)\/(lH back l=false/\∃ m f,f<=fu/\Sc P n cuts c e L K κ back Inv f m l a h)) Q) a h) :
  cW P (.scope c) Q a h:=by
 have gq:∀ (J J':Nat->Act->Hp->Prop),(∀ l a h,J l a h->J' l a h)->∀ x a h,iT c J Q x a h->iT c J' Q x a h:=by
  intro J J' hJ x a h hq;cases x <;> first | exact hq | skip
  rename_i l;unfold iT at hq ⊢;simp only at hq ⊢;cases hl:findLabel c l with
  | none=>simp only [hl] at hq; exact hq
  | some r2=>simp only [hl] at hq; exact hJ l a h hq
 refine FA Qu (fun l m a h=>(lH back l=true/\m.2=fu+1/\Inv m.1 a h)\/(lH back l=false/\m.2<=fu/\Sc P n cuts c e L K κ back Inv m.2 m.1 l a h)) ?_ ?_
 ·refine rn (gq _ _ ?_) first
  rintro l a h (⟨hb,m,hI⟩ | ⟨hb,m,f,hf,hs⟩)
  ·exact ⟨(m,fu+1),.inl ⟨hb,rfl,hI⟩⟩
  ·exact ⟨(m,f),.inr ⟨hb,hf,hs⟩⟩
 ·rintro l ⟨m,f⟩ a h (⟨hb,hf,hI⟩ | ⟨hb,hf,hs⟩)
  ·obtain ⟨r,e1,L1,k,f1,hl,hf1,hp,fr,g,ht,hk⟩:=round l hb m a h hI;obtain ⟨f',rfl,hall⟩:=ru ih hback hκ hp hf1 (nP hl) ht g fr (Fr.refl _ _) hk;refine ⟨r,hl,rn (gq _ _ ?_) (hall r rfl (fun _ _ _=>rfl))⟩;simp only at hf;rintro l2 a2 h2 (⟨hb2,m',hm,hI2⟩ | ⟨hb2,hs2⟩)
   ·exact ⟨(m',fu+1),.inl hm,.inl ⟨hb2,rfl,hI2⟩⟩
   ·exact ⟨(m,f'),.inr ⟨rfl,by simp only; omega⟩,.inr ⟨hb2,by simp only; omega,hs2⟩⟩
  ·obtain ⟨r,e1,L1,k,e2,hl,hp,ht,g,fr,fr1,hk⟩:=hs;simp only at hf ht hk;obtain ⟨f',rfl,hall⟩:=ru ih hback hκ hp ad (nP hl) ht g fr fr1 hk;refine ⟨r,hl,rn (gq _ _ ?_) (hall r rfl (fun _ _ _=>rfl))⟩;rintro l2 a2 h2 (⟨hb2,m',hm,hI2⟩ | ⟨hb2,hs2⟩)
   ·exact ⟨(m',fu+1),.inl hm,.inl ⟨hb2,rfl,hI2⟩⟩
   ·exact ⟨(m,f'),.inr ⟨rfl,by simp only; omega⟩,.inr ⟨hb2,by simp only; omega,hs2⟩⟩
def GB (P:Program) (n:Nd) (cuts:List Nat) (fu:Nat) (c r:Code) (l:Nat) (e:Env) (L:Lp) (K:ZB->Hp->Prop) (κ:Exit->Env->Nat->T) (Inv:Nat->Act->Hp->Prop):Prop :=
 ∀ m a h,Inv m a h->∃ e1 L1 k f,f<=fu+1/\oq L L1/\Fr (dZ c) e e1/\gh n e1 a/\kQ P n cuts f c r e1 L1.length (some l) k κ L1 K h /\
   ∀ e2 a2 h2 L2,oq L1 L2->k e2 L2 K h2->gh n e2 a2->Fr (dZ c) e1 e2->∃ m',m'<m/\Inv m' a2 h2
def NM (P:Program) (n:Nd) (cuts:List Nat) (fu:Nat) (c r:Code) (l:Nat) (e:Env) (L:Lp) (K:ZB->Hp->Prop) (κ:Exit->Env->Nat->T) (m:Nat) (a:Act) (h:Hp):Prop :=
 ∃ Inv,GB P n cuts fu c r l e L K κ Inv/\Inv m a h
theorem SE {fu:Nat} {c r:Code} {l:Nat} {e:Env} {L:Lp} {K:ZB->Hp->Prop} {κ:Exit->Env->Nat->T}:GB P n cuts fu c r l e L K κ (NM P n cuts fu c r l e L K κ):=by
 rintro m a h ⟨Inv,hR,hI⟩;obtain ⟨e1,L1,k,f,h1,h2,h3,h4,h5,h6⟩:=hR m a h hI;refine ⟨e1,L1,k,f,h1,h2,h3,h4,h5,fun e2 a2 h2 L2 hp hk g fr=>?_⟩;obtain ⟨m',hm,hI'⟩:=h6 e2 a2 h2 L2 hp hk g fr;exact ⟨m',hm,Inv,hR,hI'⟩
theorem BG {fu:Nat} (ih:∀ f,f<=fu->T3 P n cuts f) {c r:Code} {l:Nat} {e:Env} {L:Lp} {K:ZB->Hp->Prop} {κ:Exit->Env->Nat->T} {Q:Exit->Act->Hp->Prop}
  (hκ:Rh n L K e (dZ c) κ Q) (hl:findLabel c l=some r):∀ (f:Nat) (t:Code) (e1:Env) (L1:Lp) (a:Act) (h:Hp),f<=fu+1->oq L L1->findLabel t l=some r->(∀ s∈dZ t,s∈dZ c) ->
  we P n cuts f c t l r e1 L1.length κ L1 K h->gh n e1 a->Fr (dZ c) e e1 ->
   cW P t (iT c (fun l' a h=>(lH (some l) l'=true/\∃ m,NM P n cuts fu c r l e L K κ m a h)\/(lH (some l) l'=false/\∃ m f,f<=fu/\Sc P n cuts c e L K κ (some l) (NM P n cuts fu c r l e L K κ) f m l' a h)) Q) a h
 | 0,t,e1,L1,a,h,_,_,_,_,ht,_,_=>by simp only [we] at ht; exact ht.elim
 | f+1,t,e1,L1,a,h,hf,hp,htl,hmt,ht,g,fr=>by
  unfold we at ht;cases hh:fm l t with
  | true =>
   simp only [hh] at ht;obtain ⟨Inv,⟨m0,hI0⟩,hround⟩:=EI (P:=P) ht g;have hback:∀ l',lH (some l) l'=true->(findLabel c l').isSome=true:=by
    intro l' hl';obtain rfl:=vU.1 hl';rw [hl]; rfl
   have hR:GB P n cuts fu c r l e L K κ Inv:=by
    intro m a1 h1 hI;obtain ⟨e2,J,k,fr2,g2,hb,hk⟩:=hround m a1 h1 hI;refine ⟨e2,L1++[J],k,f,ad,hp.trans (oq.snoc _ _),fr.trans fr2,g2,?_,hk⟩;simpa using hb
   obtain ⟨e2,J,k,fr2,g2,hb,hk⟩:=hround m0 a h hI0;have hb':kQ P n cuts f c r e2 (L1++[J]).length (some l) k κ (L1++[J]) K h:=by simpa using hb
   have hk':∀ e3 a2 h2 L2,oq (L1++[J]) L2->k e3 L2 K h2->gh n e3 a2->Fr (dZ c) e2 e3->∃ m',m'<m0/\NM P n cuts fu c r l e L K κ m' a2 h2:=by
    intro e3 a2 h2 L2 hp2 hx g3 fr3;obtain ⟨m',hm,hI'⟩:=hk e3 a2 h2 L2 hp2 hx g3 fr3;exact ⟨m',hm,Inv,hR,hI'⟩
   obtain ⟨f',rfl,hall⟩:=ru ih hback hκ (hp.trans (oq.snoc _ _)) ad (nP hl) hb' g2 (fr.trans fr2) (Fr.refl _ _) hk';obtain ⟨h1,h2⟩:=Bq (P:=P) (n:=n) (cuts:=cuts) t hh htl;refine rn ?_ (hall t h1 (h2 _));intro x a h hq;cases x <;> first | exact hq | skip
   rename_i l';unfold iT at hq ⊢;simp only at hq ⊢;cases hl':findLabel c l' with
   | none=>simp only [hl'] at hq; exact hq
   | some r2 =>
    simp only [hl'] at hq;rcases hq with ⟨hb,m',hm,hI⟩ | ⟨hb,hs⟩
    ·exact .inl ⟨hb,m',hI⟩
    ·exact .inr ⟨hb,m0,f',ad,hs⟩
  | false =>
   simp only [hh] at ht;obtain ⟨x,y,rfl⟩:∃ x y,t=.seq x y:=by
    cases t <;> first | exact ⟨_,_,rfl⟩ | exact ht.elim
   simp only at ht;cases hx:findLabel x l with
   | some rx=>simp only [hx] at ht; exact ht.elim
   | none =>
    simp only [hx] at ht;have hty:findLabel y l=some r:=by simpa [findLabel,hx] using htl
    refine Cn (ih f ad x e1 _ L1 K _ a h ?_ ht g);intro z e2 a2 h2 L2 hp2 hz g2 fr2;have fr2':Fr (dZ c) e e2:=fr.trans (fr2.mono fun s hs=>hmt s (Xk _ hs));cases z <;> first
     | exact BG ih hκ hl f y e2 L2 a2 h2 ad (hp.trans hp2) hty (fun s hs=>hmt s (Xr _ hs)) hz g2 fr2'
     | exact hκ _ e2 a2 h2 L2 (hp.trans hp2) hz g2 fr2'
     | exact hz.elim
def Wf (P:Program) (n:Nd):Prop :=
 ∀ (id:Nat) (ops:Array Oper) (e:Env) (k:Env->T) (L:Lp) (K:ZB->Hp->Prop) (Q:Exit->Act->Hp->Prop) (a:Act) (h:Hp),
  (∀ e' a' h',k e' L K h'->gh n e' a'->Fr (dstsOf ops) e e'->Q .normal a' h')->uO P n id ops e k L K h->gh n e a->cW P (.region id ops true) Q a h
theorem wK {id:Nat} {ops:Array Oper} {e:Env} {k:Env->T} {L:Lp} {K:ZB->Hp->Prop} {Q:Exit->Act->Hp->Prop} {a:Act} {h:Hp}
  (hk:∀ e' a' h',k e' L K h'->gh n e' a'->Fr (dstsOf ops) e e'->Q .normal a' h') (ht:Ep P n ops ops.toList e k L K h) (g:gh n e a):cW P (.region id ops false) Q a h :=
 fun w0 w hs hw=>wp_region_list (B3 hk ops.toList e a h (fun _ ho=>ho) ht g (Fr.refl _ _) w0 w hs hw)
theorem Ni (hR : Wf P n) : ∀ fu, T3 P n cuts fu := by
  intro fu
  induction fu using Nat.strongRecOn with
  | _ fu ih =>
  intro c e κ L K Q a h hκ ht g;cases fu with
  | zero => simp only [fH] at ht; exact ht.elim
  | succ fu =>
  have ih' : ∀ f, f <= fu -> T3 P n cuts f := fun f hf => ih f ad
  unfold fH at ht;cases c <;> simp only at ht
  case skip => exact HD (hκ _ e a h L (oq.refl _) ht g (Fr.refl _ _))
  case label l => exact Dw (hκ _ e a h L (oq.refl _) ht g (Fr.refl _ _))
  case exit i => exact Il (hκ _ e a h L (oq.refl _) ht g (Fr.refl _ _))
  case goto i => exact IB (hκ _ e a h L (oq.refl _) ht g (Fr.refl _ _))
  case ret => exact Lo (hκ _ e a h L (oq.refl _) ht g (Fr.refl _ _))
  case refuse s => exact ht.elim
  case rangeFunc f ps x y => exact ht.elim
  case seq x y =>
    cases hc : HO cuts (jC y) 1000 with
    | false =>
      simp only [hc] at ht;refine Cn (ih' fu (W9 _) x e _ L K _ a h ?_ ht g);intro z e2 a2 h2 L2 hp2 hz g2 fr2;have fr2' : Fr (dZ (.seq x y)) e e2 := fr2.mono fun s hs => Xk _ hs
      cases z <;> first
        | exact ih' fu (W9 _) y e2 κ L2 K Q a2 h2 (hκ.mono hp2 fr2' fun s hs => Xr _ hs) hz g2
        | exact hκ _ e2 a2 h2 L2 hp2 hz g2 fr2'
    | true =>
      simp only [hc] at ht
      obtain ⟨J, k, hf, hk⟩ := Fs (n := n) (fun s hs => by
        have h1 : ∀ l : List Nat, ∀ t ∈ (live e l).map (·.1), t ∈ l := by
          intro l
          induction l with
          | nil => intro t ht; simp [live] at ht
          | cons u l ih =>
            intro t ht;unfold live at ht;cases hv : cJ e u with
            | none => simp only [hv] at ht; exact Xb _ (ih t ht)
            | some v =>
              simp only [hv, List.map_cons, List.mem_cons] at ht;rcases ht with rfl | ht
              · simp
              · exact Xb _ (ih t ht)
        exact (rR _).1 (h1 _ _ hs)) ht
      have hf' : fH P n cuts fu x e (L ++ [J]).length (fun x e' lv' => match x with
            | .normal => k e'
            | x => κ x e' lv') (L ++ [J]) K h := by
        have hlen : (L ++ [J]).length = L.length + 1 :=aj
        rw [hlen]; exact hf
      refine Cn (ih' fu (W9 _) x e _ (L ++ [J]) K _ a h ?_ hf' g);intro z e2 a2 h2 L2 hp2 hz g2 fr2;have fr2' : Fr (dZ (.seq x y)) e e2 := fr2.mono fun s hs => Xk _ hs
      cases z <;> first
        | exact hκ _ e2 a2 h2 L2 ((oq.snoc _ _).trans hp2) hz g2 fr2'
        | skip
      obtain ⟨e3, fr3, g3, ht3⟩ := hk e2 a2 h2 L2 hp2 hz g2 fr2;exact ih' fu (W9 _) y e3 κ L K Q a2 h2 (hκ.mono (oq.refl _) (fr3.mono fun s hs => Xk _ hs) fun s hs => Xr _ hs) ht3 g3
  case cond c x y =>
    cases hv : ev e c with
    | none => simp only [hv] at ht; exact ht.elim
    | some v =>
      cases v <;> simp only [hv] at ht <;> first | exact ht.elim | skip
      rename_i b;refine Cl (b := b) (g.ev hv) (fun hb => ?_) (fun hb => ?_) <;> subst hb
      · exact ih' fu (W9 _) x e κ L K Q a h (hκ.mono (oq.refl _) (Fr.refl _ _) fun s hs => Xk _ hs) ht g
      · exact ih' fu (W9 _) y e κ L K Q a h (hκ.mono (oq.refl _) (Fr.refl _ _) fun s hs => Xr _ hs) ht g
  case block id x =>
    refine Fi (ih' fu (W9 _) x e _ L K _ a h ?_ ht g);intro z e2 a2 h2 L2 hp2 hz g2 fr2
    cases z <;> first
      | exact hκ _ e2 a2 h2 L2 hp2 hz g2 fr2
      | skip
    rename_i i;simp only at hz;cases hb : Nat.beq i id with
    | true =>
      simp only [hb] at hz;have := W3 hb;subst this;simp only [kS, if_true];exact hκ _ e2 a2 h2 L2 hp2 hz g2 fr2
    | false =>
      simp only [hb] at hz;have hne : ¬ i = id := by intro hh; subst hh; simp at hb
      simp only [kS, if_neg hne];exact hκ _ e2 a2 h2 L2 hp2 hz g2 fr2
  case region id ops draw =>
    cases hc : HO cuts (some id) 0 with
    | false =>
      simp only [hc] at ht;have hk : ∀ e' a' h', (κ .normal e' L.length) L K h' -> gh n e' a' -> Fr (dstsOf ops) e e' -> Q .normal a' h' := fun e' a' h' hx g' fr' => hκ _ e' a' h' L (oq.refl _) hx g' fr'
      cases draw with
      | false => exact wK hk ht g
      | true => exact hR id ops e _ L K Q a h hk ht g
    | true =>
      simp only [hc] at ht
      obtain ⟨J, k, hf, hk⟩ := Fs (n := n) (fun s hs => by
        have : ∀ l : List Oper, ∀ s ∈ (handsOn P l).map (·.1), s ∈ l.filterMap (·.dst) := by
          intro l
          induction l with
          | nil => intro s hs; simp [handsOn] at hs
          | cons o l ih =>
            intro s hs;cases l with
            | nil =>
              unfold handsOn at hs;cases hd : o.dst with
              | none => simp only [hd] at hs; simp at hs
              | some d => simp only [hd] at hs; simp at hs; subst hs; simp [hd]
            | cons o2 l =>
              have h2 : s ∈ (handsOn P (o2 :: l)).map (·.1) \/ o.dst = some s := by
                unfold handsOn at hs;split at hs
                · rename_i d hop hd
                  simp only [List.map_cons, List.mem_cons] at hs;rcases hs with rfl | hs
                  · exact .inr hd
                  · exact .inl hs
                · exact .inl hs
              rcases h2 with h2 | h2
              · have := ih s h2
                obtain ⟨o', ho', hd'⟩ := Ye.1 this;exact Ye.2 ⟨o', Xb _ ho', hd'⟩
              · exact Ye.2 ⟨o, aj, h2⟩
        exact this _ s hs) ht
      have hk' : ∀ e' a' h', k e' (L ++ [J]) K h' -> gh n e' a' -> Fr (dstsOf ops) e e' -> Q .normal a' h' := by
        intro e2 a2 h2 hz g2 fr2;obtain ⟨e3, fr3, g3, ht3⟩ := hk e2 a2 h2 (L ++ [J]) (oq.refl _) hz g2 fr2;exact hκ _ e3 a2 h2 L (oq.refl _) ht3 g3 fr3
      cases draw with
      | false => exact wK hk' hf g
      | true => exact hR id ops e _ (L ++ [J]) K Q a h hk' hf g
  case loop c =>
    obtain ⟨Inv, h0, hround⟩ := EI (P := P) ht g;refine H3 Inv h0 ?_;intro m a1 h1 hI;obtain ⟨e1, J, k, fr1, g1, hb, hk⟩ := hround m a1 h1 hI
    have hb' : fH P n cuts fu c e1 (L ++ [J]).length (fun x e'' lv' => match x with
      | .normal => k e''
      | x => κ x e'' lv') (L ++ [J]) K h1 := by
      have hlen : (L ++ [J]).length = L.length + 1 :=aj
      rw [hlen]; exact hb
    refine ih' fu (W9 _) c e1 _ (L ++ [J]) K _ a1 h1 ?_ hb' g1;intro z e2 a2 h2 L2 hp2 hz g2 fr2
    cases z <;> first
      | exact hκ _ e2 a2 h2 L2 ((oq.snoc _ _).trans hp2) hz g2 (fr1.trans fr2)
      | exact hk e2 a2 h2 L2 hp2 hz g2 fr2
  case scope c =>
    have hκ : Rh n L K e (dZ c) κ Q := hκ;cases hb : Br c with
    | none =>
      simp only [hb] at ht;have hback : ∀ l, lH none l = true -> (findLabel c l).isSome = true := fun l hl => by simp [lH] at hl
      cases fu with
      | zero => simp only [kQ] at ht; exact ht.elim
      | succ f0 =>
      refine BM (fu := f0) (fun f hf => ih' f ad) (Inv := fun _ _ _ => False) (back := none) hback hκ (fun l hl => by simp [lH] at hl) ?_
      obtain ⟨f', hf', hall⟩ := ru (fu := f0) (fun f hf => ih' f ad) hback hκ (oq.refl L) (W9 _) (fun s hs => hs) ht g (Fr.refl _ _) (Fr.refl _ _) (m := 0) (Inv := fun _ _ _ => False)
        (fun e2 a2 h2 L2 _ hx _ _ => hx.elim)
      obtain rfl : f0 = f' :=ad
      refine rn ?_ (hall c rfl (fun _ _ _ => rfl));intro x a h hq;cases x <;> first | exact hq | skip
      rename_i l';unfold iT at hq ⊢;simp only at hq ⊢;cases hl' : findLabel c l' with
      | none => simp only [hl'] at hq; exact hq
      | some r2 =>
        simp only [hl'] at hq;rcases hq with ⟨hb, m', hm, hI⟩ | ⟨hb, hs⟩
        · exact hI.elim
        · exact .inr ⟨hb, 0, f0, W9 _, hs⟩
    | some l =>
      simp only [hb] at ht;cases hl : findLabel c l with
      | none => simp only [hl] at ht; exact ht.elim
      | some r =>
        simp only [hl] at ht
        have hback : ∀ l', lH (some l) l' = true -> (findLabel c l').isSome = true := by
          intro l' hl';obtain rfl := vU.1 hl';rw [hl]; rfl
        cases fu with
        | zero => simp only [we] at ht; exact ht.elim
        | succ f0 =>
        refine BM (fu := f0) (fun f hf => ih' f ad) (Inv := NM P n cuts f0 c r l e L K κ) (back := some l) hback hκ ?_ ?_
        · intro l' hl' m a h hI
          obtain rfl := vU.1 hl';obtain ⟨e1, L1, k, f, h1, h2, h3, h4, h5, h6⟩ := SE m a h hI;exact ⟨r, e1, L1, k, f, hl, h1, h2, h3, h4, h5, h6⟩
        · exact BG (fun f hf => ih' f ad) hκ hl (f0 + 1) c e L a h (W9 _) (oq.refl _) hl (fun s hs => hs) ht g (Fr.refl _ _)
end main
end Go.Sx
