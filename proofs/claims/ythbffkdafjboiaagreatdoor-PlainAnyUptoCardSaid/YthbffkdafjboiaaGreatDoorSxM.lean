/- Part of the framework. No condition. -/
import Derived.Test.YthbffkdafjboiaaGreatDoorSxC
set_option linter.all false
set_option maxHeartbeats 4000000
namespace Go.Sx
section main
variable {P:Program} {n:Nd} {cuts:List Nat}
def S8.mono {L:Lp} {K:Xab->Hp->Prop} {e0 e1:Env} {ms d:List Nat} {κ:Exit->Env->Nat->T} {Q:Exit->Act->Hp->Prop} {F:Lp}
  (hk:S8 n L K e0 ms κ Q) (G:pd L F) (fr:Fr ms e0 e1) (m:∀ s∈d,s∈ms):S8 n F K e1 d κ Q :=
 fun x e a h J j hx g u=>hk x e a h J (G.trans j) hx g (fr.trans (u.mono m))
def Sc (P:Program) (n:Nd) (cuts:List Nat) (c:Code) (e0:Env) (L:Lp) (K:Xab->Hp->Prop) (κ:Exit->Env->Nat->T) (back:Option Nat) (Inv:Nat->Act->Hp->Prop)
  (f m l:Nat) (a:Act) (h:Hp):Prop :=
 ∃ j e' d k e1,findLabel c l=some j/\pd L d/\lP P n cuts f c j e' d.length back k κ d K h/\gK n e' a/\Fr (ez c) e0 e'/\Fr (ez c) e1 e' /\
  ∀ e2 a2 h2 u,pd d u->k e2 u K h2->gK n e2 a2->Fr (ez c) e1 e2->∃ m',m'<m/\Inv m' a2 h2
def r7 {fu:Nat} (ih:∀ f,f<=fu->Vn P n cuts f) {c r:Code} {e0 e e1:Env} {L J:Lp} {K:Xab->Hp->Prop} {κ:Exit->Env->Nat->T} {Q:Exit->Act->Hp->Prop}
  {back:Option Nat} {k:Env->T} {Inv:Nat->Act->Hp->Prop} {m f:Nat} {a:Act} {h:Hp}
  (u:∀ l,mP back l=true->(findLabel c l).isSome=true) (hκ:S8 n L K e0 (ez c) κ Q) (V:pd L J) (hf:f<=fu+1) (hr:∀ s∈ez r,s∈ez c)
  (O:lP P n cuts f c r e J.length back k κ J K h) (g:gK n e a) (fr:Fr (ez c) e0 e) (U:Fr (ez c) e1 e)
  (hk:∀ e2 a2 h2 F,pd J F->k e2 F K h2->gK n e2 a2->Fr (ez c) e1 e2->∃ m',m'<m/\Inv m' a2 h2) :
  ∃ f',f=f'+1/\∀ t,ez t=ez r->(∀ e lv κ,fO P n cuts f' t e lv κ=fO P n cuts f' r e lv κ) ->
   cW P t (jk c (fun l a h=>(mP back l=true/\∃ m',m'<m/\Inv m' a h)\/(mP back l=false/\Sc P n cuts c e0 L K κ back Inv f' m l a h)) Q) a h:=by
 cases f with
 | zero=>simp only [lP] at O; exact O.elim
 | succ f' =>
  refine ⟨f',rfl,fun t X G=>?_⟩;simp only [lP] at O;rw [<- G] at O;refine ih f' ad t e _ J K _ a h ?_ O g;intro x e2 a2 h2 F j hx g2 Y;have d:Fr (ez c) e e2:=Y.mono (fun s hs=>hr s (X▸hs));cases x <;> first
   | exact hκ _ e2 a2 h2 F (V.trans j) hx g2 (fr.trans d)
   | skip
  rename_i l;simp only at hx;unfold jk;simp only;cases Z:mP back l with
  | true =>
   simp only [Z] at hx;obtain ⟨m',hm,hI⟩:=hk e2 a2 h2 F j hx g2 (U.trans d);cases hl:findLabel c l with
   | some r2=>exact .inl ⟨rfl,m',hm,hI⟩
   | none=>have:=u l Z; rw [hl] at this; cases this
  | false =>
   simp only [Z] at hx;cases hl:findLabel c l with
   | none=>simp only [hl] at hx; exact hκ _ e2 a2 h2 F (V.trans j) hx g2 (fr.trans d)
   | some r2 =>
    simp only [hl] at hx;exact .inr ⟨rfl,r2,e2,F,k,e1,hl,V.trans j,hx,g2,fr.trans d,U.trans d,fun e3 a3 h3 L3 hp3=>hk e3 a3 h3 L3 (j.trans hp3)⟩
def Xu (x y:Nat × Nat):Prop:=x.1<y.1\/(x.1=y.1/\x.2<y.2)
def Ql:WellFounded Xu:=by
 have h:WellFounded (Prod.Lex (fun a b:Nat=>a<b) (fun a b:Nat=>a<b)):=(Prod.lex Nat.lt_wfRel Nat.lt_wfRel).wf;refine Subrelation.wf ?_ h;rintro ⟨a,b⟩ ⟨c,d⟩ h;rcases h with h | ⟨h1,h2⟩
 ·exact Prod.Lex.left _ _ h
 ·simp only at h1 h2; subst h1; exact Prod.Lex.right _ h2
def wH {b l:Nat}:mP (some b) l=true↔b=l:=by
 simp only [mP];exact ⟨fun h=>YL h,fun h=>by subst h; simp⟩
def BW {fu:Nat} (ih:∀ f,f<=fu->Vn P n cuts f) {c:Code} {e:Env} {L:Lp} {K:Xab->Hp->Prop} {κ:Exit->Env->Nat->T} {Q:Exit->Act->Hp->Prop} {a:Act} {h:Hp}
  {back:Option Nat} {Inv:Nat->Act->Hp->Prop} (j:∀ l,mP back l=true->(findLabel c l).isSome=true) (hκ:S8 n L K e (ez c) κ Q)
  (round:∀ l,mP back l=true->∀ m a h,Inv m a h->∃ r e1 U k f,findLabel c l=some r/\f<=fu+1/\pd L U/\Fr (ez c) e e1/\gK n e1 a/\lP P n cuts f c r e1 U.length back k κ U K h /\
   ∀ e2 a2 h2 L2,pd U L2->k e2 L2 K h2->gK n e2 a2->Fr (ez c) e1 e2->∃ m',m'<m/\Inv m' a2 h2)
  (first:cW P c (jk c (fun l a h=>(mP back l=true/\∃ m,Inv m a h)\/(mP back l=false/\∃ m f,f<=fu/\Sc P n cuts c e L K κ back Inv f m l a h)) Q) a h) :
  cW P (.scope c) Q a h:=by
 have Z:∀ (J J':Nat->Act->Hp->Prop),(∀ l a h,J l a h->J' l a h)->∀ x a h,jk c J Q x a h->jk c J' Q x a h:=by
  intro J J' hJ x a h F;cases x <;> first | exact F | skip
  rename_i l;unfold jk at F ⊢;simp only at F ⊢;cases hl:findLabel c l with
  | none=>simp only [hl] at F; exact F
  | some r2=>simp only [hl] at F; exact hJ l a h F
 refine Eb Ql (fun l m a h=>(mP back l=true/\m.2=fu+1/\Inv m.1 a h)\/(mP back l=false/\m.2<=fu/\Sc P n cuts c e L K κ back Inv m.2 m.1 l a h)) ?_ ?_
 ·refine sH (Z _ _ ?_) first
  rintro l a h (⟨V,m,hI⟩ | ⟨V,m,f,X,hs⟩)
  ·exact ⟨(m,fu+1),.inl ⟨V,rfl,hI⟩⟩
  ·exact ⟨(m,f),.inr ⟨V,X,hs⟩⟩
 ·rintro l ⟨m,f⟩ a h (⟨V,X,hI⟩ | ⟨V,X,hs⟩)
  ·obtain ⟨r,e1,U,k,f1,hl,hf1,hp,fr,g,Y,hk⟩:=round l V m a h hI;obtain ⟨f',rfl,u⟩:=r7 ih j hκ hp hf1 (oY hl) Y g fr (Fr.refl _ _) hk;refine ⟨r,hl,sH (Z _ _ ?_) (u r rfl (fun _ _ _=>rfl))⟩;simp only at X;rintro l2 a2 h2 (⟨d,m',hm,G⟩ | ⟨d,O⟩)
   ·exact ⟨(m',fu+1),.inl hm,.inl ⟨d,rfl,G⟩⟩
   ·exact ⟨(m,f'),.inr ⟨rfl,by simp only; omega⟩,.inr ⟨d,by simp only; omega,O⟩⟩
  ·obtain ⟨r,e1,U,k,e2,hl,hp,Y,g,fr,fr1,hk⟩:=hs;simp only at X Y hk;obtain ⟨f',rfl,u⟩:=r7 ih j hκ hp ad (oY hl) Y g fr fr1 hk;refine ⟨r,hl,sH (Z _ _ ?_) (u r rfl (fun _ _ _=>rfl))⟩;rintro l2 a2 h2 (⟨d,m',hm,G⟩ | ⟨d,O⟩)
   ·exact ⟨(m',fu+1),.inl hm,.inl ⟨d,rfl,G⟩⟩
   ·exact ⟨(m,f'),.inr ⟨rfl,by simp only; omega⟩,.inr ⟨d,by simp only; omega,O⟩⟩
def GU (P:Program) (n:Nd) (cuts:List Nat) (fu:Nat) (c r:Code) (l:Nat) (e:Env) (L:Lp) (K:Xab->Hp->Prop) (κ:Exit->Env->Nat->T) (Inv:Nat->Act->Hp->Prop):Prop :=
 ∀ m a h,Inv m a h->∃ e1 d k f,f<=fu+1/\pd L d/\Fr (ez c) e e1/\gK n e1 a/\lP P n cuts f c r e1 d.length (some l) k κ d K h /\
   ∀ e2 a2 h2 j,pd d j->k e2 j K h2->gK n e2 a2->Fr (ez c) e1 e2->∃ m',m'<m/\Inv m' a2 h2
def Mm (P:Program) (n:Nd) (cuts:List Nat) (fu:Nat) (c r:Code) (l:Nat) (e:Env) (L:Lp) (K:Xab->Hp->Prop) (κ:Exit->Env->Nat->T) (m:Nat) (a:Act) (h:Hp):Prop :=
 ∃ Inv,GU P n cuts fu c r l e L K κ Inv/\Inv m a h
def UC {fu:Nat} {c r:Code} {l:Nat} {e:Env} {L:Lp} {K:Xab->Hp->Prop} {κ:Exit->Env->Nat->T}:GU P n cuts fu c r l e L K κ (Mm P n cuts fu c r l e L K κ):=by
 rintro m a h ⟨Inv,j,u⟩;obtain ⟨e1,F,k,f,h1,h2,h3,h4,h5,h6⟩:=j m a h u;refine ⟨e1,F,k,f,h1,h2,h3,h4,h5,fun e2 a2 h2 G J hk g fr=>?_⟩;obtain ⟨m',hm,d⟩:=h6 e2 a2 h2 G J hk g fr;exact ⟨m',hm,Inv,j,d⟩
theorem BN {fu:Nat} (ih:∀ f,f<=fu->Vn P n cuts f) {c r:Code} {l:Nat} {e:Env} {L:Lp} {K:Xab->Hp->Prop} {κ:Exit->Env->Nat->T} {Q:Exit->Act->Hp->Prop}
  (hκ:S8 n L K e (ez c) κ Q) (hl:findLabel c l=some r):∀ (f:Nat) (t:Code) (e1:Env) (F:Lp) (a:Act) (h:Hp),f<=fu+1->pd L F->findLabel t l=some r->(∀ s∈ez t,s∈ez c) ->
  xk P n cuts f c t l r e1 F.length κ F K h->gK n e1 a->Fr (ez c) e e1 ->
   cW P t (jk c (fun l' a h=>(mP (some l) l'=true/\∃ m,Mm P n cuts fu c r l e L K κ m a h)\/(mP (some l) l'=false/\∃ m f,f<=fu/\Sc P n cuts c e L K κ (some l) (Mm P n cuts fu c r l e L K κ) f m l' a h)) Q) a h
 | 0,t,e1,F,a,h,_,_,_,_,j,_,_=>by simp only [xk] at j; exact j.elim
 | f+1,t,e1,F,a,h,hf,hp,htl,hmt,j,g,fr=>by
  unfold xk at j;cases hh:fG l t with
  | true =>
   simp only [hh] at j;obtain ⟨Inv,⟨m0,hI0⟩,d⟩:=Gr (P:=P) j g;have V:∀ l',mP (some l) l'=true->(findLabel c l').isSome=true:=by
    intro l' G;obtain rfl:=wH.1 G;rw [hl]; rfl
   have hR:GU P n cuts fu c r l e L K κ Inv:=by
    intro m a1 h1 hI;obtain ⟨e2,J,k,u,g2,X,hk⟩:=d m a1 h1 hI;refine ⟨e2,F++[J],k,f,ad,hp.trans (pd.snoc _ _),fr.trans u,g2,?_,hk⟩;simpa using X
   obtain ⟨e2,J,k,u,g2,X,hk⟩:=d m0 a h hI0;have hb':lP P n cuts f c r e2 (F++[J]).length (some l) k κ (F++[J]) K h:=by simpa using X
   have hk':∀ e3 a2 h2 Y,pd (F++[J]) Y->k e3 Y K h2->gK n e3 a2->Fr (ez c) e2 e3->∃ m',m'<m0/\Mm P n cuts fu c r l e L K κ m' a2 h2:=by
    intro e3 a2 h2 Y O hx g3 fr3;obtain ⟨m',hm,hI'⟩:=hk e3 a2 h2 Y O hx g3 fr3;exact ⟨m',hm,Inv,hR,hI'⟩
   obtain ⟨f',rfl,hall⟩:=r7 ih V hκ (hp.trans (pd.snoc _ _)) ad (oY hl) hb' g2 (fr.trans u) (Fr.refl _ _) hk';obtain ⟨h1,h2⟩:=BU (P:=P) (n:=n) (cuts:=cuts) t hh htl;refine sH ?_ (hall t h1 (h2 _));intro x a h Z;cases x <;> first | exact Z | skip
   rename_i l';unfold jk at Z ⊢;simp only at Z ⊢;cases G:findLabel c l' with
   | none=>simp only [G] at Z; exact Z
   | some r2 =>
    simp only [G] at Z;rcases Z with ⟨X,m',hm,hI⟩ | ⟨X,hs⟩
    ·exact .inl ⟨X,m',hI⟩
    ·exact .inr ⟨X,m0,f',ad,hs⟩
  | false =>
   simp only [hh] at j;obtain ⟨x,y,rfl⟩:∃ x y,t=.seq x y:=by
    cases t <;> first | exact ⟨_,_,rfl⟩ | exact j.elim
   simp only at j;cases hx:findLabel x l with
   | some rx=>simp only [hx] at j; exact j.elim
   | none =>
    simp only [hx] at j;have hty:findLabel y l=some r:=by simpa [findLabel,hx] using htl
    refine C8 (ih f ad x e1 _ F K _ a h ?_ j g);intro z e2 a2 h2 Y O hz g2 u;have U:Fr (ez c) e e2:=fr.trans (u.mono fun s hs=>hmt s (Y3 _ hs));cases z <;> first
     | exact BN ih hκ hl f y e2 Y a2 h2 ad (hp.trans O) hty (fun s hs=>hmt s (Y8 _ hs)) hz g2 U
     | exact hκ _ e2 a2 h2 Y (hp.trans O) hz g2 U
     | exact hz.elim
def XN (P:Program) (n:Nd):Prop :=
 ∀ (id:Nat) (ops:Array Oper) (e:Env) (k:Env->T) (L:Lp) (K:Xab->Hp->Prop) (Q:Exit->Act->Hp->Prop) (a:Act) (h:Hp),
  (∀ e' a' h',k e' L K h'->gK n e' a'->Fr (dstsOf ops) e e'->Q .normal a' h')->vK P n id ops e k L K h->gK n e a->cW P (.region id ops true) Q a h
def wK {id:Nat} {ops:Array Oper} {e:Env} {k:Env->T} {L:Lp} {K:Xab->Hp->Prop} {Q:Exit->Act->Hp->Prop} {a:Act} {h:Hp}
  (hk:∀ e' a' h',k e' L K h'->gK n e' a'->Fr (dstsOf ops) e e'->Q .normal a' h') (d:EZ P n ops ops.toList e k L K h) (g:gK n e a):cW P (.region id ops false) Q a h :=
 fun j w hs hw=>wp_region_list (DJ hk ops.toList e a h (fun _ u=>u) d g (Fr.refl _ _) j w hs hw)
def Mj (hR : XN P n) : ∀ fu, Vn P n cuts fu := by
  intro fu
  induction fu using Nat.strongRecOn with
  | _ fu ih =>
  intro c e κ L K Q a h U j g;cases fu with
  | zero => simp only [fO] at j; exact j.elim
  | succ fu =>
  have G : ∀ f, f <= fu -> Vn P n cuts f := fun f hf => ih f ad
  unfold fO at j;cases c <;> simp only at j
  case skip => exact I9 (U _ e a h L (pd.refl _) j g (Fr.refl _ _))
  case label l => exact E4 (U _ e a h L (pd.refl _) j g (Fr.refl _ _))
  case exit i => exact Ja (U _ e a h L (pd.refl _) j g (Fr.refl _ _))
  case goto i => exact Iv (U _ e a h L (pd.refl _) j g (Fr.refl _ _))
  case ret => exact Of (U _ e a h L (pd.refl _) j g (Fr.refl _ _))
  case refuse s => exact j.elim
  case rangeFunc f ps x y => exact j.elim
  case seq x y =>
    cases hc : JD cuts (j3 y) 1000 with
    | false =>
      simp only [hc] at j;refine C8 (G fu (YI _) x e _ L K _ a h ?_ j g);intro z e2 a2 h2 L2 O X g2 F;have Z : Fr (ez (.seq x y)) e e2 := F.mono fun s hs => Y3 _ hs
      cases z <;> first
        | exact G fu (YI _) y e2 κ L2 K Q a2 h2 (U.mono O Z fun s hs => Y8 _ hs) X g2
        | exact U _ e2 a2 h2 L2 O X g2 Z
    | true =>
      simp only [hc] at j
      obtain ⟨J, k, hf, hk⟩ := Ei (n := n) (fun s hs => by
        have h1 : ∀ l : List Nat, ∀ t ∈ (live e l).map (·.1), t ∈ l := by
          intro l
          induction l with
          | nil => intro t j; simp [live] at j
          | cons u l ih =>
            intro t j;unfold live at j;cases hv : cQ e u with
            | none => simp only [hv] at j; exact YM _ (ih t j)
            | some v =>
              simp only [hv, List.map_cons, List.mem_cons] at j;rcases j with rfl | j
              · simp
              · exact YM _ (ih t j)
        exact (sf _).1 (h1 _ _ hs)) j
      have hf' : fO P n cuts fu x e (L ++ [J]).length (fun x e' lv' => match x with
            | .normal => k e'
            | x => κ x e' lv') (L ++ [J]) K h := by
        have hlen : (L ++ [J]).length = L.length + 1 :=aj
        rw [hlen]; exact hf
      refine C8 (G fu (YI _) x e _ (L ++ [J]) K _ a h ?_ hf' g);intro z e2 a2 h2 L2 O X g2 F;have Z : Fr (ez (.seq x y)) e e2 := F.mono fun s hs => Y3 _ hs
      cases z <;> first
        | exact U _ e2 a2 h2 L2 ((pd.snoc _ _).trans O) X g2 Z
        | skip
      obtain ⟨e3, fr3, g3, ht3⟩ := hk e2 a2 h2 L2 O X g2 F;exact G fu (YI _) y e3 κ L K Q a2 h2 (U.mono (pd.refl _) (fr3.mono fun s hs => Y3 _ hs) fun s hs => Y8 _ hs) ht3 g3
  case cond c x y =>
    cases hv : ev e c with
    | none => simp only [hv] at j; exact j.elim
    | some v =>
      cases v <;> simp only [hv] at j <;> first | exact j.elim | skip
      rename_i b;refine DE (b := b) (g.ev hv) (fun Y => ?_) (fun Y => ?_) <;> subst Y
      · exact G fu (YI _) x e κ L K Q a h (U.mono (pd.refl _) (Fr.refl _ _) fun s hs => Y3 _ hs) j g
      · exact G fu (YI _) y e κ L K Q a h (U.mono (pd.refl _) (Fr.refl _ _) fun s hs => Y8 _ hs) j g
  case block id x =>
    refine FG (G fu (YI _) x e _ L K _ a h ?_ j g);intro z e2 a2 h2 L2 O X g2 F
    cases z <;> first
      | exact U _ e2 a2 h2 L2 O X g2 F
      | skip
    rename_i i;simp only at X;cases Y : Nat.beq i id with
    | true =>
      simp only [Y] at X;have := YL Y;subst this;simp only [mz, if_true];exact U _ e2 a2 h2 L2 O X g2 F
    | false =>
      simp only [Y] at X;have hne : ¬ i = id := by intro hh; subst hh; simp at Y
      simp only [mz, if_neg hne];exact U _ e2 a2 h2 L2 O X g2 F
  case region id ops draw =>
    cases hc : JD cuts (some id) 0 with
    | false =>
      simp only [hc] at j;have hk : ∀ e' a' h', (κ .normal e' L.length) L K h' -> gK n e' a' -> Fr (dstsOf ops) e e' -> Q .normal a' h' := fun e' a' h' hx g' fr' => U _ e' a' h' L (pd.refl _) hx g' fr'
      cases draw with
      | false => exact wK hk j g
      | true => exact hR id ops e _ L K Q a h hk j g
    | true =>
      simp only [hc] at j
      obtain ⟨J, k, hf, hk⟩ := Ei (n := n) (fun s hs => by
        have : ∀ l : List Oper, ∀ s ∈ (handsOn P l).map (·.1), s ∈ l.filterMap (·.dst) := by
          intro l
          induction l with
          | nil => intro s hs; simp [handsOn] at hs
          | cons o l ih =>
            intro s hs;cases l with
            | nil =>
              unfold handsOn at hs;cases hd : o.dst with
              | none => simp only [hd] at hs; simp at hs
              | some d => simp only [hd] at hs; simp at hs; subst hs; simp [hd]
            | cons o2 l =>
              have h2 : s ∈ (handsOn P (o2 :: l)).map (·.1) \/ o.dst = some s := by
                unfold handsOn at hs;split at hs
                · rename_i d hop hd
                  simp only [List.map_cons, List.mem_cons] at hs;rcases hs with rfl | hs
                  · exact .inr hd
                  · exact .inl hs
                · exact .inl hs
              rcases h2 with h2 | h2
              · have := ih s h2
                obtain ⟨o', ho', hd'⟩ := ZQ.1 this;exact ZQ.2 ⟨o', YM _ ho', hd'⟩
              · exact ZQ.2 ⟨o, aj, h2⟩
        exact this _ s hs) j
      have hk' : ∀ e' a' h', k e' (L ++ [J]) K h' -> gK n e' a' -> Fr (dstsOf ops) e e' -> Q .normal a' h' := by
        intro e2 a2 h2 X g2 F;obtain ⟨e3, fr3, g3, ht3⟩ := hk e2 a2 h2 (L ++ [J]) (pd.refl _) X g2 F;exact U _ e3 a2 h2 L (pd.refl _) ht3 g3 fr3
      cases draw with
      | false => exact wK hk' hf g
      | true => exact hR id ops e _ (L ++ [J]) K Q a h hk' hf g
  case loop c =>
    obtain ⟨Inv, h0, hround⟩ := Gr (P := P) j g;refine II Inv h0 ?_;intro m a1 h1 hI;obtain ⟨e1, J, k, fr1, g1, Y, hk⟩ := hround m a1 h1 hI
    have hb' : fO P n cuts fu c e1 (L ++ [J]).length (fun x e'' lv' => match x with
      | .normal => k e''
      | x => κ x e'' lv') (L ++ [J]) K h1 := by
      have hlen : (L ++ [J]).length = L.length + 1 :=aj
      rw [hlen]; exact Y
    refine G fu (YI _) c e1 _ (L ++ [J]) K _ a1 h1 ?_ hb' g1;intro z e2 a2 h2 L2 O X g2 F
    cases z <;> first
      | exact U _ e2 a2 h2 L2 ((pd.snoc _ _).trans O) X g2 (fr1.trans F)
      | exact hk e2 a2 h2 L2 O X g2 F
  case scope c =>
    have U : S8 n L K e (ez c) κ Q := U;cases Y : BL c with
    | none =>
      simp only [Y] at j;have V : ∀ l, mP none l = true -> (findLabel c l).isSome = true := fun l hl => by simp [mP] at hl
      cases fu with
      | zero => simp only [lP] at j; exact j.elim
      | succ f0 =>
      refine BW (fu := f0) (fun f hf => G f ad) (Inv := fun _ _ _ => False) (back := none) V U (fun l hl => by simp [mP] at hl) ?_
      obtain ⟨f', hf', hall⟩ := r7 (fu := f0) (fun f hf => G f ad) V U (pd.refl L) (YI _) (fun s hs => hs) j g (Fr.refl _ _) (Fr.refl _ _) (m := 0) (Inv := fun _ _ _ => False)
        (fun e2 a2 h2 L2 _ hx _ _ => hx.elim)
      obtain rfl : f0 = f' :=ad
      refine sH ?_ (hall c rfl (fun _ _ _ => rfl));intro x a h hq;cases x <;> first | exact hq | skip
      rename_i l';unfold jk at hq ⊢;simp only at hq ⊢;cases hl' : findLabel c l' with
      | none => simp only [hl'] at hq; exact hq
      | some r2 =>
        simp only [hl'] at hq;rcases hq with ⟨Y, m', hm, hI⟩ | ⟨Y, hs⟩
        · exact hI.elim
        · exact .inr ⟨Y, 0, f0, YI _, hs⟩
    | some l =>
      simp only [Y] at j;cases hl : findLabel c l with
      | none => simp only [hl] at j; exact j.elim
      | some r =>
        simp only [hl] at j
        have V : ∀ l', mP (some l) l' = true -> (findLabel c l').isSome = true := by
          intro l' hl';obtain rfl := wH.1 hl';rw [hl]; rfl
        cases fu with
        | zero => simp only [xk] at j; exact j.elim
        | succ f0 =>
        refine BW (fu := f0) (fun f hf => G f ad) (Inv := Mm P n cuts f0 c r l e L K κ) (back := some l) V U ?_ ?_
        · intro l' hl' m a h hI
          obtain rfl := wH.1 hl';obtain ⟨e1, L1, k, f, h1, h2, h3, h4, h5, h6⟩ := UC m a h hI;exact ⟨r, e1, L1, k, f, hl, h1, h2, h3, h4, h5, h6⟩
        · exact BN (fun f hf => G f ad) U hl (f0 + 1) c e L a h (YI _) (pd.refl _) hl (fun s hs => hs) j g (Fr.refl _ _)
end main
end Go.Sx
