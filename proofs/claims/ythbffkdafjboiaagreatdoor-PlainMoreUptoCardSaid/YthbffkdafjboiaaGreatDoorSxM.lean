/- Part of the framework. No condition. -/
import Derived.Test.YthbffkdafjboiaaGreatDoorSxC
set_option linter.all false
set_option maxHeartbeats 4000000
namespace Go.Sx
section main
variable {P:Program} {n:Nd} {cuts:List Nat}
def SD.mono {L:Lp} {K:Xab->Hp->Prop} {e0 e1:Env} {ms j:List Nat} {κ:Exit->Env->Nat->T} {Q:Exit->Act->Hp->Prop} {J:Lp}
  (hk:SD n L K e0 ms κ Q) (O:oI L J) (fr:Fr ms e0 e1) (m:∀ s∈j,s∈ms):SD n J K e1 j κ Q :=
 fun x e a h U u hx g G=>hk x e a h U (O.trans u) hx g (fr.trans (G.mono m))
def Sc (P:Program) (n:Nd) (cuts:List Nat) (c:Code) (e0:Env) (L:Lp) (K:Xab->Hp->Prop) (κ:Exit->Env->Nat->T) (back:Option Nat) (Inv:Nat->Act->Hp->Prop)
  (f m l:Nat) (a:Act) (h:Hp):Prop :=
 ∃ r' e' j k e1,findLabel c l=some r'/\oI L j/\lA P n cuts f c r' e' j.length back k κ j K h/\gK n e' a/\Fr (eu c) e0 e'/\Fr (eu c) e1 e' /\
  ∀ e2 a2 h2 u,oI j u->k e2 u K h2->gK n e2 a2->Fr (eu c) e1 e2->∃ m',m'<m/\Inv m' a2 h2
def rP {fu:Nat} (ih:∀ f,f<=fu->Va P n cuts f) {c r:Code} {e0 e e1:Env} {L U:Lp} {K:Xab->Hp->Prop} {κ:Exit->Env->Nat->T} {Q:Exit->Act->Hp->Prop}
  {back:Option Nat} {k:Env->T} {Inv:Nat->Act->Hp->Prop} {m f:Nat} {a:Act} {h:Hp}
  (G:∀ l,ml back l=true->(findLabel c l).isSome=true) (hκ:SD n L K e0 (eu c) κ Q) (Y:oI L U) (hf:f<=fu+1) (hr:∀ s∈eu r,s∈eu c)
  (V:lA P n cuts f c r e U.length back k κ U K h) (g:gK n e a) (fr:Fr (eu c) e0 e) (X:Fr (eu c) e1 e)
  (hk:∀ e2 a2 h2 J,oI U J->k e2 J K h2->gK n e2 a2->Fr (eu c) e1 e2->∃ m',m'<m/\Inv m' a2 h2) :
  ∃ f',f=f'+1/\∀ t,eu t=eu r->(∀ e lv κ,fQ P n cuts f' t e lv κ=fQ P n cuts f' r e lv κ) ->
   cW P t (jk c (fun l a h=>(ml back l=true/\∃ m',m'<m/\Inv m' a h)\/(ml back l=false/\Sc P n cuts c e0 L K κ back Inv f' m l a h)) Q) a h:=by
 cases f with
 | zero=>simp only [lA] at V; exact V.elim
 | succ f' =>
  refine ⟨f',rfl,fun t Z O=>?_⟩;simp only [lA] at V;rw [<- O] at V;refine ih f' ad t e _ U K _ a h ?_ V g;intro x e2 a2 h2 J u hx g2 fr2;have j:Fr (eu c) e e2:=fr2.mono (fun s hs=>hr s (Z▸hs));cases x <;> first
   | exact hκ _ e2 a2 h2 J (Y.trans u) hx g2 (fr.trans j)
   | skip
  rename_i l;simp only at hx;unfold jk;simp only;cases hb:ml back l with
  | true =>
   simp only [hb] at hx;obtain ⟨m',hm,hI⟩:=hk e2 a2 h2 J u hx g2 (X.trans j);cases hl:findLabel c l with
   | some r2=>exact .inl ⟨rfl,m',hm,hI⟩
   | none=>have:=G l hb; rw [hl] at this; cases this
  | false =>
   simp only [hb] at hx;cases hl:findLabel c l with
   | none=>simp only [hl] at hx; exact hκ _ e2 a2 h2 J (Y.trans u) hx g2 (fr.trans j)
   | some r2 =>
    simp only [hl] at hx;exact .inr ⟨rfl,r2,e2,J,k,e1,hl,Y.trans u,hx,g2,fr.trans j,X.trans j,fun e3 a3 h3 L3 hp3=>hk e3 a3 h3 L3 (u.trans hp3)⟩
def XO (x y:Nat × Nat):Prop:=x.1<y.1\/(x.1=y.1/\x.2<y.2)
def PU:WellFounded XO:=by
 have h:WellFounded (Prod.Lex (fun a b:Nat=>a<b) (fun a b:Nat=>a<b)):=(Prod.lex Nat.lt_wfRel Nat.lt_wfRel).wf;refine Subrelation.wf ?_ h;rintro ⟨a,b⟩ ⟨c,d⟩ h;rcases h with h | ⟨h1,h2⟩
 ·exact Prod.Lex.left _ _ h
 ·simp only at h1 h2; subst h1; exact Prod.Lex.right _ h2
def wq {b l:Nat}:ml (some b) l=true↔b=l:=by
 simp only [ml];exact ⟨fun h=>Zf h,fun h=>by subst h; simp⟩
def BA {fu:Nat} (ih:∀ f,f<=fu->Va P n cuts f) {c:Code} {e:Env} {L:Lp} {K:Xab->Hp->Prop} {κ:Exit->Env->Nat->T} {Q:Exit->Act->Hp->Prop} {a:Act} {h:Hp}
  {back:Option Nat} {Inv:Nat->Act->Hp->Prop} (u:∀ l,ml back l=true->(findLabel c l).isSome=true) (hκ:SD n L K e (eu c) κ Q)
  (round:∀ l,ml back l=true->∀ m a h,Inv m a h->∃ r e1 X k f,findLabel c l=some r/\f<=fu+1/\oI L X/\Fr (eu c) e e1/\gK n e1 a/\lA P n cuts f c r e1 X.length back k κ X K h /\
   ∀ e2 a2 h2 L2,oI X L2->k e2 L2 K h2->gK n e2 a2->Fr (eu c) e1 e2->∃ m',m'<m/\Inv m' a2 h2)
  (first:cW P c (jk c (fun l a h=>(ml back l=true/\∃ m,Inv m a h)\/(ml back l=false/\∃ m f,f<=fu/\Sc P n cuts c e L K κ back Inv f m l a h)) Q) a h) :
  cW P (.scope c) Q a h:=by
 have gq:∀ (J J':Nat->Act->Hp->Prop),(∀ l a h,J l a h->J' l a h)->∀ x a h,jk c J Q x a h->jk c J' Q x a h:=by
  intro J J' hJ x a h O;cases x <;> first | exact O | skip
  rename_i l;unfold jk at O ⊢;simp only at O ⊢;cases hl:findLabel c l with
  | none=>simp only [hl] at O; exact O
  | some r2=>simp only [hl] at O; exact hJ l a h O
 refine DX PU (fun l m a h=>(ml back l=true/\m.2=fu+1/\Inv m.1 a h)\/(ml back l=false/\m.2<=fu/\Sc P n cuts c e L K κ back Inv m.2 m.1 l a h)) ?_ ?_
 ·refine r7 (gq _ _ ?_) first
  rintro l a h (⟨hb,m,hI⟩ | ⟨hb,m,f,Y,hs⟩)
  ·exact ⟨(m,fu+1),.inl ⟨hb,rfl,hI⟩⟩
  ·exact ⟨(m,f),.inr ⟨hb,Y,hs⟩⟩
 ·rintro l ⟨m,f⟩ a h (⟨hb,Y,hI⟩ | ⟨hb,Y,hs⟩)
  ·obtain ⟨r,e1,X,k,f1,hl,hf1,hp,fr,g,Z,hk⟩:=round l hb m a h hI;obtain ⟨f',rfl,G⟩:=rP ih u hκ hp hf1 (oE hl) Z g fr (Fr.refl _ _) hk;refine ⟨r,hl,r7 (gq _ _ ?_) (G r rfl (fun _ _ _=>rfl))⟩;simp only at Y;rintro l2 a2 h2 (⟨j,m',hm,U⟩ | ⟨j,V⟩)
   ·exact ⟨(m',fu+1),.inl hm,.inl ⟨j,rfl,U⟩⟩
   ·exact ⟨(m,f'),.inr ⟨rfl,by simp only; omega⟩,.inr ⟨j,by simp only; omega,V⟩⟩
  ·obtain ⟨r,e1,X,k,e2,hl,hp,Z,g,fr,fr1,hk⟩:=hs;simp only at Y Z hk;obtain ⟨f',rfl,G⟩:=rP ih u hκ hp ad (oE hl) Z g fr fr1 hk;refine ⟨r,hl,r7 (gq _ _ ?_) (G r rfl (fun _ _ _=>rfl))⟩;rintro l2 a2 h2 (⟨j,m',hm,U⟩ | ⟨j,V⟩)
   ·exact ⟨(m',fu+1),.inl hm,.inl ⟨j,rfl,U⟩⟩
   ·exact ⟨(m,f'),.inr ⟨rfl,by simp only; omega⟩,.inr ⟨j,by simp only; omega,V⟩⟩
def GC (P:Program) (n:Nd) (cuts:List Nat) (fu:Nat) (c r:Code) (l:Nat) (e:Env) (L:Lp) (K:Xab->Hp->Prop) (κ:Exit->Env->Nat->T) (Inv:Nat->Act->Hp->Prop):Prop :=
 ∀ m a h,Inv m a h->∃ e1 j k f,f<=fu+1/\oI L j/\Fr (eu c) e e1/\gK n e1 a/\lA P n cuts f c r e1 j.length (some l) k κ j K h /\
   ∀ e2 a2 h2 u,oI j u->k e2 u K h2->gK n e2 a2->Fr (eu c) e1 e2->∃ m',m'<m/\Inv m' a2 h2
def LU (P:Program) (n:Nd) (cuts:List Nat) (fu:Nat) (c r:Code) (l:Nat) (e:Env) (L:Lp) (K:Xab->Hp->Prop) (κ:Exit->Env->Nat->T) (m:Nat) (a:Act) (h:Hp):Prop :=
 ∃ Inv,GC P n cuts fu c r l e L K κ Inv/\Inv m a h
def Ue {fu:Nat} {c r:Code} {l:Nat} {e:Env} {L:Lp} {K:Xab->Hp->Prop} {κ:Exit->Env->Nat->T}:GC P n cuts fu c r l e L K κ (LU P n cuts fu c r l e L K κ):=by
 rintro m a h ⟨Inv,u,G⟩;obtain ⟨e1,J,k,f,h1,h2,h3,h4,h5,h6⟩:=u m a h G;refine ⟨e1,J,k,f,h1,h2,h3,h4,h5,fun e2 a2 h2 O U hk g fr=>?_⟩;obtain ⟨m',hm,j⟩:=h6 e2 a2 h2 O U hk g fr;exact ⟨m',hm,Inv,u,j⟩
theorem Bp {fu:Nat} (ih:∀ f,f<=fu->Va P n cuts f) {c r:Code} {l:Nat} {e:Env} {L:Lp} {K:Xab->Hp->Prop} {κ:Exit->Env->Nat->T} {Q:Exit->Act->Hp->Prop}
  (hκ:SD n L K e (eu c) κ Q) (hl:findLabel c l=some r):∀ (f:Nat) (t:Code) (e1:Env) (O:Lp) (a:Act) (h:Hp),f<=fu+1->oI L O->findLabel t l=some r->(∀ s∈eu t,s∈eu c) ->
  wZ P n cuts f c t l r e1 O.length κ O K h->gK n e1 a->Fr (eu c) e e1 ->
   cW P t (jk c (fun l' a h=>(ml (some l) l'=true/\∃ m,LU P n cuts fu c r l e L K κ m a h)\/(ml (some l) l'=false/\∃ m f,f<=fu/\Sc P n cuts c e L K κ (some l) (LU P n cuts fu c r l e L K κ) f m l' a h)) Q) a h
 | 0,t,e1,O,a,h,_,_,_,_,u,_,_=>by simp only [wZ] at u; exact u.elim
 | f+1,t,e1,O,a,h,hf,hp,htl,hmt,u,g,fr=>by
  unfold wZ at u;cases hh:fG l t with
  | true =>
   simp only [hh] at u;obtain ⟨Inv,⟨m0,hI0⟩,j⟩:=Gb (P:=P) u g;have Y:∀ l',ml (some l) l'=true->(findLabel c l').isSome=true:=by
    intro l' U;obtain rfl:=wq.1 U;rw [hl]; rfl
   have hR:GC P n cuts fu c r l e L K κ Inv:=by
    intro m a1 h1 hI;obtain ⟨e2,J,k,G,g2,hb,hk⟩:=j m a1 h1 hI;refine ⟨e2,O++[J],k,f,ad,hp.trans (oI.snoc _ _),fr.trans G,g2,?_,hk⟩;simpa using hb
   obtain ⟨e2,J,k,G,g2,hb,hk⟩:=j m0 a h hI0;have hb':lA P n cuts f c r e2 (O++[J]).length (some l) k κ (O++[J]) K h:=by simpa using hb
   have hk':∀ e3 a2 h2 Z,oI (O++[J]) Z->k e3 Z K h2->gK n e3 a2->Fr (eu c) e2 e3->∃ m',m'<m0/\LU P n cuts fu c r l e L K κ m' a2 h2:=by
    intro e3 a2 h2 Z V hx g3 fr3;obtain ⟨m',hm,hI'⟩:=hk e3 a2 h2 Z V hx g3 fr3;exact ⟨m',hm,Inv,hR,hI'⟩
   obtain ⟨f',rfl,hall⟩:=rP ih Y hκ (hp.trans (oI.snoc _ _)) ad (oE hl) hb' g2 (fr.trans G) (Fr.refl _ _) hk';obtain ⟨h1,h2⟩:=By (P:=P) (n:=n) (cuts:=cuts) t hh htl;refine r7 ?_ (hall t h1 (h2 _));intro x a h hq;cases x <;> first | exact hq | skip
   rename_i l';unfold jk at hq ⊢;simp only at hq ⊢;cases U:findLabel c l' with
   | none=>simp only [U] at hq; exact hq
   | some r2 =>
    simp only [U] at hq;rcases hq with ⟨hb,m',hm,hI⟩ | ⟨hb,hs⟩
    ·exact .inl ⟨hb,m',hI⟩
    ·exact .inr ⟨hb,m0,f',ad,hs⟩
  | false =>
   simp only [hh] at u;obtain ⟨x,y,rfl⟩:∃ x y,t=.seq x y:=by
    cases t <;> first | exact ⟨_,_,rfl⟩ | exact u.elim
   simp only at u;cases hx:findLabel x l with
   | some rx=>simp only [hx] at u; exact u.elim
   | none =>
    simp only [hx] at u;have hty:findLabel y l=some r:=by simpa [findLabel,hx] using htl
    refine CN (ih f ad x e1 _ O K _ a h ?_ u g);intro z e2 a2 h2 Z V hz g2 G;have X:Fr (eu c) e e2:=fr.trans (G.mono fun s hs=>hmt s (Zq _ hs));cases z <;> first
     | exact Bp ih hκ hl f y e2 Z a2 h2 ad (hp.trans V) hty (fun s hs=>hmt s (ZE _ hs)) hz g2 X
     | exact hκ _ e2 a2 h2 Z (hp.trans V) hz g2 X
     | exact hz.elim
def Yd (P:Program) (n:Nd):Prop :=
 ∀ (id:Nat) (ops:Array Oper) (e:Env) (k:Env->T) (L:Lp) (K:Xab->Hp->Prop) (Q:Exit->Act->Hp->Prop) (a:Act) (h:Hp),
  (∀ e' a' h',k e' L K h'->gK n e' a'->Fr (dstsOf ops) e e'->Q .normal a' h')->vl P n id ops e k L K h->gK n e a->cW P (.region id ops true) Q a h
def wx {id:Nat} {ops:Array Oper} {e:Env} {k:Env->T} {L:Lp} {K:Xab->Hp->Prop} {Q:Exit->Act->Hp->Prop} {a:Act} {h:Hp}
  (hk:∀ e' a' h',k e' L K h'->gK n e' a'->Fr (dstsOf ops) e e'->Q .normal a' h') (j:EH P n ops ops.toList e k L K h) (g:gK n e a):cW P (.region id ops false) Q a h :=
 fun u w hs hw=>wp_region_list (Ds hk ops.toList e a h (fun _ G=>G) j g (Fr.refl _ _) u w hs hw)
def LQ (hR : Yd P n) : ∀ fu, Va P n cuts fu := by
  intro fu
  induction fu using Nat.strongRecOn with
  | _ fu ih =>
  intro c e κ L K Q a h V j g;cases fu with
  | zero => simp only [fQ] at j; exact j.elim
  | succ fu =>
  have O : ∀ f, f <= fu -> Va P n cuts f := fun f hf => ih f ad
  unfold fQ at j;cases c <;> simp only at j
  case skip => exact IN (V _ e a h L (oI.refl _) j g (Fr.refl _ _))
  case label l => exact EK (V _ e a h L (oI.refl _) j g (Fr.refl _ _))
  case exit i => exact IP (V _ e a h L (oI.refl _) j g (Fr.refl _ _))
  case goto i => exact Ic (V _ e a h L (oI.refl _) j g (Fr.refl _ _))
  case ret => exact NO (V _ e a h L (oI.refl _) j g (Fr.refl _ _))
  case refuse s => exact j.elim
  case rangeFunc f ps x y => exact j.elim
  case seq x y =>
    cases hc : Jh cuts (jY y) 1000 with
    | false =>
      simp only [hc] at j;refine CN (O fu (Zh _) x e _ L K _ a h ?_ j g);intro z e2 a2 h2 L2 U Y g2 G;have Z : Fr (eu (.seq x y)) e e2 := G.mono fun s hs => Zq _ hs
      cases z <;> first
        | exact O fu (Zh _) y e2 κ L2 K Q a2 h2 (V.mono U Z fun s hs => ZE _ hs) Y g2
        | exact V _ e2 a2 h2 L2 U Y g2 Z
    | true =>
      simp only [hc] at j
      obtain ⟨J, k, hf, hk⟩ := D6 (n := n) (fun s hs => by
        have h1 : ∀ l : List Nat, ∀ t ∈ (live e l).map (·.1), t ∈ l := by
          intro l
          induction l with
          | nil => intro t j; simp [live] at j
          | cons u l ih =>
            intro t j;unfold live at j;cases hv : cQ e u with
            | none => simp only [hv] at j; exact Zd _ (ih t j)
            | some v =>
              simp only [hv, List.map_cons, List.mem_cons] at j;rcases j with rfl | j
              · simp
              · exact Zd _ (ih t j)
        exact (rR _).1 (h1 _ _ hs)) j
      have hf' : fQ P n cuts fu x e (L ++ [J]).length (fun x e' lv' => match x with
            | .normal => k e'
            | x => κ x e' lv') (L ++ [J]) K h := by
        have hlen : (L ++ [J]).length = L.length + 1 :=aj
        rw [hlen]; exact hf
      refine CN (O fu (Zh _) x e _ (L ++ [J]) K _ a h ?_ hf' g);intro z e2 a2 h2 L2 U Y g2 G;have Z : Fr (eu (.seq x y)) e e2 := G.mono fun s hs => Zq _ hs
      cases z <;> first
        | exact V _ e2 a2 h2 L2 ((oI.snoc _ _).trans U) Y g2 Z
        | skip
      obtain ⟨e3, fr3, g3, ht3⟩ := hk e2 a2 h2 L2 U Y g2 G;exact O fu (Zh _) y e3 κ L K Q a2 h2 (V.mono (oI.refl _) (fr3.mono fun s hs => Zq _ hs) fun s hs => ZE _ hs) ht3 g3
  case cond c x y =>
    cases hv : ev e c with
    | none => simp only [hv] at j; exact j.elim
    | some v =>
      cases v <;> simp only [hv] at j <;> first | exact j.elim | skip
      rename_i b;refine Dm (b := b) (g.ev hv) (fun hb => ?_) (fun hb => ?_) <;> subst hb
      · exact O fu (Zh _) x e κ L K Q a h (V.mono (oI.refl _) (Fr.refl _ _) fun s hs => Zq _ hs) j g
      · exact O fu (Zh _) y e κ L K Q a h (V.mono (oI.refl _) (Fr.refl _ _) fun s hs => ZE _ hs) j g
  case block id x =>
    refine Fm (O fu (Zh _) x e _ L K _ a h ?_ j g);intro z e2 a2 h2 L2 U Y g2 G
    cases z <;> first
      | exact V _ e2 a2 h2 L2 U Y g2 G
      | skip
    rename_i i;simp only at Y;cases hb : Nat.beq i id with
    | true =>
      simp only [hb] at Y;have := Zf hb;subst this;simp only [lW, if_true];exact V _ e2 a2 h2 L2 U Y g2 G
    | false =>
      simp only [hb] at Y;have hne : ¬ i = id := by intro hh; subst hh; simp at hb
      simp only [lW, if_neg hne];exact V _ e2 a2 h2 L2 U Y g2 G
  case region id ops draw =>
    cases hc : Jh cuts (some id) 0 with
    | false =>
      simp only [hc] at j;have hk : ∀ e' a' h', (κ .normal e' L.length) L K h' -> gK n e' a' -> Fr (dstsOf ops) e e' -> Q .normal a' h' := fun e' a' h' hx g' fr' => V _ e' a' h' L (oI.refl _) hx g' fr'
      cases draw with
      | false => exact wx hk j g
      | true => exact hR id ops e _ L K Q a h hk j g
    | true =>
      simp only [hc] at j
      obtain ⟨J, k, hf, hk⟩ := D6 (n := n) (fun s hs => by
        have : ∀ l : List Oper, ∀ s ∈ (handsOn P l).map (·.1), s ∈ l.filterMap (·.dst) := by
          intro l
          induction l with
          | nil => intro s hs; simp [handsOn] at hs
          | cons o l ih =>
            intro s hs;cases l with
            | nil =>
              unfold handsOn at hs;cases hd : o.dst with
              | none => simp only [hd] at hs; simp at hs
              | some d => simp only [hd] at hs; simp at hs; subst hs; simp [hd]
            | cons o2 l =>
              have h2 : s ∈ (handsOn P (o2 :: l)).map (·.1) \/ o.dst = some s := by
                unfold handsOn at hs;split at hs
                · rename_i d hop hd
                  simp only [List.map_cons, List.mem_cons] at hs;rcases hs with rfl | hs
                  · exact .inr hd
                  · exact .inl hs
                · exact .inl hs
              rcases h2 with h2 | h2
              · have := ih s h2
                obtain ⟨o', ho', hd'⟩ := av9.1 this;exact av9.2 ⟨o', Zd _ ho', hd'⟩
              · exact av9.2 ⟨o, aj, h2⟩
        exact this _ s hs) j
      have hk' : ∀ e' a' h', k e' (L ++ [J]) K h' -> gK n e' a' -> Fr (dstsOf ops) e e' -> Q .normal a' h' := by
        intro e2 a2 h2 Y g2 G;obtain ⟨e3, fr3, g3, ht3⟩ := hk e2 a2 h2 (L ++ [J]) (oI.refl _) Y g2 G;exact V _ e3 a2 h2 L (oI.refl _) ht3 g3 fr3
      cases draw with
      | false => exact wx hk' hf g
      | true => exact hR id ops e _ (L ++ [J]) K Q a h hk' hf g
  case loop c =>
    obtain ⟨Inv, h0, hround⟩ := Gb (P := P) j g;refine It Inv h0 ?_;intro m a1 h1 hI;obtain ⟨e1, J, k, fr1, g1, hb, hk⟩ := hround m a1 h1 hI
    have hb' : fQ P n cuts fu c e1 (L ++ [J]).length (fun x e'' lv' => match x with
      | .normal => k e''
      | x => κ x e'' lv') (L ++ [J]) K h1 := by
      have hlen : (L ++ [J]).length = L.length + 1 :=aj
      rw [hlen]; exact hb
    refine O fu (Zh _) c e1 _ (L ++ [J]) K _ a1 h1 ?_ hb' g1;intro z e2 a2 h2 L2 U Y g2 G
    cases z <;> first
      | exact V _ e2 a2 h2 L2 ((oI.snoc _ _).trans U) Y g2 (fr1.trans G)
      | exact hk e2 a2 h2 L2 U Y g2 G
  case scope c =>
    have V : SD n L K e (eu c) κ Q := V;cases hb : Bn c with
    | none =>
      simp only [hb] at j;have X : ∀ l, ml none l = true -> (findLabel c l).isSome = true := fun l hl => by simp [ml] at hl
      cases fu with
      | zero => simp only [lA] at j; exact j.elim
      | succ f0 =>
      refine BA (fu := f0) (fun f hf => O f ad) (Inv := fun _ _ _ => False) (back := none) X V (fun l hl => by simp [ml] at hl) ?_
      obtain ⟨f', hf', hall⟩ := rP (fu := f0) (fun f hf => O f ad) X V (oI.refl L) (Zh _) (fun s hs => hs) j g (Fr.refl _ _) (Fr.refl _ _) (m := 0) (Inv := fun _ _ _ => False)
        (fun e2 a2 h2 L2 _ hx _ _ => hx.elim)
      obtain rfl : f0 = f' :=ad
      refine r7 ?_ (hall c rfl (fun _ _ _ => rfl));intro x a h hq;cases x <;> first | exact hq | skip
      rename_i l';unfold jk at hq ⊢;simp only at hq ⊢;cases hl' : findLabel c l' with
      | none => simp only [hl'] at hq; exact hq
      | some r2 =>
        simp only [hl'] at hq;rcases hq with ⟨hb, m', hm, hI⟩ | ⟨hb, hs⟩
        · exact hI.elim
        · exact .inr ⟨hb, 0, f0, Zh _, hs⟩
    | some l =>
      simp only [hb] at j;cases hl : findLabel c l with
      | none => simp only [hl] at j; exact j.elim
      | some r =>
        simp only [hl] at j
        have X : ∀ l', ml (some l) l' = true -> (findLabel c l').isSome = true := by
          intro l' hl';obtain rfl := wq.1 hl';rw [hl]; rfl
        cases fu with
        | zero => simp only [wZ] at j; exact j.elim
        | succ f0 =>
        refine BA (fu := f0) (fun f hf => O f ad) (Inv := LU P n cuts f0 c r l e L K κ) (back := some l) X V ?_ ?_
        · intro l' hl' m a h hI
          obtain rfl := wq.1 hl';obtain ⟨e1, L1, k, f, h1, h2, h3, h4, h5, h6⟩ := Ue m a h hI;exact ⟨r, e1, L1, k, f, hl, h1, h2, h3, h4, h5, h6⟩
        · exact Bp (fun f hf => O f ad) V hl (f0 + 1) c e L a h (Zh _) (oI.refl _) hl (fun s hs => hs) j g (Fr.refl _ _)
end main
end Go.Sx
