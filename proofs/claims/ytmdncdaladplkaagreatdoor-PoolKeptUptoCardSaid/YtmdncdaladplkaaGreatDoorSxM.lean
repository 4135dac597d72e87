/- Part of the framework. No condition. -/
import Derived.Test.YtmdncdaladplkaaGreatDoorSxC
set_option linter.all false
set_option maxHeartbeats 4000000
namespace Go.Sx
section main
variable {P:Program} {n:Nd} {cuts:List Nat}
def V8.mono {L:Lp} {K:Xab->Hp->Prop} {e0 f:Env} {ms b:List Nat} {κ:Exit->Env->Nat->T} {Q:Exit->Act->Hp->Prop} {i:Lp}
  (hk:V8 n L K e0 ms κ Q) (j:qt L i) (fr:Fr ms e0 f) (m:∀ s∈b,s∈ms):V8 n i K f b κ Q :=
 λx e a h k c l g d=>hk x e a h k (j.trans c) l g (fr.trans (d.mono m))
def Sc (P:Program) (n:Nd) (cuts:List Nat) (c:Code) (e0:Env) (L:Lp) (K:Xab->Hp->Prop) (κ:Exit->Env->Nat->T) (back:Option Nat) (Inv:Nat->Act->Hp->Prop)
  (f m l:Nat) (a:Act) (h:Hp):Prop :=
 ∃ g b d k i,findLabel c l=some g/\qt L d/\nh P n cuts f c g b d.length back k κ d K h/\iI n b a/\Fr (eR c) e0 b/\Fr (eR c) i b /\
  ∀ e j h2 o,qt d o->k e o K h2->iI n e j->Fr (eR c) i e->∃ p,p<m/\Inv p j h2
variable {V a:Code} {H:Env} {O:Lp} {U:Xab->Hp->Prop} {Y:Exit->Act->Hp->Prop} {b:Env->T} {Z:Act}
def tT {fu:Nat} (R:∀ f,f<=fu->YE P n cuts f) {e0 C:Env} {z:Lp} {κ:Exit->Env->Nat->T} 
  {back:Option Nat} {Inv:Nat->Act->Hp->Prop} {m f:Nat} {h:Hp}
  (o:∀ l,nY back l=true->(findLabel V l).isSome=true) (J:V8 n O U e0 (eR V) κ Y) (D:qt O z) (hf:f<=fu+1) (S:∀ s∈eR a,s∈eR V)
  (ht:nh P n cuts f V a H z.length back b κ z U h) (g:iI n H Z) (fr:Fr (eR V) e0 H) (A:Fr (eR V) C H)
  (hk:∀ e2 y h2 p,qt z p->b e2 p U h2->iI n e2 y->Fr (eR V) C e2->∃ q,q<m/\Inv q y h2) :
  ∃ u,f=u+1/\∀ t,eR t=eR a->(∀ H M κ,gM P n cuts u t H M κ=gM P n cuts u a H M κ) ->
   cW P t (jZ V (λl Z h=>(nY back l=true/\∃ q,q<m/\Inv q Z h)\/(nY back l=false/\Sc P n cuts V e0 O U κ back Inv u m l Z h)) Y) Z h:=by
 cases f with
 | zero=>simp only [nh] at ht; exact ht.elim
 | succ u =>
  refine ⟨u,rfl,λt E w=>?_⟩;simp only [nh] at ht;rw [<- w] at ht;refine R u ad t H _ z U _ Z h ?_ ht g;intro x e2 y h2 p i j B F;have d:Fr (eR V) H e2:=F.mono (λs W=>S s (E▸W));cases x <;> first
   | exact J _ e2 y h2 p (D.trans i) j B (fr.trans d)
   | skip
  rename_i l;simp only at j;unfold jZ;simp only;cases G:nY back l with
  | true =>
   simp only [G] at j;obtain ⟨q,X,hI⟩:=hk e2 y h2 p i j B (A.trans d);cases hl:findLabel V l with
   | some N=>exact .inl ⟨rfl,q,X,hI⟩
   | none=>have:=o l G; rw [hl] at this; cases this
  | false =>
   simp only [G] at j;cases hl:findLabel V l with
   | none=>simp only [hl] at j; exact J _ e2 y h2 p (D.trans i) j B (fr.trans d)
   | some N =>
    simp only [hl] at j;exact .inr ⟨rfl,N,e2,p,b,C,hl,D.trans i,j,B,fr.trans d,A.trans d,λe3 a3 h3 L3 I=>hk e3 a3 h3 L3 (i.trans I)⟩
def aaM (x y:Nat × Nat):Prop:=x.1<y.1\/(x.1=y.1/\x.2<y.2)
def TH:WellFounded aaM:=by
 have h:WellFounded (Prod.Lex (λa b:Nat=>a<b) (λa b:Nat=>a<b)):=(Prod.lex Nat.lt_wfRel Nat.lt_wfRel).wf;refine Subrelation.wf ?_ h;rintro ⟨a,b⟩ ⟨c,d⟩ h;rcases h with h | ⟨h1,h2⟩
 ·exact Prod.Lex.left _ _ h
 ·simp only at h1 h2; subst h1; exact Prod.Lex.right _ h2
def yd {b l:Nat}:nY (some b) l=true↔b=l:=by
 simp only [nY];exact ⟨λh=>av9 h,λh=>by subst h; simp⟩
def DB {fu:Nat} (N:∀ f,f<=fu->YE P n cuts f) {κ:Exit->Env->Nat->T} {h:Hp}
  {back:Option Nat} {Inv:Nat->Act->Hp->Prop} (d:∀ l,nY back l=true->(findLabel V l).isSome=true) (R:V8 n O U H (eR V) κ Y)
  (round:∀ l,nY back l=true->∀ m Z h,Inv m Z h->∃ r q s k f,findLabel V l=some r/\f<=fu+1/\qt O s/\Fr (eR V) H q/\iI n q Z/\nh P n cuts f V r q s.length back k κ s U h /\
   ∀ y z h2 S,qt s S->k y S U h2->iI n y z->Fr (eR V) q y->∃ t,t<m/\Inv t z h2)
  (first:cW P V (jZ V (λl Z h=>(nY back l=true/\∃ m,Inv m Z h)\/(nY back l=false/\∃ m f,f<=fu/\Sc P n cuts V H O U κ back Inv f m l Z h)) Y) Z h) :
  cW P (.scope V) Y Z h:=by
 have A:∀ (J B:Nat->Act->Hp->Prop),(∀ l Z h,J l Z h->B l Z h)->∀ x Z h,jZ V J Y x Z h->jZ V B Y x Z h:=by
  intro J B W x Z h j;cases x <;> first | exact j | skip
  rename_i l;unfold jZ at j ⊢;simp only at j ⊢;cases hl:findLabel V l with
  | none=>simp only [hl] at j; exact j
  | some r2=>simp only [hl] at j; exact W l Z h j
 refine Gh TH (λl m Z h=>(nY back l=true/\m.2=fu+1/\Inv m.1 Z h)\/(nY back l=false/\m.2<=fu/\Sc P n cuts V H O U κ back Inv m.2 m.1 l Z h)) ?_ ?_
 ·refine uj (A _ _ ?_) first
  rintro l Z h (⟨u,m,C⟩ | ⟨u,m,f,w,D⟩)
  ·exact ⟨(m,fu+1),.inl ⟨u,rfl,C⟩⟩
  ·exact ⟨(m,f),.inr ⟨u,w,D⟩⟩
 ·rintro l ⟨m,f⟩ Z h (⟨u,w,C⟩ | ⟨u,w,D⟩)
  ·obtain ⟨r,q,s,k,f1,hl,E,F,fr,g,ht,hk⟩:=round l u m Z h C;obtain ⟨G,rfl,i⟩:=tT N d R F E (qm hl) ht g fr (Fr.refl _ _) hk;refine ⟨r,hl,uj (A _ _ ?_) (i r rfl (λ_ _ _=>rfl))⟩;simp only at w;rintro X z h2 (⟨b,t,I,o⟩ | ⟨b,p⟩)
   ·exact ⟨(t,fu+1),.inl I,.inl ⟨b,rfl,o⟩⟩
   ·exact ⟨(m,G),.inr ⟨rfl,by simp only; omega⟩,.inr ⟨b,by simp only; omega,p⟩⟩
  ·obtain ⟨r,q,s,k,y,hl,F,ht,g,fr,M,hk⟩:=D;simp only at w ht hk;obtain ⟨G,rfl,i⟩:=tT N d R F ad (qm hl) ht g fr M hk;refine ⟨r,hl,uj (A _ _ ?_) (i r rfl (λ_ _ _=>rfl))⟩;rintro X z h2 (⟨b,t,I,o⟩ | ⟨b,p⟩)
   ·exact ⟨(t,fu+1),.inl I,.inl ⟨b,rfl,o⟩⟩
   ·exact ⟨(m,G),.inr ⟨rfl,by simp only; omega⟩,.inr ⟨b,by simp only; omega,p⟩⟩
def Ja (P:Program) (n:Nd) (cuts:List Nat) (p:Nat) (c r:Code) (l:Nat) (e:Env) (L:Lp) (K:Xab->Hp->Prop) (κ:Exit->Env->Nat->T) (Inv:Nat->Act->Hp->Prop):Prop :=
 ∀ m a h,Inv m a h->∃ b d k f,f<=p+1/\qt L d/\Fr (eR c) e b/\iI n b a/\nh P n cuts f c r b d.length (some l) k κ d K h /\
   ∀ g i h2 j,qt d j->k g j K h2->iI n g i->Fr (eR c) b g->∃ o,o<m/\Inv o i h2
def O6 (P:Program) (n:Nd) (cuts:List Nat) (b:Nat) (c r:Code) (l:Nat) (e:Env) (L:Lp) (K:Xab->Hp->Prop) (κ:Exit->Env->Nat->T) (m:Nat) (a:Act) (h:Hp):Prop :=
 ∃ Inv,Ja P n cuts b c r l e L K κ Inv/\Inv m a h
def XM {i l:Nat} {κ:Exit->Env->Nat->T}:Ja P n cuts i V a l H O U κ (O6 P n cuts i V a l H O U κ):=by
 rintro m b h ⟨Inv,j,o⟩;obtain ⟨p,q,k,f,h1,h2,s,t,u,w⟩:=j m b h o;refine ⟨p,q,k,f,h1,h2,s,t,u,λx y h2 z A hk g fr=>?_⟩;obtain ⟨B,C,d⟩:=w x y h2 z A hk g fr;exact ⟨B,C,Inv,j,d⟩
theorem Dr {q:Nat} (S:∀ f,f<=q->YE P n cuts f) {c r:Code} {l:Nat} {e:Env} {L:Lp} {K:Xab->Hp->Prop} {κ:Exit->Env->Nat->T} {Q:Exit->Act->Hp->Prop}
  (U:V8 n L K e (eR c) κ Q) (hl:findLabel c l=some r):∀ (f:Nat) (t:Code) (D:Env) (i:Lp) (a:Act) (h:Hp),f<=q+1->qt L i->findLabel t l=some r->(∀ s∈eR t,s∈eR c) ->
  yK P n cuts f c t l r D i.length κ i K h->iI n D a->Fr (eR c) e D ->
   cW P t (jZ c (λl' a h=>(nY (some l) l'=true/\∃ m,O6 P n cuts q c r l e L K κ m a h)\/(nY (some l) l'=false/\∃ m f,f<=q/\Sc P n cuts c e L K κ (some l) (O6 P n cuts q c r l e L K κ) f m l' a h)) Q) a h
 | 0,t,D,i,a,h,_,_,_,_,ht,_,_=>by simp only [yK] at ht; exact ht.elim
 | f+1,t,D,i,a,h,hf,R,G,H,ht,g,fr=>by
  unfold yK at ht;cases V:gp l t with
  | true =>
   simp only [V] at ht;obtain ⟨Inv,⟨W,X⟩,b⟩:=Iy (P:=P) ht g;have u:∀ l',nY (some l) l'=true->(findLabel c l').isSome=true:=by
    intro l' j;obtain rfl:=yd.1 j;rw [hl]; rfl
   have hR:Ja P n cuts q c r l e L K κ Inv:=by
    intro m a1 h1 Y;obtain ⟨e2,J,k,d,E,w,hk⟩:=b m a1 h1 Y;refine ⟨e2,i++[J],k,f,ad,R.trans (qt.snoc _ _),fr.trans d,E,?_,hk⟩;simpa using w
   obtain ⟨e2,J,k,d,E,w,hk⟩:=b W a h X;have Z:nh P n cuts f c r e2 (i++[J]).length (some l) k κ (i++[J]) K h:=by simpa using w
   have hk':∀ I A h2 B,qt (i++[J]) B->k I B K h2->iI n I A->Fr (eR c) e2 I->∃ F,F<W/\O6 P n cuts q c r l e L K κ F A h2:=by
    intro I A h2 B o M g3 fr3;obtain ⟨F,hm,hI'⟩:=hk I A h2 B o M g3 fr3;exact ⟨F,hm,Inv,hR,hI'⟩
   obtain ⟨f',rfl,N⟩:=tT S u U (R.trans (qt.snoc _ _)) ad (qm hl) Z E (fr.trans d) (Fr.refl _ _) hk';obtain ⟨h1,h2⟩:=Dx (P:=P) (n:=n) (cuts:=cuts) t V G;refine uj ?_ (N t h1 (h2 _));intro x a h C;cases x <;> first | exact C | skip
   rename_i l';unfold jZ at C ⊢;simp only at C ⊢;cases j:findLabel c l' with
   | none=>simp only [j] at C; exact C
   | some r2 =>
    simp only [j] at C;rcases C with ⟨w,F,hm,Y⟩ | ⟨w,O⟩
    ·exact .inl ⟨w,F,Y⟩
    ·exact .inr ⟨w,W,f',ad,O⟩
  | false =>
   simp only [V] at ht;obtain ⟨x,y,rfl⟩:∃ x y,t=.seq x y:=by
    cases t <;> first | exact ⟨_,_,rfl⟩ | exact ht.elim
   simp only at ht;cases M:findLabel x l with
   | some rx=>simp only [M] at ht; exact ht.elim
   | none =>
    simp only [M] at ht;have hty:findLabel y l=some r:=by simpa [findLabel,M] using G
    refine EN (S f ad x D _ i K _ a h ?_ ht g);intro z e2 A h2 B o hz E d;have p:Fr (eR c) e e2:=fr.trans (d.mono λs O=>H s (be9 _ O));cases z <;> first
     | exact Dr S U hl f y e2 B A h2 ad (R.trans o) hty (λs O=>H s (bi9 _ O)) hz E p
     | exact U _ e2 A h2 B (R.trans o) hz E p
     | exact hz.elim
def ROk (P:Program) (n:Nd):Prop :=
 ∀ (id:Nat) (ops:Array Oper) (e:Env) (k:Env->T) (L:Lp) (K:Xab->Hp->Prop) (Q:Exit->Act->Hp->Prop) (a:Act) (h:Hp),
  (∀ b a' h',k b L K h'->iI n b a'->Fr (dstsOf ops) e b->Q .normal a' h')->xn P n id ops e k L K h->iI n e a->cW P (.region id ops true) Q a h
def yi {id:Nat} {ops:Array Oper} {h:Hp}
  (hk:∀ c a' h',b c O U h'->iI n c a'->Fr (dstsOf ops) H c->Y .normal a' h') (ht:G5 P n ops ops.toList H b O U h) (g:iI n H Z):cW P (.region id ops false) Y Z h :=
 λd w f i=>wp_region_list (FE hk ops.toList H Z h (λ_ j=>j) ht g (Fr.refl _ _) d w f i)
def O3 (hR : ROk P n) : ∀ fu, YE P n cuts fu := by
  intro fu
  induction fu using Nat.strongRecOn with
  | _ fu Z =>
  intro c e κ L K Q a h A ht g;cases fu with
  | zero => simp only [gM] at ht; exact ht.elim
  | succ fu =>
  have q : ∀ f, f <= fu -> YE P n cuts f := λf O => Z f ad
  unfold gM at ht;cases c <;> simp only at ht
  case skip => exact LF (A _ e a h L (qt.refl _) ht g (Fr.refl _ _))
  case label l => exact G9 (A _ e a h L (qt.refl _) ht g (Fr.refl _ _))
  case exit i => exact LG (A _ e a h L (qt.refl _) ht g (Fr.refl _ _))
  case goto i => exact KW (A _ e a h L (qt.refl _) ht g (Fr.refl _ _))
  case ret => exact Ri (A _ e a h L (qt.refl _) ht g (Fr.refl _ _))
  case refuse s => exact ht.elim
  case rangeFunc f ps x y => exact ht.elim
  case seq x y =>
    cases hc : Mg cuts (kU y) 1000 with
    | false =>
      simp only [hc] at ht;refine EN (q fu (am9 _) x e _ L K _ a h ?_ ht g);intro z e2 C h2 H w D F p;have G : Fr (eR (.seq x y)) e e2 := p.mono λs j => be9 _ j
      cases z <;> first
        | exact q fu (am9 _) y e2 κ H K Q C h2 (A.mono w G λs j => bi9 _ j) D F
        | exact A _ e2 C h2 H w D F G
    | true =>
      simp only [hc] at ht
      obtain ⟨J, k, O, hk⟩ := Gp (n := n) (λs j => by
        have h1 : ∀ l : List Nat, ∀ t ∈ (live e l).map (·.1), t ∈ l := by
          intro l
          induction l with
          | nil => intro t ht; simp [live] at ht
          | cons u l Z =>
            intro t ht;unfold live at ht;cases hv : db e u with
            | none => simp only [hv] at ht; exact aq9 _ (Z t ht)
            | some v =>
              simp only [hv, List.map_cons, List.mem_cons] at ht;rcases ht with rfl | ht
              · simp
              · exact aq9 _ (Z t ht)
        exact (tV _).1 (h1 _ _ j)) ht
      have hf' : gM P n cuts fu x e (L ++ [J]).length (λx M V => match x with
            | .normal => k M
            | x => κ x M V) (L ++ [J]) K h := by
        have N : (L ++ [J]).length = L.length + 1 :=ai
        rw [N]; exact O
      refine EN (q fu (am9 _) x e _ (L ++ [J]) K _ a h ?_ hf' g);intro z e2 C h2 H w D F p;have G : Fr (eR (.seq x y)) e e2 := p.mono λs j => be9 _ j
      cases z <;> first
        | exact A _ e2 C h2 H ((qt.snoc _ _).trans w) D F G
        | skip
      obtain ⟨e3, W, g3, X⟩ := hk e2 C h2 H w D F p;exact q fu (am9 _) y e3 κ L K Q C h2 (A.mono (qt.refl _) (W.mono λs j => be9 _ j) λs j => bi9 _ j) X g3
  case cond c x y =>
    cases hv : ev e c with
    | none => simp only [hv] at ht; exact ht.elim
    | some v =>
      cases v <;> simp only [hv] at ht <;> first | exact ht.elim | skip
      rename_i b;refine Fw (b := b) (g.ev hv) (λE => ?_) (λE => ?_) <;> subst E
      · exact q fu (am9 _) x e κ L K Q a h (A.mono (qt.refl _) (Fr.refl _ _) λs j => be9 _ j) ht g
      · exact q fu (am9 _) y e κ L K Q a h (A.mono (qt.refl _) (Fr.refl _ _) λs j => bi9 _ j) ht g
  case block id x =>
    refine HI (q fu (am9 _) x e _ L K _ a h ?_ ht g);intro z e2 C h2 H w D F p
    cases z <;> first
      | exact A _ e2 C h2 H w D F p
      | skip
    rename_i i;simp only at D;cases E : Nat.beq i id with
    | true =>
      simp only [E] at D;have := av9 E;subst this;simp only [nN, if_true];exact A _ e2 C h2 H w D F p
    | false =>
      simp only [E] at D;have hne : ¬ i = id := by intro hh; subst hh; simp at E
      simp only [nN, if_neg hne];exact A _ e2 C h2 H w D F p
  case region id ops S =>
    cases hc : Mg cuts (some id) 0 with
    | false =>
      simp only [hc] at ht;have hk : ∀ M a' h', (κ .normal M L.length) L K h' -> iI n M a' -> Fr (dstsOf ops) e M -> Q .normal a' h' := λM a' h' hx g' fr' => A _ M a' h' L (qt.refl _) hx g' fr'
      cases S with
      | false => exact yi hk ht g
      | true => exact hR id ops e _ L K Q a h hk ht g
    | true =>
      simp only [hc] at ht
      obtain ⟨J, k, O, hk⟩ := Gp (n := n) (λs j => by
        have : ∀ l : List Oper, ∀ s ∈ (handsOn P l).map (·.1), s ∈ l.filterMap (·.dst) := by
          intro l
          induction l with
          | nil => intro s j; simp [handsOn] at j
          | cons o l Z =>
            intro s j;cases l with
            | nil =>
              unfold handsOn at j;cases hd : o.dst with
              | none => simp only [hd] at j; simp at j
              | some d => simp only [hd] at j; simp at j; subst j; simp [hd]
            | cons o2 l =>
              have h2 : s ∈ (handsOn P (o2 :: l)).map (·.1) \/ o.dst = some s := by
                unfold handsOn at j;split at j
                · rename_i d hop hd
                  simp only [List.map_cons, List.mem_cons] at j;rcases j with rfl | j
                  · exact .inr hd
                  · exact .inl j
                · exact .inl j
              rcases h2 with h2 | h2
              · have := Z s h2
                obtain ⟨o', ho', hd'⟩ := dz9.1 this;exact dz9.2 ⟨o', aq9 _ ho', hd'⟩
              · exact dz9.2 ⟨o, ai, h2⟩
        exact this _ s j) ht
      have hk' : ∀ M a' h', k M (L ++ [J]) K h' -> iI n M a' -> Fr (dstsOf ops) e M -> Q .normal a' h' := by
        intro e2 C h2 D F p;obtain ⟨e3, W, g3, X⟩ := hk e2 C h2 (L ++ [J]) (qt.refl _) D F p;exact A _ e3 C h2 L (qt.refl _) X g3 W
      cases S with
      | false => exact yi hk' O g
      | true => exact hR id ops e _ (L ++ [J]) K Q a h hk' O g
  case loop c =>
    obtain ⟨Inv, h0, R⟩ := Iy (P := P) ht g;refine La Inv h0 ?_;intro m a1 h1 hI;obtain ⟨e1, J, k, fr1, g1, E, hk⟩ := R m a1 h1 hI
    have hb' : gM P n cuts fu c e1 (L ++ [J]).length (λx e'' V => match x with
      | .normal => k e''
      | x => κ x e'' V) (L ++ [J]) K h1 := by
      have N : (L ++ [J]).length = L.length + 1 :=ai
      rw [N]; exact E
    refine q fu (am9 _) c e1 _ (L ++ [J]) K _ a1 h1 ?_ hb' g1;intro z e2 C h2 H w D F p
    cases z <;> first
      | exact A _ e2 C h2 H ((qt.snoc _ _).trans w) D F (fr1.trans p)
      | exact hk e2 C h2 H w D F p
  case scope c =>
    have A : V8 n L K e (eR c) κ Q := A;cases E : Dp c with
    | none =>
      simp only [E] at ht;have B : ∀ l, nY none l = true -> (findLabel c l).isSome = true := λl hl => by simp [nY] at hl
      cases fu with
      | zero => simp only [nh] at ht; exact ht.elim
      | succ U =>
      refine DB (fu := U) (λf O => q f ad) (Inv := λ_ _ _ => False) (back := none) B A (λl hl => by simp [nY] at hl) ?_
      obtain ⟨f', hf', hall⟩ := tT (fu := U) (λf O => q f ad) B A (qt.refl L) (am9 _) (λs j => j) ht g (Fr.refl _ _) (Fr.refl _ _) (m := 0) (Inv := λ_ _ _ => False)
        (λe2 C h2 H _ hx _ _ => hx.elim)
      obtain rfl : U = f' :=ad
      refine uj ?_ (hall c rfl (λ_ _ _ => rfl));intro x a h Y;cases x <;> first | exact Y | skip
      rename_i l';unfold jZ at Y ⊢;simp only at Y ⊢;cases I : findLabel c l' with
      | none => simp only [I] at Y; exact Y
      | some r2 =>
        simp only [I] at Y;rcases Y with ⟨E, m', hm, hI⟩ | ⟨E, j⟩
        · exact hI.elim
        · exact .inr ⟨E, 0, U, am9 _, j⟩
    | some l =>
      simp only [E] at ht;cases hl : findLabel c l with
      | none => simp only [hl] at ht; exact ht.elim
      | some r =>
        simp only [hl] at ht
        have B : ∀ l', nY (some l) l' = true -> (findLabel c l').isSome = true := by
          intro l' I;obtain rfl := yd.1 I;rw [hl]; rfl
        cases fu with
        | zero => simp only [yK] at ht; exact ht.elim
        | succ U =>
        refine DB (fu := U) (λf O => q f ad) (Inv := O6 P n cuts U c r l e L K κ) (back := some l) B A ?_ ?_
        · intro l' I m a h hI
          obtain rfl := yd.1 I;obtain ⟨e1, L1, k, f, h1, h2, h3, h4, h5, h6⟩ := XM m a h hI;exact ⟨r, e1, L1, k, f, hl, h1, h2, h3, h4, h5, h6⟩
        · exact Dr (λf O => q f ad) A hl (U + 1) c e L a h (am9 _) (qt.refl _) hl (λs j => j) ht g (Fr.refl _ _)
end main
end Go.Sx
