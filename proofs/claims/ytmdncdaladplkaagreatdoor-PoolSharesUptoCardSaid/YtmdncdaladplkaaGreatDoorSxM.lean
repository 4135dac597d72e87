/- Part of the framework. No condition. -/
import Derived.Test.YtmdncdaladplkaaGreatDoorSxC
set_option linter.all false
set_option maxHeartbeats 4000000
namespace Go.Sx
section main
variable {P:Program} {n:Nd} {cuts:List Nat}
def Vi.mono {L:Lp} {K:Xab->Hp->Prop} {e0 f:Env} {ms b:List Nat} {κ:Exit->Env->Nat->T} {Q:Exit->Act->Hp->Prop} {i:Lp}
  (hk:Vi n L K e0 ms κ Q) (j:pN L i) (fr:Fr ms e0 f) (m:∀ s∈b,s∈ms):Vi n i K f b κ Q :=
 fun x e a h k c l g d=>hk x e a h k (j.trans c) l g (fr.trans (d.mono m))
def Sc (P:Program) (n:Nd) (cuts:List Nat) (c:Code) (e0:Env) (L:Lp) (K:Xab->Hp->Prop) (κ:Exit->Env->Nat->T) (back:Option Nat) (Inv:Nat->Act->Hp->Prop)
  (f m l:Nat) (a:Act) (h:Hp):Prop :=
 ∃ g b d k i,findLabel c l=some g/\pN L d/\mw P n cuts f c g b d.length back k κ d K h/\ix n b a/\Fr (eQ c) e0 b/\Fr (eQ c) i b /\
  ∀ e j h2 o,pN d o->k e o K h2->ix n e j->Fr (eQ c) i e->∃ p,p<m/\Inv p j h2
variable {V a:Code} {H:Env} {O:Lp} {U:Xab->Hp->Prop} {Y:Exit->Act->Hp->Prop} {b:Env->T} {Z:Act}
def th {fu:Nat} (R:∀ f,f<=fu->XL P n cuts f) {e0 C:Env} {z:Lp} {κ:Exit->Env->Nat->T} 
  {back:Option Nat} {Inv:Nat->Act->Hp->Prop} {m f:Nat} {h:Hp}
  (o:∀ l,nv back l=true->(findLabel V l).isSome=true) (J:Vi n O U e0 (eQ V) κ Y) (D:pN O z) (hf:f<=fu+1) (S:∀ s∈eQ a,s∈eQ V)
  (ht:mw P n cuts f V a H z.length back b κ z U h) (g:ix n H Z) (fr:Fr (eQ V) e0 H) (A:Fr (eQ V) C H)
  (hk:∀ e2 y h2 p,pN z p->b e2 p U h2->ix n e2 y->Fr (eQ V) C e2->∃ q,q<m/\Inv q y h2) :
  ∃ u,f=u+1/\∀ t,eQ t=eQ a->(∀ H M κ,gu P n cuts u t H M κ=gu P n cuts u a H M κ) ->
   cW P t (jH V (fun l Z h=>(nv back l=true/\∃ q,q<m/\Inv q Z h)\/(nv back l=false/\Sc P n cuts V e0 O U κ back Inv u m l Z h)) Y) Z h:=by
 cases f with
 | zero=>simp only [mw] at ht; exact ht.elim
 | succ u =>
  refine ⟨u,rfl,fun t E w=>?_⟩;simp only [mw] at ht;rw [<- w] at ht;refine R u ad t H _ z U _ Z h ?_ ht g;intro x e2 y h2 p i j B F;have d:Fr (eQ V) H e2:=F.mono (fun s W=>S s (E▸W));cases x <;> first
   | exact J _ e2 y h2 p (D.trans i) j B (fr.trans d)
   | skip
  rename_i l;simp only at j;unfold jH;simp only;cases G:nv back l with
  | true =>
   simp only [G] at j;obtain ⟨q,X,hI⟩:=hk e2 y h2 p i j B (A.trans d);cases hl:findLabel V l with
   | some N=>exact .inl ⟨rfl,q,X,hI⟩
   | none=>have:=o l G; rw [hl] at this; cases this
  | false =>
   simp only [G] at j;cases hl:findLabel V l with
   | none=>simp only [hl] at j; exact J _ e2 y h2 p (D.trans i) j B (fr.trans d)
   | some N =>
    simp only [hl] at j;exact .inr ⟨rfl,N,e2,p,b,C,hl,D.trans i,j,B,fr.trans d,A.trans d,fun e3 a3 h3 L3 I=>hk e3 a3 h3 L3 (i.trans I)⟩
def ZZ (x y:Nat × Nat):Prop:=x.1<y.1\/(x.1=y.1/\x.2<y.2)
def SP:WellFounded ZZ:=by
 have h:WellFounded (Prod.Lex (fun a b:Nat=>a<b) (fun a b:Nat=>a<b)):=(Prod.lex Nat.lt_wfRel Nat.lt_wfRel).wf;refine Subrelation.wf ?_ h;rintro ⟨a,b⟩ ⟨c,d⟩ h;rcases h with h | ⟨h1,h2⟩
 ·exact Prod.Lex.left _ _ h
 ·simp only at h1 h2; subst h1; exact Prod.Lex.right _ h2
def xH {b l:Nat}:nv (some b) l=true↔b=l:=by
 simp only [nv];exact ⟨fun h=>au9 h,fun h=>by subst h; simp⟩
def Da {fu:Nat} (N:∀ f,f<=fu->XL P n cuts f) {κ:Exit->Env->Nat->T} {h:Hp}
  {back:Option Nat} {Inv:Nat->Act->Hp->Prop} (d:∀ l,nv back l=true->(findLabel V l).isSome=true) (R:Vi n O U H (eQ V) κ Y)
  (round:∀ l,nv back l=true->∀ m Z h,Inv m Z h->∃ r q s k f,findLabel V l=some r/\f<=fu+1/\pN O s/\Fr (eQ V) H q/\ix n q Z/\mw P n cuts f V r q s.length back k κ s U h /\
   ∀ y z h2 S,pN s S->k y S U h2->ix n y z->Fr (eQ V) q y->∃ t,t<m/\Inv t z h2)
  (first:cW P V (jH V (fun l Z h=>(nv back l=true/\∃ m,Inv m Z h)\/(nv back l=false/\∃ m f,f<=fu/\Sc P n cuts V H O U κ back Inv f m l Z h)) Y) Z h) :
  cW P (.scope V) Y Z h:=by
 have A:∀ (J B:Nat->Act->Hp->Prop),(∀ l Z h,J l Z h->B l Z h)->∀ x Z h,jH V J Y x Z h->jH V B Y x Z h:=by
  intro J B W x Z h j;cases x <;> first | exact j | skip
  rename_i l;unfold jH at j ⊢;simp only at j ⊢;cases hl:findLabel V l with
  | none=>simp only [hl] at j; exact j
  | some r2=>simp only [hl] at j; exact W l Z h j
 refine FM SP (fun l m Z h=>(nv back l=true/\m.2=fu+1/\Inv m.1 Z h)\/(nv back l=false/\m.2<=fu/\Sc P n cuts V H O U κ back Inv m.2 m.1 l Z h)) ?_ ?_
 ·refine tE (A _ _ ?_) first
  rintro l Z h (⟨u,m,C⟩ | ⟨u,m,f,w,D⟩)
  ·exact ⟨(m,fu+1),.inl ⟨u,rfl,C⟩⟩
  ·exact ⟨(m,f),.inr ⟨u,w,D⟩⟩
 ·rintro l ⟨m,f⟩ Z h (⟨u,w,C⟩ | ⟨u,w,D⟩)
  ·obtain ⟨r,q,s,k,f1,hl,E,F,fr,g,ht,hk⟩:=round l u m Z h C;obtain ⟨G,rfl,i⟩:=th N d R F E (pK hl) ht g fr (Fr.refl _ _) hk;refine ⟨r,hl,tE (A _ _ ?_) (i r rfl (fun _ _ _=>rfl))⟩;simp only at w;rintro X z h2 (⟨b,t,I,o⟩ | ⟨b,p⟩)
   ·exact ⟨(t,fu+1),.inl I,.inl ⟨b,rfl,o⟩⟩
   ·exact ⟨(m,G),.inr ⟨rfl,by simp only; omega⟩,.inr ⟨b,by simp only; omega,p⟩⟩
  ·obtain ⟨r,q,s,k,y,hl,F,ht,g,fr,M,hk⟩:=D;simp only at w ht hk;obtain ⟨G,rfl,i⟩:=th N d R F ad (pK hl) ht g fr M hk;refine ⟨r,hl,tE (A _ _ ?_) (i r rfl (fun _ _ _=>rfl))⟩;rintro X z h2 (⟨b,t,I,o⟩ | ⟨b,p⟩)
   ·exact ⟨(t,fu+1),.inl I,.inl ⟨b,rfl,o⟩⟩
   ·exact ⟨(m,G),.inr ⟨rfl,by simp only; omega⟩,.inr ⟨b,by simp only; omega,p⟩⟩
def Iu (P:Program) (n:Nd) (cuts:List Nat) (p:Nat) (c r:Code) (l:Nat) (e:Env) (L:Lp) (K:Xab->Hp->Prop) (κ:Exit->Env->Nat->T) (Inv:Nat->Act->Hp->Prop):Prop :=
 ∀ m a h,Inv m a h->∃ b d k f,f<=p+1/\pN L d/\Fr (eQ c) e b/\ix n b a/\mw P n cuts f c r b d.length (some l) k κ d K h /\
   ∀ g i h2 j,pN d j->k g j K h2->ix n g i->Fr (eQ c) b g->∃ o,o<m/\Inv o i h2
def Ot (P:Program) (n:Nd) (cuts:List Nat) (b:Nat) (c r:Code) (l:Nat) (e:Env) (L:Lp) (K:Xab->Hp->Prop) (κ:Exit->Env->Nat->T) (m:Nat) (a:Act) (h:Hp):Prop :=
 ∃ Inv,Iu P n cuts b c r l e L K κ Inv/\Inv m a h
def WY {i l:Nat} {κ:Exit->Env->Nat->T}:Iu P n cuts i V a l H O U κ (Ot P n cuts i V a l H O U κ):=by
 rintro m b h ⟨Inv,j,o⟩;obtain ⟨p,q,k,f,h1,h2,s,t,u,w⟩:=j m b h o;refine ⟨p,q,k,f,h1,h2,s,t,u,fun x y h2 z A hk g fr=>?_⟩;obtain ⟨B,C,d⟩:=w x y h2 z A hk g fr;exact ⟨B,C,Inv,j,d⟩
theorem C1 {q:Nat} (S:∀ f,f<=q->XL P n cuts f) {c r:Code} {l:Nat} {e:Env} {L:Lp} {K:Xab->Hp->Prop} {κ:Exit->Env->Nat->T} {Q:Exit->Act->Hp->Prop}
  (U:Vi n L K e (eQ c) κ Q) (hl:findLabel c l=some r):∀ (f:Nat) (t:Code) (D:Env) (i:Lp) (a:Act) (h:Hp),f<=q+1->pN L i->findLabel t l=some r->(∀ s∈eQ t,s∈eQ c) ->
  ym P n cuts f c t l r D i.length κ i K h->ix n D a->Fr (eQ c) e D ->
   cW P t (jH c (fun l' a h=>(nv (some l) l'=true/\∃ m,Ot P n cuts q c r l e L K κ m a h)\/(nv (some l) l'=false/\∃ m f,f<=q/\Sc P n cuts c e L K κ (some l) (Ot P n cuts q c r l e L K κ) f m l' a h)) Q) a h
 | 0,t,D,i,a,h,_,_,_,_,ht,_,_=>by simp only [ym] at ht; exact ht.elim
 | f+1,t,D,i,a,h,hf,R,G,H,ht,g,fr=>by
  unfold ym at ht;cases V:fX l t with
  | true =>
   simp only [V] at ht;obtain ⟨Inv,⟨W,X⟩,b⟩:=HX (P:=P) ht g;have u:∀ l',nv (some l) l'=true->(findLabel c l').isSome=true:=by
    intro l' j;obtain rfl:=xH.1 j;rw [hl]; rfl
   have hR:Iu P n cuts q c r l e L K κ Inv:=by
    intro m a1 h1 Y;obtain ⟨e2,J,k,d,E,w,hk⟩:=b m a1 h1 Y;refine ⟨e2,i++[J],k,f,ad,R.trans (pN.snoc _ _),fr.trans d,E,?_,hk⟩;simpa using w
   obtain ⟨e2,J,k,d,E,w,hk⟩:=b W a h X;have Z:mw P n cuts f c r e2 (i++[J]).length (some l) k κ (i++[J]) K h:=by simpa using w
   have hk':∀ I A h2 B,pN (i++[J]) B->k I B K h2->ix n I A->Fr (eQ c) e2 I->∃ F,F<W/\Ot P n cuts q c r l e L K κ F A h2:=by
    intro I A h2 B o M g3 fr3;obtain ⟨F,hm,hI'⟩:=hk I A h2 B o M g3 fr3;exact ⟨F,hm,Inv,hR,hI'⟩
   obtain ⟨f',rfl,N⟩:=th S u U (R.trans (pN.snoc _ _)) ad (pK hl) Z E (fr.trans d) (Fr.refl _ _) hk';obtain ⟨h1,h2⟩:=C7 (P:=P) (n:=n) (cuts:=cuts) t V G;refine tE ?_ (N t h1 (h2 _));intro x a h C;cases x <;> first | exact C | skip
   rename_i l';unfold jH at C ⊢;simp only at C ⊢;cases j:findLabel c l' with
   | none=>simp only [j] at C; exact C
   | some r2 =>
    simp only [j] at C;rcases C with ⟨w,F,hm,Y⟩ | ⟨w,O⟩
    ·exact .inl ⟨w,F,Y⟩
    ·exact .inr ⟨w,W,f',ad,O⟩
  | false =>
   simp only [V] at ht;obtain ⟨x,y,rfl⟩:∃ x y,t=.seq x y:=by
    cases t <;> first | exact ⟨_,_,rfl⟩ | exact ht.elim
   simp only at ht;cases M:findLabel x l with
   | some rx=>simp only [M] at ht; exact ht.elim
   | none =>
    simp only [M] at ht;have hty:findLabel y l=some r:=by simpa [findLabel,M] using G
    refine En (S f ad x D _ i K _ a h ?_ ht g);intro z e2 A h2 B o hz E d;have p:Fr (eQ c) e e2:=fr.trans (d.mono fun s O=>H s (bh9 _ O));cases z <;> first
     | exact C1 S U hl f y e2 B A h2 ad (R.trans o) hty (fun s O=>H s (br9 _ O)) hz E p
     | exact U _ e2 A h2 B (R.trans o) hz E p
     | exact hz.elim
def ROk (P:Program) (n:Nd):Prop :=
 ∀ (id:Nat) (ops:Array Oper) (e:Env) (k:Env->T) (L:Lp) (K:Xab->Hp->Prop) (Q:Exit->Act->Hp->Prop) (a:Act) (h:Hp),
  (∀ b a' h',k b L K h'->ix n b a'->Fr (dstsOf ops) e b->Q .normal a' h')->wK P n id ops e k L K h->ix n e a->cW P (.region id ops true) Q a h
def xL {id:Nat} {ops:Array Oper} {h:Hp}
  (hk:∀ c a' h',b c O U h'->ix n c a'->Fr (dstsOf ops) H c->Y .normal a' h') (ht:Gw P n ops ops.toList H b O U h) (g:ix n H Z):cW P (.region id ops false) Y Z h :=
 fun d w f i=>wp_region_list (Fa hk ops.toList H Z h (fun _ j=>j) ht g (Fr.refl _ _) d w f i)
def On (hR : ROk P n) : ∀ fu, XL P n cuts fu := by
  intro fu
  induction fu using Nat.strongRecOn with
  | _ fu Z =>
  intro c e κ L K Q a h A ht g;cases fu with
  | zero => simp only [gu] at ht; exact ht.elim
  | succ fu =>
  have q : ∀ f, f <= fu -> XL P n cuts f := fun f O => Z f ad
  unfold gu at ht;cases c <;> simp only at ht
  case skip => exact KS (A _ e a h L (pN.refl _) ht g (Fr.refl _ _))
  case label l => exact GA (A _ e a h L (pN.refl _) ht g (Fr.refl _ _))
  case exit i => exact KT (A _ e a h L (pN.refl _) ht g (Fr.refl _ _))
  case goto i => exact Kh (A _ e a h L (pN.refl _) ht g (Fr.refl _ _))
  case ret => exact Qr (A _ e a h L (pN.refl _) ht g (Fr.refl _ _))
  case refuse s => exact ht.elim
  case rangeFunc f ps x y => exact ht.elim
  case seq x y =>
    cases hc : Lt cuts (kw y) 1000 with
    | false =>
      simp only [hc] at ht;refine En (q fu (aq9 _) x e _ L K _ a h ?_ ht g);intro z e2 C h2 H w D F p;have G : Fr (eQ (.seq x y)) e e2 := p.mono fun s j => bh9 _ j
      cases z <;> first
        | exact q fu (aq9 _) y e2 κ H K Q C h2 (A.mono w G fun s j => br9 _ j) D F
        | exact A _ e2 C h2 H w D F G
    | true =>
      simp only [hc] at ht
      obtain ⟨J, k, O, hk⟩ := FU (n := n) (fun s j => by
        have h1 : ∀ l : List Nat, ∀ t ∈ (live e l).map (·.1), t ∈ l := by
          intro l
          induction l with
          | nil => intro t ht; simp [live] at ht
          | cons u l Z =>
            intro t ht;unfold live at ht;cases hv : da e u with
            | none => simp only [hv] at ht; exact ap9 _ (Z t ht)
            | some v =>
              simp only [hv, List.map_cons, List.mem_cons] at ht;rcases ht with rfl | ht
              · simp
              · exact ap9 _ (Z t ht)
        exact (tk _).1 (h1 _ _ j)) ht
      have hf' : gu P n cuts fu x e (L ++ [J]).length (fun x M V => match x with
            | .normal => k M
            | x => κ x M V) (L ++ [J]) K h := by
        have N : (L ++ [J]).length = L.length + 1 :=aj
        rw [N]; exact O
      refine En (q fu (aq9 _) x e _ (L ++ [J]) K _ a h ?_ hf' g);intro z e2 C h2 H w D F p;have G : Fr (eQ (.seq x y)) e e2 := p.mono fun s j => bh9 _ j
      cases z <;> first
        | exact A _ e2 C h2 H ((pN.snoc _ _).trans w) D F G
        | skip
      obtain ⟨e3, W, g3, X⟩ := hk e2 C h2 H w D F p;exact q fu (aq9 _) y e3 κ L K Q C h2 (A.mono (pN.refl _) (W.mono fun s j => bh9 _ j) fun s j => br9 _ j) X g3
  case cond c x y =>
    cases hv : ev e c with
    | none => simp only [hv] at ht; exact ht.elim
    | some v =>
      cases v <;> simp only [hv] at ht <;> first | exact ht.elim | skip
      rename_i b;refine EY (b := b) (g.ev hv) (fun E => ?_) (fun E => ?_) <;> subst E
      · exact q fu (aq9 _) x e κ L K Q a h (A.mono (pN.refl _) (Fr.refl _ _) fun s j => bh9 _ j) ht g
      · exact q fu (aq9 _) y e κ L K Q a h (A.mono (pN.refl _) (Fr.refl _ _) fun s j => br9 _ j) ht g
  case block id x =>
    refine G8 (q fu (aq9 _) x e _ L K _ a h ?_ ht g);intro z e2 C h2 H w D F p
    cases z <;> first
      | exact A _ e2 C h2 H w D F p
      | skip
    rename_i i;simp only at D;cases E : Nat.beq i id with
    | true =>
      simp only [E] at D;have := au9 E;subst this;simp only [mZ, if_true];exact A _ e2 C h2 H w D F p
    | false =>
      simp only [E] at D;have hne : ¬ i = id := by intro hh; subst hh; simp at E
      simp only [mZ, if_neg hne];exact A _ e2 C h2 H w D F p
  case region id ops S =>
    cases hc : Lt cuts (some id) 0 with
    | false =>
      simp only [hc] at ht;have hk : ∀ M a' h', (κ .normal M L.length) L K h' -> ix n M a' -> Fr (dstsOf ops) e M -> Q .normal a' h' := fun M a' h' hx g' fr' => A _ M a' h' L (pN.refl _) hx g' fr'
      cases S with
      | false => exact xL hk ht g
      | true => exact hR id ops e _ L K Q a h hk ht g
    | true =>
      simp only [hc] at ht
      obtain ⟨J, k, O, hk⟩ := FU (n := n) (fun s j => by
        have : ∀ l : List Oper, ∀ s ∈ (handsOn P l).map (·.1), s ∈ l.filterMap (·.dst) := by
          intro l
          induction l with
          | nil => intro s j; simp [handsOn] at j
          | cons o l Z =>
            intro s j;cases l with
            | nil =>
              unfold handsOn at j;cases hd : o.dst with
              | none => simp only [hd] at j; simp at j
              | some d => simp only [hd] at j; simp at j; subst j; simp [hd]
            | cons o2 l =>
              have h2 : s ∈ (handsOn P (o2 :: l)).map (·.1) \/ o.dst = some s := by
                unfold handsOn at j;split at j
                · rename_i d hop hd
                  simp only [List.map_cons, List.mem_cons] at j;rcases j with rfl | j
                  · exact .inr hd
                  · exact .inl j
                · exact .inl j
              rcases h2 with h2 | h2
              · have := Z s h2
                obtain ⟨o', ho', hd'⟩ := dw9.1 this;exact dw9.2 ⟨o', ap9 _ ho', hd'⟩
              · exact dw9.2 ⟨o, aj, h2⟩
        exact this _ s j) ht
      have hk' : ∀ M a' h', k M (L ++ [J]) K h' -> ix n M a' -> Fr (dstsOf ops) e M -> Q .normal a' h' := by
        intro e2 C h2 D F p;obtain ⟨e3, W, g3, X⟩ := hk e2 C h2 (L ++ [J]) (pN.refl _) D F p;exact A _ e3 C h2 L (pN.refl _) X g3 W
      cases S with
      | false => exact xL hk' O g
      | true => exact hR id ops e _ (L ++ [J]) K Q a h hk' O g
  case loop c =>
    obtain ⟨Inv, h0, R⟩ := HX (P := P) ht g;refine Kv Inv h0 ?_;intro m a1 h1 hI;obtain ⟨e1, J, k, fr1, g1, E, hk⟩ := R m a1 h1 hI
    have hb' : gu P n cuts fu c e1 (L ++ [J]).length (fun x e'' V => match x with
      | .normal => k e''
      | x => κ x e'' V) (L ++ [J]) K h1 := by
      have N : (L ++ [J]).length = L.length + 1 :=aj
      rw [N]; exact E
    refine q fu (aq9 _) c e1 _ (L ++ [J]) K _ a1 h1 ?_ hb' g1;intro z e2 C h2 H w D F p
    cases z <;> first
      | exact A _ e2 C h2 H ((pN.snoc _ _).trans w) D F (fr1.trans p)
      | exact hk e2 C h2 H w D F p
  case scope c =>
    have A : Vi n L K e (eQ c) κ Q := A;cases E : CZ c with
    | none =>
      simp only [E] at ht;have B : ∀ l, nv none l = true -> (findLabel c l).isSome = true := fun l hl => by simp [nv] at hl
      cases fu with
      | zero => simp only [mw] at ht; exact ht.elim
      | succ U =>
      refine Da (fu := U) (fun f O => q f ad) (Inv := fun _ _ _ => False) (back := none) B A (fun l hl => by simp [nv] at hl) ?_
      obtain ⟨f', hf', hall⟩ := th (fu := U) (fun f O => q f ad) B A (pN.refl L) (aq9 _) (fun s j => j) ht g (Fr.refl _ _) (Fr.refl _ _) (m := 0) (Inv := fun _ _ _ => False)
        (fun e2 C h2 H _ hx _ _ => hx.elim)
      obtain rfl : U = f' :=ad
      refine tE ?_ (hall c rfl (fun _ _ _ => rfl));intro x a h Y;cases x <;> first | exact Y | skip
      rename_i l';unfold jH at Y ⊢;simp only at Y ⊢;cases I : findLabel c l' with
      | none => simp only [I] at Y; exact Y
      | some r2 =>
        simp only [I] at Y;rcases Y with ⟨E, m', hm, hI⟩ | ⟨E, j⟩
        · exact hI.elim
        · exact .inr ⟨E, 0, U, aq9 _, j⟩
    | some l =>
      simp only [E] at ht;cases hl : findLabel c l with
      | none => simp only [hl] at ht; exact ht.elim
      | some r =>
        simp only [hl] at ht
        have B : ∀ l', nv (some l) l' = true -> (findLabel c l').isSome = true := by
          intro l' I;obtain rfl := xH.1 I;rw [hl]; rfl
        cases fu with
        | zero => simp only [ym] at ht; exact ht.elim
        | succ U =>
        refine Da (fu := U) (fun f O => q f ad) (Inv := Ot P n cuts U c r l e L K κ) (back := some l) B A ?_ ?_
        · intro l' I m a h hI
          obtain rfl := xH.1 I;obtain ⟨e1, L1, k, f, h1, h2, h3, h4, h5, h6⟩ := WY m a h hI;exact ⟨r, e1, L1, k, f, hl, h1, h2, h3, h4, h5, h6⟩
        · exact C1 (fun f O => q f ad) A hl (U + 1) c e L a h (aq9 _) (pN.refl _) hl (fun s j => j) ht g (Fr.refl _ _)
end main
end Go.Sx
