/- Part of the framework. No condition. -/
import Derived.Test.YtlpcncdglfjnoaaGreatDoorSxC
set_option linter.all false
set_option maxHeartbeats 4000000
namespace Go.Sx
section main
variable {P:Program} {n:Nd} {cuts:List Nat}
def P7.mono {L:Lp} {K:XB->Hp->Prop} {e0 f:Env} {ms b:List Nat} {κ:Exit->Env->Nat->T} {Q:Exit->Act->Hp->Prop} {i:Lp}
  (hk:P7 n L K e0 ms κ Q) (j:n' L i) (fr:Fr ms e0 f) (m:∀ s∈b,s∈ms):P7 n i K f b κ Q :=
 fun x e a h k c l g d=>hk x e a h k (j.trans c) l g (fr.trans (d.mono m))
def Sc (P:Program) (n:Nd) (cuts:List Nat) (c:Code) (e0:Env) (L:Lp) (K:XB->Hp->Prop) (κ:Exit->Env->Nat->T) (back:Option Nat) (Inv:Nat->Act->Hp->Prop)
  (f m l:Nat) (a:Act) (h:Hp):Prop :=
 ∃ g b d k i,findLabel c l=some g/\n' L d/\kM P n cuts f c g b d.length back k κ d K h/\gd n b a/\Fr (ec c) e0 b/\Fr (ec c) i b /\
  ∀ e j h2 o,n' d o->k e o K h2->gd n e j->Fr (ec c) i e->∃ p,p<m/\Inv p j h2
variable {U Z:Code} {H:Env} {I:Lp} {O:XB->Hp->Prop} {V:Exit->Act->Hp->Prop} {a:Env->T} {Y:Act}
def qY {fu:Nat} (S:∀ f,f<=fu->Sq P n cuts f) {e0 C:Env} {y:Lp} {κ:Exit->Env->Nat->T} 
  {back:Option Nat} {Inv:Nat->Act->Hp->Prop} {m f:Nat} {h:Hp}
  (j:∀ l,lJ back l=true->(findLabel U l).isSome=true) (M:P7 n I O e0 (ec U) κ V) (D:n' I y) (hf:f<=fu+1) (W:∀ s∈ec Z,s∈ec U)
  (z:kM P n cuts f U Z H y.length back a κ y O h) (g:gd n H Y) (fr:Fr (ec U) e0 H) (A:Fr (ec U) C H)
  (hk:∀ e2 w h2 o,n' y o->a e2 o O h2->gd n e2 w->Fr (ec U) C e2->∃ p,p<m/\Inv p w h2) :
  ∃ q,f=q+1/\∀ t,ec t=ec Z->(∀ H N κ,fz P n cuts q t H N κ=fz P n cuts q Z H N κ) ->
   cW P t (iM U (fun l Y h=>(lJ back l=true/\∃ p,p<m/\Inv p Y h)\/(lJ back l=false/\Sc P n cuts U e0 I O κ back Inv q m l Y h)) V) Y h:=by
 cases f with
 | zero=>simp only [kM] at z; exact z.elim
 | succ q =>
  refine ⟨q,rfl,fun t E u=>?_⟩;simp only [kM] at z;rw [<- u] at z;refine S q ad t H _ y O _ Y h ?_ z g;intro x e2 w h2 o d i B F;have b:Fr (ec U) H e2:=F.mono (fun s X=>W s (E▸X));cases x <;> first
   | exact M _ e2 w h2 o (D.trans d) i B (fr.trans b)
   | skip
  rename_i l;simp only at i;unfold iM;simp only;cases G:lJ back l with
  | true =>
   simp only [G] at i;obtain ⟨p,hm,hI⟩:=hk e2 w h2 o d i B (A.trans b);cases hl:findLabel U l with
   | some R=>exact .inl ⟨rfl,p,hm,hI⟩
   | none=>have:=j l G; rw [hl] at this; cases this
  | false =>
   simp only [G] at i;cases hl:findLabel U l with
   | none=>simp only [hl] at i; exact M _ e2 w h2 o (D.trans d) i B (fr.trans b)
   | some R =>
    simp only [hl] at i;exact .inr ⟨rfl,R,e2,o,a,C,hl,D.trans d,i,B,fr.trans b,A.trans b,fun e3 a3 h3 L3 J=>hk e3 a3 h3 L3 (d.trans J)⟩
def Uo (x y:Nat × Nat):Prop:=x.1<y.1\/(x.1=y.1/\x.2<y.2)
def N9:WellFounded Uo:=by
 have h:WellFounded (Prod.Lex (fun a b:Nat=>a<b) (fun a b:Nat=>a<b)):=(Prod.lex Nat.lt_wfRel Nat.lt_wfRel).wf;refine Subrelation.wf ?_ h;rintro ⟨a,b⟩ ⟨c,d⟩ h;rcases h with h | ⟨h1,h2⟩
 ·exact Prod.Lex.left _ _ h
 ·simp only at h1 h2; subst h1; exact Prod.Lex.right _ h2
def vU {b l:Nat}:lJ (some b) l=true↔b=l:=by
 simp only [lJ];exact ⟨fun h=>VF h,fun h=>by subst h; simp⟩
def AV {fu:Nat} (S:∀ f,f<=fu->Sq P n cuts f) {κ:Exit->Env->Nat->T} {h:Hp}
  {back:Option Nat} {Inv:Nat->Act->Hp->Prop} (d:∀ l,lJ back l=true->(findLabel U l).isSome=true) (W:P7 n I O H (ec U) κ V)
  (round:∀ l,lJ back l=true->∀ m Y h,Inv m Y h->∃ r q s k f,findLabel U l=some r/\f<=fu+1/\n' I s/\Fr (ec U) H q/\gd n q Y/\kM P n cuts f U r q s.length back k κ s O h /\
   ∀ y z h2 X,n' s X->k y X O h2->gd n y z->Fr (ec U) q y->∃ t,t<m/\Inv t z h2)
  (first:cW P U (iM U (fun l Y h=>(lJ back l=true/\∃ m,Inv m Y h)\/(lJ back l=false/\∃ m f,f<=fu/\Sc P n cuts U H I O κ back Inv f m l Y h)) V) Y h) :
  cW P (.scope U) V Y h:=by
 have B:∀ (J C:Nat->Act->Hp->Prop),(∀ l Y h,J l Y h->C l Y h)->∀ x Y h,iM U J V x Y h->iM U C V x Y h:=by
  intro J C Z x Y h j;cases x <;> first | exact j | skip
  rename_i l;unfold iM at j ⊢;simp only at j ⊢;cases hl:findLabel U l with
  | none=>simp only [hl] at j; exact j
  | some r2=>simp only [hl] at j; exact Z l Y h j
 refine C6 N9 (fun l m Y h=>(lJ back l=true/\m.2=fu+1/\Inv m.1 Y h)\/(lJ back l=false/\m.2<=fu/\Sc P n cuts U H I O κ back Inv m.2 m.1 l Y h)) ?_ ?_
 ·refine rq (B _ _ ?_) first
  rintro l Y h (⟨u,m,D⟩ | ⟨u,m,f,w,E⟩)
  ·exact ⟨(m,fu+1),.inl ⟨u,rfl,D⟩⟩
  ·exact ⟨(m,f),.inr ⟨u,w,E⟩⟩
 ·rintro l ⟨m,f⟩ Y h (⟨u,w,D⟩ | ⟨u,w,E⟩)
  ·obtain ⟨r,q,s,k,f1,hl,F,G,fr,g,A,hk⟩:=round l u m Y h D;obtain ⟨M,rfl,i⟩:=qY S d W G F (nW hl) A g fr (Fr.refl _ _) hk;refine ⟨r,hl,rq (B _ _ ?_) (i r rfl (fun _ _ _=>rfl))⟩;simp only at w;rintro l2 z h2 (⟨b,t,N,o⟩ | ⟨b,p⟩)
   ·exact ⟨(t,fu+1),.inl N,.inl ⟨b,rfl,o⟩⟩
   ·exact ⟨(m,M),.inr ⟨rfl,by simp only; omega⟩,.inr ⟨b,by simp only; omega,p⟩⟩
  ·obtain ⟨r,q,s,k,y,hl,G,A,g,fr,R,hk⟩:=E;simp only at w A hk;obtain ⟨M,rfl,i⟩:=qY S d W G ad (nW hl) A g fr R hk;refine ⟨r,hl,rq (B _ _ ?_) (i r rfl (fun _ _ _=>rfl))⟩;rintro l2 z h2 (⟨b,t,N,o⟩ | ⟨b,p⟩)
   ·exact ⟨(t,fu+1),.inl N,.inl ⟨b,rfl,o⟩⟩
   ·exact ⟨(m,M),.inr ⟨rfl,by simp only; omega⟩,.inr ⟨b,by simp only; omega,p⟩⟩
def FM (P:Program) (n:Nd) (cuts:List Nat) (p:Nat) (c r:Code) (l:Nat) (e:Env) (L:Lp) (K:XB->Hp->Prop) (κ:Exit->Env->Nat->T) (Inv:Nat->Act->Hp->Prop):Prop :=
 ∀ m a h,Inv m a h->∃ b d k f,f<=p+1/\n' L d/\Fr (ec c) e b/\gd n b a/\kM P n cuts f c r b d.length (some l) k κ d K h /\
   ∀ g i h2 j,n' d j->k g j K h2->gd n g i->Fr (ec c) b g->∃ o,o<m/\Inv o i h2
def Kz (P:Program) (n:Nd) (cuts:List Nat) (b:Nat) (c r:Code) (l:Nat) (e:Env) (L:Lp) (K:XB->Hp->Prop) (κ:Exit->Env->Nat->T) (m:Nat) (a:Act) (h:Hp):Prop :=
 ∃ Inv,FM P n cuts b c r l e L K κ Inv/\Inv m a h
def Rt {d l:Nat} {κ:Exit->Env->Nat->T}:FM P n cuts d U Z l H I O κ (Kz P n cuts d U Z l H I O κ):=by
 rintro m a h ⟨Inv,i,j⟩;obtain ⟨o,p,k,f,h1,h2,q,s,t,u⟩:=i m a h j;refine ⟨o,p,k,f,h1,h2,q,s,t,fun w x h2 y z hk g fr=>?_⟩;obtain ⟨A,B,b⟩:=u w x h2 y z hk g fr;exact ⟨A,B,Inv,i,b⟩
theorem AM {u:Nat} (U:∀ f,f<=u->Sq P n cuts f) {c r:Code} {l:Nat} {e:Env} {L:Lp} {K:XB->Hp->Prop} {κ:Exit->Env->Nat->T} {Q:Exit->Act->Hp->Prop}
  (V:P7 n L K e (ec c) κ Q) (hl:findLabel c l=some r):∀ (f:Nat) (t:Code) (E:Env) (j:Lp) (a:Act) (h:Hp),f<=u+1->n' L j->findLabel t l=some r->(∀ s∈ec t,s∈ec c) ->
  wM P n cuts f c t l r E j.length κ j K h->gd n E a->Fr (ec c) e E ->
   cW P t (iM c (fun l' a h=>(lJ (some l) l'=true/\∃ m,Kz P n cuts u c r l e L K κ m a h)\/(lJ (some l) l'=false/\∃ m f,f<=u/\Sc P n cuts c e L K κ (some l) (Kz P n cuts u c r l e L K κ) f m l' a h)) Q) a h
 | 0,t,E,j,a,h,_,_,_,_,d,_,_=>by simp only [wM] at d; exact d.elim
 | f+1,t,E,j,a,h,hf,S,H,I,d,g,fr=>by
  unfold wM at d;cases W:fp l t with
  | true =>
   simp only [W] at d;obtain ⟨Inv,⟨X,Y⟩,b⟩:=Ff (P:=P) d g;have w:∀ l',lJ (some l) l'=true->(findLabel c l').isSome=true:=by
    intro l' o;obtain rfl:=vU.1 o;rw [hl]; rfl
   have hR:FM P n cuts u c r l e L K κ Inv:=by
    intro m a1 h1 Z;obtain ⟨e2,J,k,i,F,A,hk⟩:=b m a1 h1 Z;refine ⟨e2,j++[J],k,f,ad,S.trans (n'.snoc _ _),fr.trans i,F,?_,hk⟩;simpa using A
   obtain ⟨e2,J,k,i,F,A,hk⟩:=b X a h Y;have hb':kM P n cuts f c r e2 (j++[J]).length (some l) k κ (j++[J]) K h:=by simpa using A
   have hk':∀ M B h2 C,n' (j++[J]) C->k M C K h2->gd n M B->Fr (ec c) e2 M->∃ G,G<X/\Kz P n cuts u c r l e L K κ G B h2:=by
    intro M B h2 C p N g3 fr3;obtain ⟨G,hm,hI'⟩:=hk M B h2 C p N g3 fr3;exact ⟨G,hm,Inv,hR,hI'⟩
   obtain ⟨f',rfl,O⟩:=qY U w V (S.trans (n'.snoc _ _)) ad (nW hl) hb' F (fr.trans i) (Fr.refl _ _) hk';obtain ⟨h1,h2⟩:=AS (P:=P) (n:=n) (cuts:=cuts) t W H;refine rq ?_ (O t h1 (h2 _));intro x a h D;cases x <;> first | exact D | skip
   rename_i l';unfold iM at D ⊢;simp only at D ⊢;cases o:findLabel c l' with
   | none=>simp only [o] at D; exact D
   | some r2 =>
    simp only [o] at D;rcases D with ⟨A,G,hm,Z⟩ | ⟨A,R⟩
    ·exact .inl ⟨A,G,Z⟩
    ·exact .inr ⟨A,X,f',ad,R⟩
  | false =>
   simp only [W] at d;obtain ⟨x,y,rfl⟩:∃ x y,t=.seq x y:=by
    cases t <;> first | exact ⟨_,_,rfl⟩ | exact d.elim
   simp only at d;cases N:findLabel x l with
   | some rx=>simp only [N] at d; exact d.elim
   | none =>
    simp only [N] at d;have hty:findLabel y l=some r:=by simpa [findLabel,N] using H
    refine BY (U f ad x E _ j K _ a h ?_ d g);intro z e2 B h2 C p hz F i;have q:Fr (ec c) e e2:=fr.trans (i.mono fun s R=>I s (V7 _ R));cases z <;> first
     | exact AM U V hl f y e2 C B h2 ad (S.trans p) hty (fun s R=>I s (Wd _ R)) hz F q
     | exact V _ e2 B h2 C (S.trans p) hz F q
     | exact hz.elim
def UI (P:Program) (n:Nd):Prop :=
 ∀ (id:Nat) (ops:Array Oper) (e:Env) (k:Env->T) (L:Lp) (K:XB->Hp->Prop) (Q:Exit->Act->Hp->Prop) (a:Act) (h:Hp),
  (∀ b a' h',k b L K h'->gd n b a'->Fr (dstsOf ops) e b->Q .normal a' h')->uJ P n id ops e k L K h->gd n e a->cW P (.region id ops true) Q a h
def vX {id:Nat} {ops:Array Oper} {h:Hp}
  (hk:∀ b a' h',a b I O h'->gd n b a'->Fr (dstsOf ops) H b->V .normal a' h') (c:DK P n ops ops.toList H a I O h) (g:gd n H Y):cW P (.region id ops false) V Y h :=
 fun d w f i=>wp_region_list (CB hk ops.toList H Y h (fun _ j=>j) c g (Fr.refl _ _) d w f i)
def Kw (hR : UI P n) : ∀ fu, Sq P n cuts fu := by
  intro fu
  induction fu using Nat.strongRecOn with
  | _ fu ih =>
  intro c e κ L K Q a h B j g;cases fu with
  | zero => simp only [fz] at j; exact j.elim
  | succ fu =>
  have w : ∀ f, f <= fu -> Sq P n cuts f := fun f R => ih f ad
  unfold fz at j;cases c <;> simp only at j
  case skip => exact HN (B _ e a h L (n'.refl _) j g (Fr.refl _ _))
  case label l => exact DP (B _ e a h L (n'.refl _) j g (Fr.refl _ _))
  case exit i => exact HO (B _ e a h L (n'.refl _) j g (Fr.refl _ _))
  case goto i => exact Hi (B _ e a h L (n'.refl _) j g (Fr.refl _ _))
  case ret => exact Mp (B _ e a h L (n'.refl _) j g (Fr.refl _ _))
  case refuse s => exact j.elim
  case rangeFunc f ps x y => exact j.elim
  case seq x y =>
    cases hc : Ib cuts (jy y) 1000 with
    | false =>
      simp only [hc] at j;refine BY (w fu (VL _) x e _ L K _ a h ?_ j g);intro z e2 D h2 I A E G q;have H : Fr (ec (.seq x y)) e e2 := q.mono fun s p => V7 _ p
      cases z <;> first
        | exact w fu (VL _) y e2 κ I K Q D h2 (B.mono A H fun s p => Wd _ p) E G
        | exact B _ e2 D h2 I A E G H
    | true =>
      simp only [hc] at j
      obtain ⟨J, k, R, hk⟩ := Dd (n := n) (fun s p => by
        have h1 : ∀ l : List Nat, ∀ t ∈ (live e l).map (·.1), t ∈ l := by
          intro l
          induction l with
          | nil => intro t j; simp [live] at j
          | cons u l ih =>
            intro t j;unfold live at j;cases hv : cQ e u with
            | none => simp only [hv] at j; exact Vz _ (ih t j)
            | some v =>
              simp only [hv, List.map_cons, List.mem_cons] at j;rcases j with rfl | j
              · simp
              · exact Vz _ (ih t j)
        exact (rb _).1 (h1 _ _ p)) j
      have hf' : fz P n cuts fu x e (L ++ [J]).length (fun x N W => match x with
            | .normal => k N
            | x => κ x N W) (L ++ [J]) K h := by
        have O : (L ++ [J]).length = L.length + 1 :=ah
        rw [O]; exact R
      refine BY (w fu (VL _) x e _ (L ++ [J]) K _ a h ?_ hf' g);intro z e2 D h2 I A E G q;have H : Fr (ec (.seq x y)) e e2 := q.mono fun s p => V7 _ p
      cases z <;> first
        | exact B _ e2 D h2 I ((n'.snoc _ _).trans A) E G H
        | skip
      obtain ⟨e3, X, g3, Y⟩ := hk e2 D h2 I A E G q;exact w fu (VL _) y e3 κ L K Q D h2 (B.mono (n'.refl _) (X.mono fun s p => V7 _ p) fun s p => Wd _ p) Y g3
  case cond c x y =>
    cases hv : ev e c with
    | none => simp only [hv] at j; exact j.elim
    | some v =>
      cases v <;> simp only [hv] at j <;> first | exact j.elim | skip
      rename_i b;refine Cw (b := b) (g.ev hv) (fun F => ?_) (fun F => ?_) <;> subst F
      · exact w fu (VL _) x e κ L K Q a h (B.mono (n'.refl _) (Fr.refl _ _) fun s p => V7 _ p) j g
      · exact w fu (VL _) y e κ L K Q a h (B.mono (n'.refl _) (Fr.refl _ _) fun s p => Wd _ p) j g
  case block id x =>
    refine Ej (w fu (VL _) x e _ L K _ a h ?_ j g);intro z e2 D h2 I A E G q
    cases z <;> first
      | exact B _ e2 D h2 I A E G q
      | skip
    rename_i i;simp only at E;cases F : Nat.beq i id with
    | true =>
      simp only [F] at E;have := VF F;subst this;simp only [lm, if_true];exact B _ e2 D h2 I A E G q
    | false =>
      simp only [F] at E;have hne : ¬ i = id := by intro hh; subst hh; simp at F
      simp only [lm, if_neg hne];exact B _ e2 D h2 I A E G q
  case region id ops U =>
    cases hc : Ib cuts (some id) 0 with
    | false =>
      simp only [hc] at j;have hk : ∀ N a' h', (κ .normal N L.length) L K h' -> gd n N a' -> Fr (dstsOf ops) e N -> Q .normal a' h' := fun N a' h' hx g' fr' => B _ N a' h' L (n'.refl _) hx g' fr'
      cases U with
      | false => exact vX hk j g
      | true => exact hR id ops e _ L K Q a h hk j g
    | true =>
      simp only [hc] at j
      obtain ⟨J, k, R, hk⟩ := Dd (n := n) (fun s p => by
        have : ∀ l : List Oper, ∀ s ∈ (handsOn P l).map (·.1), s ∈ l.filterMap (·.dst) := by
          intro l
          induction l with
          | nil => intro s p; simp [handsOn] at p
          | cons o l ih =>
            intro s p;cases l with
            | nil =>
              unfold handsOn at p;cases hd : o.dst with
              | none => simp only [hd] at p; simp at p
              | some d => simp only [hd] at p; simp at p; subst p; simp [hd]
            | cons o2 l =>
              have h2 : s ∈ (handsOn P (o2 :: l)).map (·.1) \/ o.dst = some s := by
                unfold handsOn at p;split at p
                · rename_i d hop hd
                  simp only [List.map_cons, List.mem_cons] at p;rcases p with rfl | p
                  · exact .inr hd
                  · exact .inl p
                · exact .inl p
              rcases h2 with h2 | h2
              · have := ih s h2
                obtain ⟨o', ho', hd'⟩ := WV.1 this;exact WV.2 ⟨o', Vz _ ho', hd'⟩
              · exact WV.2 ⟨o, ah, h2⟩
        exact this _ s p) j
      have hk' : ∀ N a' h', k N (L ++ [J]) K h' -> gd n N a' -> Fr (dstsOf ops) e N -> Q .normal a' h' := by
        intro e2 D h2 E G q;obtain ⟨e3, X, g3, Y⟩ := hk e2 D h2 (L ++ [J]) (n'.refl _) E G q;exact B _ e3 D h2 L (n'.refl _) Y g3 X
      cases U with
      | false => exact vX hk' R g
      | true => exact hR id ops e _ (L ++ [J]) K Q a h hk' R g
  case loop c =>
    obtain ⟨Inv, h0, S⟩ := Ff (P := P) j g;refine Hv Inv h0 ?_;intro m a1 h1 hI;obtain ⟨e1, J, k, fr1, g1, F, hk⟩ := S m a1 h1 hI
    have hb' : fz P n cuts fu c e1 (L ++ [J]).length (fun x e'' W => match x with
      | .normal => k e''
      | x => κ x e'' W) (L ++ [J]) K h1 := by
      have O : (L ++ [J]).length = L.length + 1 :=ah
      rw [O]; exact F
    refine w fu (VL _) c e1 _ (L ++ [J]) K _ a1 h1 ?_ hb' g1;intro z e2 D h2 I A E G q
    cases z <;> first
      | exact B _ e2 D h2 I ((n'.snoc _ _).trans A) E G (fr1.trans q)
      | exact hk e2 D h2 I A E G q
  case scope c =>
    have B : P7 n L K e (ec c) κ Q := B;cases F : AL c with
    | none =>
      simp only [F] at j;have C : ∀ l, lJ none l = true -> (findLabel c l).isSome = true := fun l hl => by simp [lJ] at hl
      cases fu with
      | zero => simp only [kM] at j; exact j.elim
      | succ V =>
      refine AV (fu := V) (fun f R => w f ad) (Inv := fun _ _ _ => False) (back := none) C B (fun l hl => by simp [lJ] at hl) ?_
      obtain ⟨f', hf', hall⟩ := qY (fu := V) (fun f R => w f ad) C B (n'.refl L) (VL _) (fun s p => p) j g (Fr.refl _ _) (Fr.refl _ _) (m := 0) (Inv := fun _ _ _ => False)
        (fun e2 D h2 I _ hx _ _ => hx.elim)
      obtain rfl : V = f' :=ad
      refine rq ?_ (hall c rfl (fun _ _ _ => rfl));intro x a h Z;cases x <;> first | exact Z | skip
      rename_i l';unfold iM at Z ⊢;simp only at Z ⊢;cases M : findLabel c l' with
      | none => simp only [M] at Z; exact Z
      | some r2 =>
        simp only [M] at Z;rcases Z with ⟨F, m', hm, hI⟩ | ⟨F, p⟩
        · exact hI.elim
        · exact .inr ⟨F, 0, V, VL _, p⟩
    | some l =>
      simp only [F] at j;cases hl : findLabel c l with
      | none => simp only [hl] at j; exact j.elim
      | some r =>
        simp only [hl] at j
        have C : ∀ l', lJ (some l) l' = true -> (findLabel c l').isSome = true := by
          intro l' M;obtain rfl := vU.1 M;rw [hl]; rfl
        cases fu with
        | zero => simp only [wM] at j; exact j.elim
        | succ V =>
        refine AV (fu := V) (fun f R => w f ad) (Inv := Kz P n cuts V c r l e L K κ) (back := some l) C B ?_ ?_
        · intro l' M m a h hI
          obtain rfl := vU.1 M;obtain ⟨e1, L1, k, f, h1, h2, h3, h4, h5, h6⟩ := Rt m a h hI;exact ⟨r, e1, L1, k, f, hl, h1, h2, h3, h4, h5, h6⟩
        · exact AM (fun f R => w f ad) B hl (V + 1) c e L a h (VL _) (n'.refl _) hl (fun s p => p) j g (Fr.refl _ _)
end main
end Go.Sx
