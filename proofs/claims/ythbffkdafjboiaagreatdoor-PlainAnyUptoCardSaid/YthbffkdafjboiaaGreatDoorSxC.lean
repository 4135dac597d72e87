/- Part of the framework. No condition. -/
import Derived.Test.YthbffkdafjboiaaGreatDoorSxO
set_option linter.all false
set_option maxHeartbeats 4000000
namespace Go.Sx
variable {tm:Array Xab} {ms:List Nat}
def Fr (l:List Nat) (e e':Env):Prop:=∀ s,s∉l->cQ e' s=cQ e s
def Fr.refl (l:List Nat) (e:Env):Fr l e e:=fun _ _=>rfl
def Fr.trans {l:List Nat} {a b c:Env} (h:Fr l a b) (k:Fr l b c):Fr l a c:=fun s hs=>(k s hs).trans (h s hs)
def Fr.mono {l l':List Nat} {a b:Env} (h:Fr l a b) (m:∀ s∈l,s∈l'):Fr l' a b:=fun s hs=>h s fun d=>hs (m s d)
def Fr.dX {l:List Nat} (n:Nat) (e:Env) {dst:Option Tmp} (v:Xab) (j:∀ d,dst=some d->d∈l):Fr l e (dX n e dst v):=by
 intro s hs;cases dst with
 | none=>rfl
 | some d =>
  simp only [Sx.dX];cases Nat.blt d n with
  | false=>rfl
  | true =>
   simp only [cond_true,dB];rw [Yx (fun u:d=s=>hs (u▸j d rfl))]
def xM {ops:Array Oper} {o:Oper} (h:o.guard=none):Region.wanted o (yielded ops tm)=true:=by
 simp [Region.wanted,h]
def xW {ops:Array Oper} {o:Oper} {j:Nat} {w:Bool} (h:o.guard=some (j,w)) :
  Region.wanted o (yielded ops tm)=(yielded ops tm j==some w):=by
 simp [Region.wanted,h]
def vF {ops:Array Oper} {j d:Nat} {b:Bool} (F:(ops[j]?).bind (·.dst)=some d) (u:tm.getD d undef=.bool b):yielded ops tm j=some b:=by
 unfold yielded;rw [F];rw [Array.getD_eq_getD_getElem?] at u;cases hx:tm[d]? with
 | none=>rw [hx] at u; simp [undef] at u
 | some v=>rw [hx] at u; simp at u; subst u; simp [hx]
def tq {ops:Array Oper} {j d:Nat} {vs:Array Xab} (F:(ops[j]?).bind (·.dst)=some d) (u:tm.getD d undef=.tuple vs):yielded ops tm j=none:=by
 unfold yielded;rw [F];rw [Array.getD_eq_getD_getElem?] at u;cases hx:tm[d]? with
 | none=>simp [hx]
 | some v=>rw [hx] at u; simp at u; subst u; simp [hx]
def IE {ops:Array Oper} {j d:Nat} (u:(ops[j]?).bind (·.dst)=some d):d∈dstsOf ops:=by
 obtain ⟨o,F,G⟩:=Yt.1 u
 have:=Array.mem_of_getElem? F
 exact ZQ.2 ⟨o,by simpa using this,G⟩
def K8 {n:Nd} {ops:Array Oper} {o:Oper} {e:Env} {a:Act} (g:gK n e a) {J no:Env->T} {L:Lp} {K:Xab->Hp->Prop} {h:Hp}
  (F:lN n ops o e J no L K h) :
  ∃ e',gK n e' a/\Fr (dstsOf ops) e e'/\((Region.wanted o (yielded ops a.tmps)=true/\J e' L K h)\/(Region.wanted o (yielded ops a.tmps)=false/\no e' L K h)):=by
 unfold lN guardOf at F;cases V:o.guard with
 | none =>
  simp only [V] at F;exact ⟨e,g,Fr.refl _ _,.inl ⟨xM V,F⟩⟩
 | some p =>
  obtain ⟨j,w⟩:=p;simp only [V] at F;rw [xW V];cases G:(ops[j]?).bind (·.dst) with
  | none =>
   simp only [G] at F;exact ⟨e,g,Fr.refl _ _,.inr ⟨by simp [yielded,G],F⟩⟩
  | some d =>
   simp only [G] at F;cases hv:cQ e d with
   | none=>simp only [hv] at F; exact F.elim
   | some v =>
    have O:=g.get d v hv;cases v <;> simp only [hv] at F <;> first | exact F.elim | skip
    case tuple vs=>exact ⟨e,g,Fr.refl _ _,.inr ⟨by rw [tq G O]; rfl,F⟩⟩
    case bool b =>
     rw [vF G O];have fr:∀ u,Fr (dstsOf ops) e (dX n e (some d) u):=fun u=>Fr.dX n e u (fun d' U=>by simp at U; subst U; exact IE G)
     cases w <;> simp only at F <;> rcases fL F with ⟨X,F⟩ | ⟨X,F⟩ <;> subst X
     ·exact ⟨_,g.vj hv _ rfl,fr _,.inr ⟨rfl,F⟩⟩
     ·exact ⟨_,g.vj hv _ rfl,fr _,.inl ⟨rfl,F⟩⟩
     ·exact ⟨_,g.vj hv _ rfl,fr _,.inl ⟨rfl,F⟩⟩
     ·exact ⟨_,g.vj hv _ rfl,fr _,.inr ⟨rfl,F⟩⟩
abbrev W4 (w0:World) (Q:Exit->Act->Hp->Prop):Exit->Act->World->Prop:=fun e a w=>dK w0 w/\Q e a w.heap
theorem DJ {P:Program} {n:Nd} {ops:Array Oper} {Q:Exit->Act->Hp->Prop} {k:Env->T} {K:Xab->Hp->Prop} {L:Lp} {e0:Env}
  (hk:∀ e a h,k e L K h->gK n e a->Fr (dstsOf ops) e0 e->Q .normal a h):∀ (rest:List Oper) (e:Env) (a:Act) (h:Hp),(∀ o∈rest,o∈ops.toList) ->
  EZ P n ops rest e k L K h->gK n e a->Fr (dstsOf ops) e0 e->∀ G w:World,dK G w->w.heap=h->wpList P ops (W4 G Q) rest a w
 | [],e,a,h,_,u,g,fr,G,w,hs,hw=>by
  subst hw;exact ⟨hs,hk e a _ u g fr⟩
 | o::rest,e,a,h,F,u,g,fr,G,w,hs,hw=>by
  subst hw;have O:∀ d,o.dst=some d->d∈dstsOf ops:=fun d O=>ZQ.2 ⟨o,F o aj,O⟩
  obtain ⟨e',U,J,hx⟩:=K8 g (show lN n ops o e _ _ L K w.heap from u);unfold wpList;rcases hx with ⟨j,u⟩ | ⟨j,u⟩
  ·rw [YC j];refine .inl (xB (Hh U u) ?_);intro v w' V X;exact DJ hk rest _ _ _ (fun o Y=>F o (by simp [Y])) X (U.put o.dst v) ((fr.trans J).trans (Fr.dX n _ _ O)) G w' (hs.trans V) rfl
  ·rw [Yx (by simp [j])];exact DJ hk rest _ _ _ (fun o Y=>F o (by simp [Y])) u (U.put o.dst undef) ((fr.trans J).trans (Fr.dX n _ _ O)) G w hs rfl
theorem yr {x y:Nat}:∀ {l:List Nat},y∈sJ x l↔y=x\/y∈l
 | []=>by simp [sJ]
 | z::l=>by
  simp only [sJ];cases d:Nat.blt x z with
  | true=>simp
  | false =>
   cases hc:Nat.beq x z with
   | true =>
    have:=YL hc; subst this
    simp
   | false=>simp [yr (l:=l)]; exact or_left_comm
def sf {y:Nat} (l:List Nat):y∈iP l↔y∈l:=by
 unfold iP
 have:∀ (l d:List Nat),y∈l.foldl (fun d x=>sJ x d) d↔y∈d\/y∈l:=by
  intro l
  induction l with
  | nil=>intro d; simp
  | cons x l j=>intro d; simp only [List.foldl_cons,j,yr,List.mem_cons]; rw [or_assoc]; exact or_left_comm
 simpa using this l []
def rT (e e':Env) (s:Nat):cQ (e++e') s=if s∈e.map (·.1) then cQ e s else cQ e' s:=by
 induction e with
 | nil=>simp
 | cons p e d =>
  obtain ⟨t,v⟩:=p;rw [ae9,dB,dB,d]
  by_cases h:t=s
  ·simp [h]
  ·have:¬ s=t:=fun j=>h j.symm
   simp only [List.map_cons,List.mem_cons,this,false_or,h,if_false]
def rQ {e:Env} {l:List Nat} {s:Nat}:cQ (forget e l) s=if s∈l then none else cQ e s:=by
 unfold forget;rw [rT];have h1:(l.map (fun s=>((s,none):Nat × Option Xab))).map (·.1)=l:=by
  rw [YY]; simp [Function.comp_def]
 rw [h1]
 by_cases hs:s∈l
 ·rw [YC hs,YC hs];clear h1
  induction l with
  | nil=>simp at hs
  | cons t l u =>
   rw [Zb,dB]
   by_cases d:t=s
   ·rw [YC d]
   ·rw [Yx d];exact u (by simp at hs; rcases hs with j | j; exact (d j.symm).elim; exact j)
 ·rw [Yx hs,Yx hs]
theorem wE {e:Env} {L:Lp} {K:Xab->Hp->Prop} {h:Hp}:∀ {ss:List Nat} {k:List Xab->T},As e ss k L K h->∃ vs,ss.map (cQ e)=vs.map some/\k vs L K h
 | [],k,d=>⟨[],rfl,d⟩
 | s::ss,k,d=>by
  unfold As at d;cases hv:cQ e s with
  | none=>simp only [hv] at d; exact d.elim
  | some v =>
   simp only [hv] at d;obtain ⟨vs,ec,d⟩:=wE d;exact ⟨v::vs,by simp [hv,ec],d⟩
def gK.head {n:Nd} {e e':Env} {a:Act} {ss:List Nat} {vs:List Xab} (g:gK n e' a) (hv:ss.map (cQ e')=vs.map some) (fr:Fr ms e e') :
  gK n (np ss vs++forget e (iP ms)) a:=by
 refine ⟨g.size,g.defers,fun s v hs=>?_⟩;have key:∀ (ss:List Nat) (vs:List Xab),ss.map (cQ e')=vs.map some->∀ v,cQ (np ss vs++forget e (iP ms)) s=some v->cQ e' s=some v:=by
  intro ss
  induction ss with
  | nil =>
   intro vs d v hs;simp only [np,List.zip_nil_left,List.map_nil,List.nil_append,rQ] at hs
   by_cases hm:s∈iP ms
   ·rw [YC hm] at hs; cases hs
   ·rw [Yx hm] at hs;rw [fr s (fun d=>hm ((sf ms).2 d))];exact hs
  | cons t ss F =>
   intro vs d v hs;cases vs with
   | nil=>simp at d
   | cons u vs =>
    simp only [List.map_cons,List.cons.injEq] at d
    have:np (t::ss) (u::vs)=(t,some u)::np ss vs:=rfl
    rw [this,ae9,dB] at hs
    by_cases j:t=s
    ·rw [YC j] at hs; simp at hs; subst hs; rw [<- j]; exact d.1
    ·rw [Yx j] at hs; exact F vs d.2 v hs
 exact g.get s v (key ss vs hv v hs)
theorem xD (e:Env):∀ l,(live e l).map (fun p=>cQ e p.1)=(live e l).map (fun p=>some p.2)
 | []=>rfl
 | s::l=>by
  unfold live;cases hv:cQ e s with
  | none=>simp only; exact xD e l
  | some v=>simp only [List.map_cons,hv,xD e l]
def pd (L d:Lp):Prop:=∃ M,d=L++M
def pd.refl (L:Lp):pd L L:=⟨[],aj⟩
def pd.trans {a b c:Lp} (h:pd a b) (k:pd b c):pd a c:=by
 obtain ⟨m,rfl⟩:=h; obtain ⟨m',rfl⟩:=k; exact ⟨m++m',aj⟩
def pd.snoc (L:Lp) (J:List Xab->Hp->Prop):pd L (L++[J]):=⟨[J],rfl⟩
def Gj {L d:Lp} {J:List Xab->Hp->Prop} {K:Xab->Hp->Prop} {h:Hp} {vs:List Xab} (u:pd (L++[J]) d) (j:T.again L.length vs d K h):J vs h:=by
 obtain ⟨M,rfl⟩:=u;unfold T.again at j;simpa using j
def S8 (n:Nd) (L:Lp) (K:Xab->Hp->Prop) (e0:Env) (ms:List Nat) (κ:Exit->Env->Nat->T) (Q:Exit->Act->Hp->Prop):Prop :=
 ∀ x e a h d,pd L d->κ x e d.length d K h->gK n e a->Fr ms e0 e->Q x a h
def Vn (P:Program) (n:Nd) (cuts:List Nat) (fu:Nat):Prop :=
 ∀ (c:Code) (e:Env) (κ:Exit->Env->Nat->T) (L:Lp) (K:Xab->Hp->Prop) (Q:Exit->Act->Hp->Prop) (a:Act) (h:Hp),
  S8 n L K e (ez c) κ Q->fO P n cuts fu c e L.length κ L K h->gK n e a->cW P c Q a h
def Gr {P:Program} {n:Nd} {e:Env} {L:Lp} {K:Xab->Hp->Prop} {h:Hp} {a:Act} {F:Env->(Env->T)->T}
  (d:ID ms e L.length F L K h) (g:gK n e a) :
  ∃ (Inv:Nat->Act->Hp->Prop),(∃ m,Inv m a h)/\∀ m a h,Inv m a h->∃ (e1:Env) (J:List Xab->Hp->Prop) (k:Env->T),Fr ms e e1/\gK n e1 a/\F e1 k (L++[J]) K h /\
   ∀ e2 a2 h2 V,pd (L++[J]) V->k e2 V K h2->gK n e2 a2->Fr ms e1 e2->∃ m',m'<m/\Inv m' a2 h2:=by
 unfold ID at d;obtain ⟨I,⟨x0,m0,G,X⟩,j⟩:=d;have O:∀ vs,Fr ms e (np ((live e (iP ms)).map (·.1)) vs++forget e (iP ms)):=by
  intro vs s hs;have U:s∉iP ms:=fun Y=>hs ((sf ms).1 Y)
  have Z:s∉(np ((live e (iP ms)).map (·.1)) vs).map (·.1):=by
   intro Y;have h1:∀ l:List Nat,∀ t∈(live e l).map (·.1),t∈l:=by
    intro l
    induction l with
    | nil=>intro t d; simp [live] at d
    | cons u l ih =>
     intro t d;unfold live at d;cases hv:cQ e u with
     | none=>simp only [hv] at d; exact YM _ (ih t d)
     | some v =>
      simp only [hv,List.map_cons,List.mem_cons] at d;rcases d with rfl | d
      ·simp
      ·exact YM _ (ih t d)
   have h2:∀ (l:List Nat) (vs:List Xab),∀ t∈(np l vs).map (·.1),t∈l:=by
    intro l vs t d;unfold np at d;rw [YY] at d;obtain ⟨p,hp,rfl⟩:=YF.1 d;exact (List.of_mem_zip hp).1
   exact U (h1 _ _ (h2 _ _ _ Y))
  rw [rT,Yx Z,rQ,Yx U]
 refine ⟨fun m a h=>∃ x,I x m h/\gK n (np ((live e (iP ms)).map (·.1)) (parts ((live e (iP ms)).map fun p=>L7 p.2) (ec _ x))++forget e (iP ms)) a,?_,?_⟩
 ·refine ⟨m0,x0,X,?_⟩;refine gK.head g ?_ (Fr.refl _ _);rw [<- G,YY,YY];exact xD e (iP ms)
 ·rintro m a1 h1 ⟨x,hI,g1⟩
  have:=j x m h1 hI
  rw [dI] at this;refine ⟨_,_,_,O _,g1,this,?_⟩;intro e2 a2 h2 V hp hk g2 fr2;obtain ⟨vs,ec,hk⟩:=wE hk;obtain ⟨m',hm,y,rfl,hIy⟩:=Gj hp hk;exact ⟨m',hm,y,hIy,gK.head g2 ec ((O _).trans fr2)⟩
def Ei {n:Nd} {ss:List Nat} {cs:List fI} {e:Env} {L:Lp} {K:Xab->Hp->Prop} {h:Hp} {first:(Env->T)->T} {after:Env->T}
  (u:∀ s∈ss,s∈ms) (Y:O6 ss cs ms e L.length first after L K h) :
  ∃ (J:List Xab->Hp->Prop) (k:Env->T),first k (L++[J]) K h /\
   ∀ e2 a2 h2 F,pd (L++[J]) F->k e2 F K h2->gK n e2 a2->Fr ms e e2->∃ G,Fr ms e G/\gK n G a2/\after G L K h2:=by
 obtain ⟨J,Z,ha⟩:=Y;refine ⟨_,_,Z,?_⟩;intro e2 a2 h2 F O hk g2 U;obtain ⟨vs,d,hk⟩:=wE hk;obtain ⟨y,rfl,hJ⟩:=Gj O hk
 have:=ha y h2 hJ
 rw [dI] at this;refine ⟨_,?_,gK.head g2 d U,this⟩;intro s hs;have V:s∉iP ms:=fun j=>hs ((sf ms).1 j)
 have X:s∉(np ss (parts cs (ec (flat cs) y))).map (·.1):=by
  intro j;unfold np at j;rw [YY] at j;obtain ⟨p,O,rfl⟩:=YF.1 j;exact hs (u _ (List.of_mem_zip O).1)
 rw [rT,Yx X,rQ,Yx V]
def jk (c:Code) (J:Nat->Act->Hp->Prop) (Q:Exit->Act->Hp->Prop):Exit->Act->Hp->Prop
 | .goto l,a,h=>match findLabel c l with
  | some _=>J l a h
  | none=>Q (.goto l) a h
 | e,a,h=>Q e a h
def Eb {P:Program} {c:Code} {Q:Exit->Act->Hp->Prop} {a:Act} {h:Hp} {M:Type} {lt:M->M->Prop} (wf:WellFounded lt) (J:Nat->M->Act->Hp->Prop)
  (first:cW P c (jk c (fun l a h=>∃ m,J l m a h) Q) a h)
  (Y:∀ l m a h,J l m a h->∃ r,findLabel c l=some r/\cW P r (jk c (fun l' a' h'=>∃ m',lt m' m/\J l' m' a' h') Q) a h):cW P (.scope c) Q a h:=by
 intro w0 w hs hw b k cs;have hg:∀ l r,findLabel c l=some r->gotoIn l (.inScope c::k)=some (.code r::.inScope c::k):=fun l r Z=>by simp [gotoIn,Z]
 have hg':∀ l,findLabel c l=none->∀ k',gotoIn l k=some k'->gotoIn l (.inScope c::k)=some k':=fun l Z k' hk=>by simp [gotoIn,Z,hk]
 have key:∀ (m:M),∀ l a w r,dK w0 w->J l m a w.heap->findLabel c l=some r->∃ e a' w',W4 w0 Q e a' w'/\Arrives P (lone (b.at a (.code r::.inScope c::k)) cs w) b k cs e a' w':=by
  intro m
  induction m using wf.induction with
  | _ m ih =>
   intro l a w r hs hJ Z;obtain ⟨r',hr',hc⟩:=Y l m a w.heap hJ;rw [Z] at hr'; obtain rfl:=YR hr';obtain ⟨e,F,G,⟨j,u⟩,d⟩:=hc w0 w hs rfl b (.inScope c::k) cs;cases e with
   | normal=>exact ⟨.normal,F,G,⟨j,u⟩,Steps.trans d (.one step_inScope)⟩
   | exit id=>exact ⟨.exit id,F,G,⟨j,u⟩,fun k' hk=>d k' (by simp [exitTo,hk])⟩
   | goto l' =>
    simp only [jk] at u;cases U:findLabel c l' with
    | none=>simp only [U] at u; exact ⟨.goto l',F,G,⟨j,u⟩,fun k' hk=>d k' (hg' l' U k' hk)⟩
    | some r2 =>
     simp only [U] at u;obtain ⟨m',hlt,V⟩:=u;obtain ⟨e₂,a₂,w₂,X,O⟩:=ih m' hlt l' F G r2 j V U;exact ⟨e₂,a₂,w₂,X,.of_steps (d _ (hg l' r2 U)) O⟩
   | ret=>exact ⟨_,F,G,⟨j,u⟩,d⟩
   | panic ch=>exact ⟨_,F,G,⟨j,u⟩,d⟩
   | outgrown=>exact ⟨_,F,G,⟨j,u⟩,d⟩
 obtain ⟨e,F,G,⟨j,u⟩,d⟩:=first w0 w hs hw b (.inScope c::k) cs
 cases e with
 | normal=>exact ⟨.normal,F,G,⟨j,u⟩,.head step_scope (Steps.trans d (.one step_inScope))⟩
 | exit id=>exact ⟨.exit id,F,G,⟨j,u⟩,fun k' hk=>.head step_scope (d k' (by simp [exitTo,hk]))⟩
 | goto l' =>
  simp only [jk] at u;cases U:findLabel c l' with
  | none=>simp only [U] at u; exact ⟨.goto l',F,G,⟨j,u⟩,fun k' hk=>.head step_scope (d k' (hg' l' U k' hk))⟩
  | some r2 =>
   simp only [U] at u;obtain ⟨m',V⟩:=u;obtain ⟨e₂,a₂,w₂,X,O⟩:=key m' l' F G r2 j V U;exact ⟨e₂,a₂,w₂,X,.of_steps (.head step_scope (d _ (hg l' r2 U))) O⟩
 | ret=>exact ⟨_,F,G,⟨j,u⟩,.of_steps (.one step_scope) d⟩
 | panic ch=>exact ⟨_,F,G,⟨j,u⟩,.of_steps (.one step_scope) d⟩
 | outgrown=>exact ⟨_,F,G,⟨j,u⟩,.of_steps (b:=b) (k:=k) (cs:=cs) (e:=.outgrown) (.one step_scope) d⟩
theorem oY:∀ {c:Code} {l:Nat} {r:Code},findLabel c l=some r->∀ s∈ez r,s∈ez c
 | .seq a b,l,r,d,s,hs=>by
  simp only [findLabel] at d;cases j:findLabel a l with
  | none=>rw [j] at d; exact Y8 _ (oY d s hs)
  | some u =>
   rw [j] at d;simp only [Option.some.injEq] at d;subst d;rcases YN.1 hs with hs | hs
   ·exact Y3 _ (oY j s hs)
   ·exact Y8 _ hs
 | .label l',l,r,d,s,hs=>by
  simp only [findLabel] at d;split at d
  ·simp only [Option.some.injEq] at d; subst d; exact hs
  ·cases d
 | .skip,l,r,d,_,_=>by simp [findLabel] at d
 | .region _ _ _,l,r,d,_,_=>by simp [findLabel] at d
 | .cond _ _ _,l,r,d,_,_=>by simp [findLabel] at d
 | .block _ _,l,r,d,_,_=>by simp [findLabel] at d
 | .loop _,l,r,d,_,_=>by simp [findLabel] at d
 | .rangeFunc _ _ _ _,l,r,d,_,_=>by simp [findLabel] at d
 | .exit _,l,r,d,_,_=>by simp [findLabel] at d
 | .scope _,l,r,d,_,_=>by simp [findLabel] at d
 | .goto _,l,r,d,_,_=>by simp [findLabel] at d
 | .ret,l,r,d,_,_=>by simp [findLabel] at d
 | .refuse _,l,r,d,_,_=>by simp [findLabel] at d
theorem BU {P:Program} {n:Nat} {cuts:List Nat}:∀ (t:Code) {l:Nat} {r:Code},fG l t=true->findLabel t l=some r ->
  ez t=ez r/\∀ fu e lv κ,fO P n cuts fu t e lv κ=fO P n cuts fu r e lv κ
 | .label l',l,r,j,d=>by
  simp only [findLabel] at d;split at d
  ·simp only [Option.some.injEq] at d; subst d;refine ⟨rfl,fun fu e lv κ=>?_⟩;cases fu <;> simp only [fO]
  ·cases d
 | .seq a b,l,r,j,d=>by
  simp only [findLabel] at d;cases u:findLabel a l with
  | none =>
   exfalso
   have:∀ (a:Code),fG l a=true->findLabel a l≠none:=by
    intro a
    induction a with
    | label l' =>
     intro h1 h2;simp only [fG] at h1
     have:=YL h1
     subst this;simp [findLabel] at h2
    | seq x y F G =>
     intro h1 h2;simp only [fG] at h1;simp only [findLabel] at h2;cases hx:findLabel x l with
     | none=>exact F h1 hx
     | some J=>rw [hx] at h2; cases h2
    | _=>intro h1; simp [fG] at h1
   exact this a (by simpa [fG] using j) u
  | some O =>
   rw [u] at d;simp only [Option.some.injEq] at d;subst d;obtain ⟨h1,h2⟩:=BU (P:=P) (n:=n) (cuts:=cuts) a (by simpa [fG] using j) u;refine ⟨by simp [ez,h1],fun fu e lv κ=>?_⟩;cases fu with
   | zero=>simp only [fO]
   | succ fu=>simp only [fO,h1,h2]
 | .skip,l,r,j,d=>by simp [findLabel] at d
 | .region _ _ _,l,r,j,d=>by simp [findLabel] at d
 | .cond _ _ _,l,r,j,d=>by simp [findLabel] at d
 | .block _ _,l,r,j,d=>by simp [findLabel] at d
 | .loop _,l,r,j,d=>by simp [findLabel] at d
 | .rangeFunc _ _ _ _,l,r,j,d=>by simp [findLabel] at d
 | .exit _,l,r,j,d=>by simp [findLabel] at d
 | .scope _,l,r,j,d=>by simp [findLabel] at d
 | .goto _,l,r,j,d=>by simp [findLabel] at d
 | .ret,l,r,j,d=>by simp [findLabel] at d
 | .refuse _,l,r,j,d=>by simp [findLabel] at d
end Go.Sx
