/- Part of the framework. No condition. -/
import Derived.Test.YthbffkdafjboiaaGreatDoorSxO
set_option linter.all false
set_option maxHeartbeats 4000000
namespace Go.Sx
variable {tm:Array Xab} {ms:List Nat}
def Fr (l:List Nat) (e e':Env):Prop:=∀ s,s∉l->cQ e' s=cQ e s
def Fr.refl (l:List Nat) (e:Env):Fr l e e:=fun _ _=>rfl
def Fr.trans {l:List Nat} {a b c:Env} (h:Fr l a b) (k:Fr l b c):Fr l a c:=fun s hs=>(k s hs).trans (h s hs)
def Fr.mono {l l':List Nat} {a b:Env} (h:Fr l a b) (m:∀ s∈l,s∈l'):Fr l' a b:=fun s hs=>h s fun j=>hs (m s j)
def Fr.dZ {l:List Nat} (n:Nat) (e:Env) {dst:Option Tmp} (v:Xab) (j:∀ d,dst=some d->d∈l):Fr l e (dZ n e dst v):=by
 intro s hs;cases dst with
 | none=>rfl
 | some d =>
  simp only [Sx.dZ];cases Nat.blt d n with
  | false=>rfl
  | true =>
   simp only [cond_true,dA];rw [Y2 (fun u:d=s=>hs (u▸j d rfl))]
def xB {ops:Array Oper} {o:Oper} (h:o.guard=none):Region.wanted o (yielded ops tm)=true:=by
 simp [Region.wanted,h]
def xI {ops:Array Oper} {o:Oper} {j:Nat} {w:Bool} (h:o.guard=some (j,w)) :
  Region.wanted o (yielded ops tm)=(yielded ops tm j==some w):=by
 simp [Region.wanted,h]
def vf {ops:Array Oper} {j d:Nat} {b:Bool} (G:(ops[j]?).bind (·.dst)=some d) (u:tm.getD d undef=.bool b):yielded ops tm j=some b:=by
 unfold yielded;rw [G];rw [Array.getD_eq_getD_getElem?] at u;cases hx:tm[d]? with
 | none=>rw [hx] at u; simp [undef] at u
 | some v=>rw [hx] at u; simp at u; subst u; simp [hx]
def sT {ops:Array Oper} {j d:Nat} {vs:Array Xab} (G:(ops[j]?).bind (·.dst)=some d) (u:tm.getD d undef=.tuple vs):yielded ops tm j=none:=by
 unfold yielded;rw [G];rw [Array.getD_eq_getD_getElem?] at u;cases hx:tm[d]? with
 | none=>simp [hx]
 | some v=>rw [hx] at u; simp at u; subst u; simp [hx]
def Ip {ops:Array Oper} {j d:Nat} (u:(ops[j]?).bind (·.dst)=some d):d∈dstsOf ops:=by
 obtain ⟨o,G,J⟩:=YZ.1 u
 have:=Array.mem_of_getElem? G
 exact av9.2 ⟨o,by simpa using this,J⟩
def KM {n:Nd} {ops:Array Oper} {o:Oper} {e:Env} {a:Act} (g:gK n e a) {O no:Env->T} {L:Lp} {K:Xab->Hp->Prop} {h:Hp}
  (G:lx n ops o e O no L K h) :
  ∃ e',gK n e' a/\Fr (dstsOf ops) e e'/\((Region.wanted o (yielded ops a.tmps)=true/\O e' L K h)\/(Region.wanted o (yielded ops a.tmps)=false/\no e' L K h)):=by
 unfold lx guardOf at G;cases X:o.guard with
 | none =>
  simp only [X] at G;exact ⟨e,g,Fr.refl _ _,.inl ⟨xB X,G⟩⟩
 | some p =>
  obtain ⟨j,w⟩:=p;simp only [X] at G;rw [xI X];cases J:(ops[j]?).bind (·.dst) with
  | none =>
   simp only [J] at G;exact ⟨e,g,Fr.refl _ _,.inr ⟨by simp [yielded,J],G⟩⟩
  | some d =>
   simp only [J] at G;cases hv:cQ e d with
   | none=>simp only [hv] at G; exact G.elim
   | some v =>
    have U:=g.get d v hv;cases v <;> simp only [hv] at G <;> first | exact G.elim | skip
    case tuple vs=>exact ⟨e,g,Fr.refl _ _,.inr ⟨by rw [sT J U]; rfl,G⟩⟩
    case bool b =>
     rw [vf J U];have fr:∀ u,Fr (dstsOf ops) e (dZ n e (some d) u):=fun u=>Fr.dZ n e u (fun d' V=>by simp at V; subst V; exact Ip J)
     cases w <;> simp only at G <;> rcases fN G with ⟨hb,G⟩ | ⟨hb,G⟩ <;> subst hb
     ·exact ⟨_,g.uT hv _ rfl,fr _,.inr ⟨rfl,G⟩⟩
     ·exact ⟨_,g.uT hv _ rfl,fr _,.inl ⟨rfl,G⟩⟩
     ·exact ⟨_,g.uT hv _ rfl,fr _,.inl ⟨rfl,G⟩⟩
     ·exact ⟨_,g.uT hv _ rfl,fr _,.inr ⟨rfl,G⟩⟩
abbrev Xk (w0:World) (Q:Exit->Act->Hp->Prop):Exit->Act->World->Prop:=fun e a w=>dI w0 w/\Q e a w.heap
theorem Ds {P:Program} {n:Nd} {ops:Array Oper} {Q:Exit->Act->Hp->Prop} {k:Env->T} {K:Xab->Hp->Prop} {L:Lp} {e0:Env}
  (hk:∀ e a h,k e L K h->gK n e a->Fr (dstsOf ops) e0 e->Q .normal a h):∀ (rest:List Oper) (e:Env) (a:Act) (h:Hp),(∀ o∈rest,o∈ops.toList) ->
  EH P n ops rest e k L K h->gK n e a->Fr (dstsOf ops) e0 e->∀ J w:World,dI J w->w.heap=h->wpList P ops (Xk J Q) rest a w
 | [],e,a,h,_,u,g,fr,J,w,hs,hw=>by
  subst hw;exact ⟨hs,hk e a _ u g fr⟩
 | o::rest,e,a,h,G,u,g,fr,J,w,hs,hw=>by
  subst hw;have U:∀ d,o.dst=some d->d∈dstsOf ops:=fun d U=>av9.2 ⟨o,G o aj,U⟩
  obtain ⟨e',V,O,hx⟩:=KM g (show lx n ops o e _ _ L K w.heap from u);unfold wpList;rcases hx with ⟨j,u⟩ | ⟨j,u⟩
  ·rw [Y8 j];refine .inl (xn (G2 V u) ?_);intro v w' X Y;exact Ds hk rest _ _ _ (fun o Z=>G o (by simp [Z])) Y (V.put o.dst v) ((fr.trans O).trans (Fr.dZ n _ _ U)) J w' (hs.trans X) rfl
  ·rw [Y2 (by simp [j])];exact Ds hk rest _ _ _ (fun o Z=>G o (by simp [Z])) u (V.put o.dst undef) ((fr.trans O).trans (Fr.dZ n _ _ U)) J w hs rfl
theorem yc {x y:Nat}:∀ {l:List Nat},y∈sf x l↔y=x\/y∈l
 | []=>by simp [sf]
 | z::l=>by
  simp only [sf];cases hb:Nat.blt x z with
  | true=>simp
  | false =>
   cases hc:Nat.beq x z with
   | true =>
    have:=Zf hc; subst this
    simp
   | false=>simp [yc (l:=l)]; exact or_left_comm
def rR {y:Nat} (l:List Nat):y∈iQ l↔y∈l:=by
 unfold iQ
 have:∀ (l j:List Nat),y∈l.foldl (fun j x=>sf x j) j↔y∈j\/y∈l:=by
  intro l
  induction l with
  | nil=>intro j; simp
  | cons x l u=>intro j; simp only [List.foldl_cons,u,yc,List.mem_cons]; rw [or_assoc]; exact or_left_comm
 simpa using this l []
def rE (e e':Env) (s:Nat):cQ (e++e') s=if s∈e.map (·.1) then cQ e s else cQ e' s:=by
 induction e with
 | nil=>simp
 | cons p e j =>
  obtain ⟨t,v⟩:=p;rw [bn9,dA,dA,j]
  by_cases h:t=s
  ·simp [h]
  ·have:¬ s=t:=fun u=>h u.symm
   simp only [List.map_cons,List.mem_cons,this,false_or,h,if_false]
def rB {e:Env} {l:List Nat} {s:Nat}:cQ (forget e l) s=if s∈l then none else cQ e s:=by
 unfold forget;rw [rE];have h1:(l.map (fun s=>((s,none):Nat × Option Xab))).map (·.1)=l:=by
  rw [Zv]; simp [Function.comp_def]
 rw [h1]
 by_cases hs:s∈l
 ·rw [Y8 hs,Y8 hs];clear h1
  induction l with
  | nil=>simp at hs
  | cons t l G =>
   rw [ZF,dA]
   by_cases j:t=s
   ·rw [Y8 j]
   ·rw [Y2 j];exact G (by simp at hs; rcases hs with u | u; exact (j u.symm).elim; exact u)
 ·rw [Y2 hs,Y2 hs]
theorem wj {e:Env} {L:Lp} {K:Xab->Hp->Prop} {h:Hp}:∀ {ss:List Nat} {k:List Xab->T},Ad e ss k L K h->∃ vs,ss.map (cQ e)=vs.map some/\k vs L K h
 | [],k,j=>⟨[],rfl,j⟩
 | s::ss,k,j=>by
  unfold Ad at j;cases hv:cQ e s with
  | none=>simp only [hv] at j; exact j.elim
  | some v =>
   simp only [hv] at j;obtain ⟨vs,ef,j⟩:=wj j;exact ⟨v::vs,by simp [hv,ef],j⟩
def gK.head {n:Nd} {e e':Env} {a:Act} {ss:List Nat} {vs:List Xab} (g:gK n e' a) (hv:ss.map (cQ e')=vs.map some) (fr:Fr ms e e') :
  gK n (mP ss vs++forget e (iQ ms)) a:=by
 refine ⟨g.size,g.defers,fun s v hs=>?_⟩;have key:∀ (ss:List Nat) (vs:List Xab),ss.map (cQ e')=vs.map some->∀ v,cQ (mP ss vs++forget e (iQ ms)) s=some v->cQ e' s=some v:=by
  intro ss
  induction ss with
  | nil =>
   intro vs j v hs;simp only [mP,List.zip_nil_left,List.map_nil,List.nil_append,rB] at hs
   by_cases hm:s∈iQ ms
   ·rw [Y8 hm] at hs; cases hs
   ·rw [Y2 hm] at hs;rw [fr s (fun j=>hm ((rR ms).2 j))];exact hs
  | cons t ss J =>
   intro vs j v hs;cases vs with
   | nil=>simp at j
   | cons u vs =>
    simp only [List.map_cons,List.cons.injEq] at j
    have:mP (t::ss) (u::vs)=(t,some u)::mP ss vs:=rfl
    rw [this,bn9,dA] at hs
    by_cases G:t=s
    ·rw [Y8 G] at hs; simp at hs; subst hs; rw [<- G]; exact j.1
    ·rw [Y2 G] at hs; exact J vs j.2 v hs
 exact g.get s v (key ss vs hv v hs)
theorem xp (e:Env):∀ l,(live e l).map (fun p=>cQ e p.1)=(live e l).map (fun p=>some p.2)
 | []=>rfl
 | s::l=>by
  unfold live;cases hv:cQ e s with
  | none=>simp only; exact xp e l
  | some v=>simp only [List.map_cons,hv,xp e l]
def oI (L j:Lp):Prop:=∃ M,j=L++M
def oI.refl (L:Lp):oI L L:=⟨[],aj⟩
def oI.trans {a b c:Lp} (h:oI a b) (k:oI b c):oI a c:=by
 obtain ⟨m,rfl⟩:=h; obtain ⟨m',rfl⟩:=k; exact ⟨m++m',aj⟩
def oI.snoc (L:Lp) (J:List Xab->Hp->Prop):oI L (L++[J]):=⟨[J],rfl⟩
def F4 {L j:Lp} {J:List Xab->Hp->Prop} {K:Xab->Hp->Prop} {h:Hp} {vs:List Xab} (G:oI (L++[J]) j) (u:T.again L.length vs j K h):J vs h:=by
 obtain ⟨M,rfl⟩:=G;unfold T.again at u;simpa using u
def SD (n:Nd) (L:Lp) (K:Xab->Hp->Prop) (e0:Env) (ms:List Nat) (κ:Exit->Env->Nat->T) (Q:Exit->Act->Hp->Prop):Prop :=
 ∀ x e a h j,oI L j->κ x e j.length j K h->gK n e a->Fr ms e0 e->Q x a h
def Va (P:Program) (n:Nd) (cuts:List Nat) (fu:Nat):Prop :=
 ∀ (c:Code) (e:Env) (κ:Exit->Env->Nat->T) (L:Lp) (K:Xab->Hp->Prop) (Q:Exit->Act->Hp->Prop) (a:Act) (h:Hp),
  SD n L K e (eu c) κ Q->fQ P n cuts fu c e L.length κ L K h->gK n e a->cW P c Q a h
def Gb {P:Program} {n:Nd} {e:Env} {L:Lp} {K:Xab->Hp->Prop} {h:Hp} {a:Act} {O:Env->(Env->T)->T}
  (j:Io ms e L.length O L K h) (g:gK n e a) :
  ∃ (Inv:Nat->Act->Hp->Prop),(∃ m,Inv m a h)/\∀ m a h,Inv m a h->∃ (e1:Env) (J:List Xab->Hp->Prop) (k:Env->T),Fr ms e e1/\gK n e1 a/\O e1 k (L++[J]) K h /\
   ∀ e2 a2 h2 Y,oI (L++[J]) Y->k e2 Y K h2->gK n e2 a2->Fr ms e1 e2->∃ m',m'<m/\Inv m' a2 h2:=by
 unfold Io at j;obtain ⟨I,⟨x0,m0,U,Z⟩,G⟩:=j;have V:∀ vs,Fr ms e (mP ((live e (iQ ms)).map (·.1)) vs++forget e (iQ ms)):=by
  intro vs s hs;have X:s∉iQ ms:=fun hh=>hs ((rR ms).1 hh)
  have hns:s∉(mP ((live e (iQ ms)).map (·.1)) vs).map (·.1):=by
   intro hh;have h1:∀ l:List Nat,∀ t∈(live e l).map (·.1),t∈l:=by
    intro l
    induction l with
    | nil=>intro t j; simp [live] at j
    | cons u l ih =>
     intro t j;unfold live at j;cases hv:cQ e u with
     | none=>simp only [hv] at j; exact Zd _ (ih t j)
     | some v =>
      simp only [hv,List.map_cons,List.mem_cons] at j;rcases j with rfl | j
      ·simp
      ·exact Zd _ (ih t j)
   have h2:∀ (l:List Nat) (vs:List Xab),∀ t∈(mP l vs).map (·.1),t∈l:=by
    intro l vs t j;unfold mP at j;rw [Zv] at j;obtain ⟨p,hp,rfl⟩:=Za.1 j;exact (List.of_mem_zip hp).1
   exact X (h1 _ _ (h2 _ _ _ hh))
  rw [rE,Y2 hns,rB,Y2 X]
 refine ⟨fun m a h=>∃ x,I x m h/\gK n (mP ((live e (iQ ms)).map (·.1)) (parts ((live e (iQ ms)).map fun p=>LC p.2) (ef _ x))++forget e (iQ ms)) a,?_,?_⟩
 ·refine ⟨m0,x0,Z,?_⟩;refine gK.head g ?_ (Fr.refl _ _);rw [<- U,Zv,Zv];exact xp e (iQ ms)
 ·rintro m a1 h1 ⟨x,hI,g1⟩
  have:=G x m h1 hI
  rw [dG] at this;refine ⟨_,_,_,V _,g1,this,?_⟩;intro e2 a2 h2 Y hp hk g2 fr2;obtain ⟨vs,ef,hk⟩:=wj hk;obtain ⟨m',hm,y,rfl,hIy⟩:=F4 hp hk;exact ⟨m',hm,y,hIy,gK.head g2 ef ((V _).trans fr2)⟩
def D6 {n:Nd} {ss:List Nat} {cs:List fJ} {e:Env} {L:Lp} {K:Xab->Hp->Prop} {h:Hp} {first:(Env->T)->T} {after:Env->T}
  (G:∀ s∈ss,s∈ms) (ht:OI ss cs ms e L.length first after L K h) :
  ∃ (J:List Xab->Hp->Prop) (k:Env->T),first k (L++[J]) K h /\
   ∀ e2 a2 h2 O,oI (L++[J]) O->k e2 O K h2->gK n e2 a2->Fr ms e e2->∃ U,Fr ms e U/\gK n U a2/\after U L K h2:=by
 obtain ⟨J,hf,ha⟩:=ht;refine ⟨_,_,hf,?_⟩;intro e2 a2 h2 O V hk g2 X;obtain ⟨vs,j,hk⟩:=wj hk;obtain ⟨y,rfl,hJ⟩:=F4 V hk
 have:=ha y h2 hJ
 rw [dG] at this;refine ⟨_,?_,gK.head g2 j X,this⟩;intro s hs;have Y:s∉iQ ms:=fun u=>hs ((rR ms).1 u)
 have Z:s∉(mP ss (parts cs (ef (flat cs) y))).map (·.1):=by
  intro u;unfold mP at u;rw [Zv] at u;obtain ⟨p,V,rfl⟩:=Za.1 u;exact hs (G _ (List.of_mem_zip V).1)
 rw [rE,Y2 Z,rB,Y2 Y]
def jk (c:Code) (J:Nat->Act->Hp->Prop) (Q:Exit->Act->Hp->Prop):Exit->Act->Hp->Prop
 | .goto l,a,h=>match findLabel c l with
  | some _=>J l a h
  | none=>Q (.goto l) a h
 | e,a,h=>Q e a h
def DX {P:Program} {c:Code} {Q:Exit->Act->Hp->Prop} {a:Act} {h:Hp} {M:Type} {lt:M->M->Prop} (wf:WellFounded lt) (J:Nat->M->Act->Hp->Prop)
  (first:cW P c (jk c (fun l a h=>∃ m,J l m a h) Q) a h)
  (pass:∀ l m a h,J l m a h->∃ r,findLabel c l=some r/\cW P r (jk c (fun l' a' h'=>∃ m',lt m' m/\J l' m' a' h') Q) a h):cW P (.scope c) Q a h:=by
 intro w0 w hs hw b k cs;have hg:∀ l r,findLabel c l=some r->gotoIn l (.inScope c::k)=some (.code r::.inScope c::k):=fun l r hr=>by simp [gotoIn,hr]
 have hg':∀ l,findLabel c l=none->∀ k',gotoIn l k=some k'->gotoIn l (.inScope c::k)=some k':=fun l hr k' hk=>by simp [gotoIn,hr,hk]
 have key:∀ (m:M),∀ l a w r,dI w0 w->J l m a w.heap->findLabel c l=some r->∃ e a' w',Xk w0 Q e a' w'/\Arrives P (lone (b.at a (.code r::.inScope c::k)) cs w) b k cs e a' w':=by
  intro m
  induction m using wf.induction with
  | _ m ih =>
   intro l a w r hs hJ hr;obtain ⟨r',hr',hc⟩:=pass l m a w.heap hJ;rw [hr] at hr'; obtain rfl:=Zn hr';obtain ⟨e,O,U,⟨u,G⟩,j⟩:=hc w0 w hs rfl b (.inScope c::k) cs;cases e with
   | normal=>exact ⟨.normal,O,U,⟨u,G⟩,Steps.trans j (.one step_inScope)⟩
   | exit id=>exact ⟨.exit id,O,U,⟨u,G⟩,fun k' hk=>j k' (by simp [exitTo,hk])⟩
   | goto l' =>
    simp only [jk] at G;cases X:findLabel c l' with
    | none=>simp only [X] at G; exact ⟨.goto l',O,U,⟨u,G⟩,fun k' hk=>j k' (hg' l' X k' hk)⟩
    | some r2 =>
     simp only [X] at G;obtain ⟨m',hlt,Y⟩:=G;obtain ⟨e₂,a₂,w₂,Z,V⟩:=ih m' hlt l' O U r2 u Y X;exact ⟨e₂,a₂,w₂,Z,.of_steps (j _ (hg l' r2 X)) V⟩
   | ret=>exact ⟨_,O,U,⟨u,G⟩,j⟩
   | panic ch=>exact ⟨_,O,U,⟨u,G⟩,j⟩
   | outgrown=>exact ⟨_,O,U,⟨u,G⟩,j⟩
 obtain ⟨e,O,U,⟨u,G⟩,j⟩:=first w0 w hs hw b (.inScope c::k) cs
 cases e with
 | normal=>exact ⟨.normal,O,U,⟨u,G⟩,.head step_scope (Steps.trans j (.one step_inScope))⟩
 | exit id=>exact ⟨.exit id,O,U,⟨u,G⟩,fun k' hk=>.head step_scope (j k' (by simp [exitTo,hk]))⟩
 | goto l' =>
  simp only [jk] at G;cases X:findLabel c l' with
  | none=>simp only [X] at G; exact ⟨.goto l',O,U,⟨u,G⟩,fun k' hk=>.head step_scope (j k' (hg' l' X k' hk))⟩
  | some r2 =>
   simp only [X] at G;obtain ⟨m',Y⟩:=G;obtain ⟨e₂,a₂,w₂,Z,V⟩:=key m' l' O U r2 u Y X;exact ⟨e₂,a₂,w₂,Z,.of_steps (.head step_scope (j _ (hg l' r2 X))) V⟩
 | ret=>exact ⟨_,O,U,⟨u,G⟩,.of_steps (.one step_scope) j⟩
 | panic ch=>exact ⟨_,O,U,⟨u,G⟩,.of_steps (.one step_scope) j⟩
 | outgrown=>exact ⟨_,O,U,⟨u,G⟩,.of_steps (b:=b) (k:=k) (cs:=cs) (e:=.outgrown) (.one step_scope) j⟩
theorem oE:∀ {c:Code} {l:Nat} {r:Code},findLabel c l=some r->∀ s∈eu r,s∈eu c
 | .seq a b,l,r,j,s,hs=>by
  simp only [findLabel] at j;cases u:findLabel a l with
  | none=>rw [u] at j; exact ZE _ (oE j s hs)
  | some G =>
   rw [u] at j;simp only [Option.some.injEq] at j;subst j;rcases Zk.1 hs with hs | hs
   ·exact Zq _ (oE u s hs)
   ·exact ZE _ hs
 | .label l',l,r,j,s,hs=>by
  simp only [findLabel] at j;split at j
  ·simp only [Option.some.injEq] at j; subst j; exact hs
  ·cases j
 | .skip,l,r,j,_,_=>by simp [findLabel] at j
 | .region _ _ _,l,r,j,_,_=>by simp [findLabel] at j
 | .cond _ _ _,l,r,j,_,_=>by simp [findLabel] at j
 | .block _ _,l,r,j,_,_=>by simp [findLabel] at j
 | .loop _,l,r,j,_,_=>by simp [findLabel] at j
 | .rangeFunc _ _ _ _,l,r,j,_,_=>by simp [findLabel] at j
 | .exit _,l,r,j,_,_=>by simp [findLabel] at j
 | .scope _,l,r,j,_,_=>by simp [findLabel] at j
 | .goto _,l,r,j,_,_=>by simp [findLabel] at j
 | .ret,l,r,j,_,_=>by simp [findLabel] at j
 | .refuse _,l,r,j,_,_=>by simp [findLabel] at j
theorem By {P:Program} {n:Nat} {cuts:List Nat}:∀ (t:Code) {l:Nat} {r:Code},fG l t=true->findLabel t l=some r ->
  eu t=eu r/\∀ fu e lv κ,fQ P n cuts fu t e lv κ=fQ P n cuts fu r e lv κ
 | .label l',l,r,u,j=>by
  simp only [findLabel] at j;split at j
  ·simp only [Option.some.injEq] at j; subst j;refine ⟨rfl,fun fu e lv κ=>?_⟩;cases fu <;> simp only [fQ]
  ·cases j
 | .seq a b,l,r,u,j=>by
  simp only [findLabel] at j;cases G:findLabel a l with
  | none =>
   exfalso
   have:∀ (a:Code),fG l a=true->findLabel a l≠none:=by
    intro a
    induction a with
    | label l' =>
     intro h1 h2;simp only [fG] at h1
     have:=Zf h1
     subst this;simp [findLabel] at h2
    | seq x y J O =>
     intro h1 h2;simp only [fG] at h1;simp only [findLabel] at h2;cases hx:findLabel x l with
     | none=>exact J h1 hx
     | some U=>rw [hx] at h2; cases h2
    | _=>intro h1; simp [fG] at h1
   exact this a (by simpa [fG] using u) G
  | some V =>
   rw [G] at j;simp only [Option.some.injEq] at j;subst j;obtain ⟨h1,h2⟩:=By (P:=P) (n:=n) (cuts:=cuts) a (by simpa [fG] using u) G;refine ⟨by simp [eu,h1],fun fu e lv κ=>?_⟩;cases fu with
   | zero=>simp only [fQ]
   | succ fu=>simp only [fQ,h1,h2]
 | .skip,l,r,u,j=>by simp [findLabel] at j
 | .region _ _ _,l,r,u,j=>by simp [findLabel] at j
 | .cond _ _ _,l,r,u,j=>by simp [findLabel] at j
 | .block _ _,l,r,u,j=>by simp [findLabel] at j
 | .loop _,l,r,u,j=>by simp [findLabel] at j
 | .rangeFunc _ _ _ _,l,r,u,j=>by simp [findLabel] at j
 | .exit _,l,r,u,j=>by simp [findLabel] at j
 | .scope _,l,r,u,j=>by simp [findLabel] at j
 | .goto _,l,r,u,j=>by simp [findLabel] at j
 | .ret,l,r,u,j=>by simp [findLabel] at j
 | .refuse _,l,r,u,j=>by simp [findLabel] at j
end Go.Sx
