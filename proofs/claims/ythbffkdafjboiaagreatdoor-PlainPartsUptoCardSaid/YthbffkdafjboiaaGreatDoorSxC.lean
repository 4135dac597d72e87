/- Part of the framework. No condition. -/
import Derived.Test.YthbffkdafjboiaaGreatDoorSxO
set_option linter.all false
set_option maxHeartbeats 4000000
namespace Go.Sx
variable {tm:Array ZB} {ms:List Nat}
def Fr (l:List Nat) (e e':Env):Prop:=∀ s,s∉l->cM e' s=cM e s
def Fr.refl (l:List Nat) (e:Env):Fr l e e:=fun _ _=>rfl
def Fr.trans {l:List Nat} {a b c:Env} (h:Fr l a b) (k:Fr l b c):Fr l a c:=fun s hs=>(k s hs).trans (h s hs)
def Fr.mono {l l':List Nat} {a b:Env} (h:Fr l a b) (m:∀ s∈l,s∈l'):Fr l' a b:=fun s hs=>h s fun hh=>hs (m s hh)
def Fr.dV {l:List Nat} (n:Nat) (e:Env) {dst:Option Tmp} (v:ZB) (hd:∀ d,dst=some d->d∈l):Fr l e (dV n e dst v):=by
 intro s hs;cases dst with
 | none=>rfl
 | some d =>
  simp only [Sx.dV];cases Nat.blt d n with
  | false=>rfl
  | true =>
   simp only [cond_true,du];rw [W6 (fun hh:d=s=>hs (hh▸hd d rfl))]
def xd {ops:Array Oper} {o:Oper} (h:o.guard=none):Region.wanted o (yielded ops tm)=true:=by
 simp [Region.wanted,h]
def xm {ops:Array Oper} {o:Oper} {j:Nat} {w:Bool} (h:o.guard=some (j,w)) :
  Region.wanted o (yielded ops tm)=(yielded ops tm j==some w):=by
 simp [Region.wanted,h]
def uD {ops:Array Oper} {j d:Nat} {b:Bool} (hj:(ops[j]?).bind (·.dst)=some d) (hd:tm.getD d undef=.bool b):yielded ops tm j=some b:=by
 unfold yielded;rw [hj];rw [Array.getD_eq_getD_getElem?] at hd;cases hx:tm[d]? with
 | none=>rw [hx] at hd; simp [undef] at hd
 | some v=>rw [hx] at hd; simp at hd; subst hd; simp [hx]
def sx {ops:Array Oper} {j d:Nat} {vs:Array ZB} (hj:(ops[j]?).bind (·.dst)=some d) (hd:tm.getD d undef=.tuple vs):yielded ops tm j=none:=by
 unfold yielded;rw [hj];rw [Array.getD_eq_getD_getElem?] at hd;cases hx:tm[d]? with
 | none=>simp [hx]
 | some v=>rw [hx] at hd; simp at hd; subst hd; simp [hx]
def HL {ops:Array Oper} {j d:Nat} (hj:(ops[j]?).bind (·.dst)=some d):d∈dstsOf ops:=by
 obtain ⟨o,ho,hd⟩:=W1.1 hj
 have:=Array.mem_of_getElem? ho
 exact Yw.2 ⟨o,by simpa using this,hd⟩
def J6 {n:Nd} {ops:Array Oper} {o:Oper} {e:Env} {a:Act} (g:gu n e a) {yes no:Env->T} {L:Lp} {K:ZB->Hp->Prop} {h:Hp}
  (ht:kY n ops o e yes no L K h) :
  ∃ e',gu n e' a/\Fr (dstsOf ops) e e'/\((Region.wanted o (yielded ops a.tmps)=true/\yes e' L K h)\/(Region.wanted o (yielded ops a.tmps)=false/\no e' L K h)):=by
 unfold kY guardOf at ht;cases hg:o.guard with
 | none =>
  simp only [hg] at ht;exact ⟨e,g,Fr.refl _ _,.inl ⟨xd hg,ht⟩⟩
 | some p =>
  obtain ⟨j,w⟩:=p;simp only [hg] at ht;rw [xm hg];cases hj:(ops[j]?).bind (·.dst) with
  | none =>
   simp only [hj] at ht;exact ⟨e,g,Fr.refl _ _,.inr ⟨by simp [yielded,hj],ht⟩⟩
  | some d =>
   simp only [hj] at ht;cases hv:cM e d with
   | none=>simp only [hv] at ht; exact ht.elim
   | some v =>
    have hav:=g.get d v hv;cases v <;> simp only [hv] at ht <;> first | exact ht.elim | skip
    case tuple vs=>exact ⟨e,g,Fr.refl _ _,.inr ⟨by rw [sx hj hav]; rfl,ht⟩⟩
    case bool b =>
     rw [uD hj hav];have fr:∀ u,Fr (dstsOf ops) e (dV n e (some d) u):=fun u=>Fr.dV n e u (fun d' hd'=>by simp at hd'; subst hd'; exact HL hj)
     cases w <;> simp only at ht <;> rcases fH ht with ⟨hb,ht⟩ | ⟨hb,ht⟩ <;> subst hb
     ·exact ⟨_,g.ur hv _ rfl,fr _,.inr ⟨rfl,ht⟩⟩
     ·exact ⟨_,g.ur hv _ rfl,fr _,.inl ⟨rfl,ht⟩⟩
     ·exact ⟨_,g.ur hv _ rfl,fr _,.inl ⟨rfl,ht⟩⟩
     ·exact ⟨_,g.ur hv _ rfl,fr _,.inr ⟨rfl,ht⟩⟩
abbrev VC (w0:World) (Q:Exit->Act->Hp->Prop):Exit->Act->World->Prop:=fun e a w=>dG w0 w/\Q e a w.heap
theorem CV {P:Program} {n:Nd} {ops:Array Oper} {Q:Exit->Act->Hp->Prop} {k:Env->T} {K:ZB->Hp->Prop} {L:Lp} {e0:Env}
  (hk:∀ e a h,k e L K h->gu n e a->Fr (dstsOf ops) e0 e->Q .normal a h):∀ (rest:List Oper) (e:Env) (a:Act) (h:Hp),(∀ o∈rest,o∈ops.toList) ->
  D7 P n ops rest e k L K h->gu n e a->Fr (dstsOf ops) e0 e->∀ w0 w:World,dG w0 w->w.heap=h->wpList P ops (VC w0 Q) rest a w
 | [],e,a,h,_,ht,g,fr,w0,w,hs,hw=>by
  subst hw;exact ⟨hs,hk e a _ ht g fr⟩
 | o::rest,e,a,h,hin,ht,g,fr,w0,w,hs,hw=>by
  subst hw;have hd:∀ d,o.dst=some d->d∈dstsOf ops:=fun d hd=>Yw.2 ⟨o,hin o aj,hd⟩
  obtain ⟨e',g',fr',hx⟩:=J6 g (show kY n ops o e _ _ L K w.heap from ht);unfold wpList;rcases hx with ⟨hwant,ht⟩ | ⟨hwant,ht⟩
  ·rw [Xb hwant];refine .inl (wT (Gp g' ht) ?_);intro v w' hs' ht';exact CV hk rest _ _ _ (fun o ho=>hin o (by simp [ho])) ht' (g'.put o.dst v) ((fr.trans fr').trans (Fr.dV n _ _ hd)) w0 w' (hs.trans hs') rfl
  ·rw [W6 (by simp [hwant])];exact CV hk rest _ _ _ (fun o ho=>hin o (by simp [ho])) ht (g'.put o.dst undef) ((fr.trans fr').trans (Fr.dV n _ _ hd)) w0 w hs rfl
theorem xM {x y:Nat}:∀ {l:List Nat},y∈rN x l↔y=x\/y∈l
 | []=>by simp [rN]
 | z::l=>by
  simp only [rN];cases hb:Nat.blt x z with
  | true=>simp
  | false =>
   cases hc:Nat.beq x z with
   | true =>
    have:=Xg hc; subst this
    simp
   | false=>simp [xM (l:=l)]; exact or_left_comm
def rz {y:Nat} (l:List Nat):y∈iH l↔y∈l:=by
 unfold iH
 have:∀ (l acc:List Nat),y∈l.foldl (fun acc x=>rN x acc) acc↔y∈acc\/y∈l:=by
  intro l
  induction l with
  | nil=>intro acc; simp
  | cons x l ih=>intro acc; simp only [List.foldl_cons,ih,xM,List.mem_cons]; rw [or_assoc]; exact or_left_comm
 simpa using this l []
def rf (e e':Env) (s:Nat):cM (e++e') s=if s∈e.map (·.1) then cM e s else cM e' s:=by
 induction e with
 | nil=>simp
 | cons p e ih =>
  obtain ⟨t,v⟩:=p;rw [YK,du,du,ih]
  by_cases h:t=s
  ·simp [h]
  ·have:¬ s=t:=fun hh=>h hh.symm
   simp only [List.map_cons,List.mem_cons,this,false_or,h,if_false]
def rb {e:Env} {l:List Nat} {s:Nat}:cM (forget e l) s=if s∈l then none else cM e s:=by
 unfold forget;rw [rf];have h1:(l.map (fun s=>((s,none):Nat × Option ZB))).map (·.1)=l:=by
  rw [Xv]; simp [Function.comp_def]
 rw [h1]
 by_cases hs:s∈l
 ·rw [Xb hs,Xb hs];clear h1
  induction l with
  | nil=>simp at hs
  | cons t l ih =>
   rw [XH,du]
   by_cases ht:t=s
   ·rw [Xb ht]
   ·rw [W6 ht];exact ih (by simp at hs; rcases hs with hh | hh; exact (ht hh.symm).elim; exact hh)
 ·rw [W6 hs,W6 hs]
theorem vC {e:Env} {L:Lp} {K:ZB->Hp->Prop} {h:Hp}:∀ {ss:List Nat} {k:List ZB->T},zD e ss k L K h->∃ vs,ss.map (cM e)=vs.map some/\k vs L K h
 | [],k,ht=>⟨[],rfl,ht⟩
 | s::ss,k,ht=>by
  unfold zD at ht;cases hv:cM e s with
  | none=>simp only [hv] at ht; exact ht.elim
  | some v =>
   simp only [hv] at ht;obtain ⟨vs,dZ,ht⟩:=vC ht;exact ⟨v::vs,by simp [hv,dZ],ht⟩
def gu.head {n:Nd} {e e':Env} {a:Act} {ss:List Nat} {vs:List ZB} (g:gu n e' a) (hv:ss.map (cM e')=vs.map some) (fr:Fr ms e e') :
  gu n (mC ss vs++forget e (iH ms)) a:=by
 refine ⟨g.size,g.defers,fun s v hs=>?_⟩;have key:∀ (ss:List Nat) (vs:List ZB),ss.map (cM e')=vs.map some->∀ v,cM (mC ss vs++forget e (iH ms)) s=some v->cM e' s=some v:=by
  intro ss
  induction ss with
  | nil =>
   intro vs hh v hs;simp only [mC,List.zip_nil_left,List.map_nil,List.nil_append,rb] at hs
   by_cases hm:s∈iH ms
   ·rw [Xb hm] at hs; cases hs
   ·rw [W6 hm] at hs;rw [fr s (fun hh=>hm ((rz ms).2 hh))];exact hs
  | cons t ss ih =>
   intro vs hh v hs;cases vs with
   | nil=>simp at hh
   | cons u vs =>
    simp only [List.map_cons,List.cons.injEq] at hh
    have:mC (t::ss) (u::vs)=(t,some u)::mC ss vs:=rfl
    rw [this,YK,du] at hs
    by_cases ht:t=s
    ·rw [Xb ht] at hs; simp at hs; subst hs; rw [<- ht]; exact hh.1
    ·rw [W6 ht] at hs; exact ih vs hh.2 v hs
 exact g.get s v (key ss vs hv v hs)
theorem wV (e:Env):∀ l,(live e l).map (fun p=>cM e p.1)=(live e l).map (fun p=>some p.2)
 | []=>rfl
 | s::l=>by
  unfold live;cases hv:cM e s with
  | none=>simp only; exact wV e l
  | some v=>simp only [List.map_cons,hv,wV e l]
def ot (L L':Lp):Prop:=∃ M,L'=L++M
def ot.refl (L:Lp):ot L L:=⟨[],aj⟩
def ot.trans {a b c:Lp} (h:ot a b) (k:ot b c):ot a c:=by
 obtain ⟨m,rfl⟩:=h; obtain ⟨m',rfl⟩:=k; exact ⟨m++m',aj⟩
def ot.snoc (L:Lp) (J:List ZB->Hp->Prop):ot L (L++[J]):=⟨[J],rfl⟩
def Fs {L L':Lp} {J:List ZB->Hp->Prop} {K:ZB->Hp->Prop} {h:Hp} {vs:List ZB} (hp:ot (L++[J]) L') (ht:T.again L.length vs L' K h):J vs h:=by
 obtain ⟨M,rfl⟩:=hp;unfold T.again at ht;simpa using ht
def Rp (n:Nd) (L:Lp) (K:ZB->Hp->Prop) (e0:Env) (ms:List Nat) (κ:Exit->Env->Nat->T) (Q:Exit->Act->Hp->Prop):Prop :=
 ∀ x e a h L',ot L L'->κ x e L'.length L' K h->gu n e a->Fr ms e0 e->Q x a h
def TU (P:Program) (n:Nd) (cuts:List Nat) (fu:Nat):Prop :=
 ∀ (c:Code) (e:Env) (κ:Exit->Env->Nat->T) (L:Lp) (K:ZB->Hp->Prop) (Q:Exit->Act->Hp->Prop) (a:Act) (h:Hp),
  Rp n L K e (ej c) κ Q->fK P n cuts fu c e L.length κ L K h->gu n e a->cW P c Q a h
def FB {P:Program} {n:Nd} {e:Env} {L:Lp} {K:ZB->Hp->Prop} {h:Hp} {a:Act} {body:Env->(Env->T)->T}
  (ht:HK ms e L.length body L K h) (g:gu n e a) :
  ∃ (Inv:Nat->Act->Hp->Prop),(∃ m,Inv m a h)/\∀ m a h,Inv m a h->∃ (e1:Env) (J:List ZB->Hp->Prop) (k:Env->T),Fr ms e e1/\gu n e1 a/\body e1 k (L++[J]) K h /\
   ∀ e2 a2 h2 L2,ot (L++[J]) L2->k e2 L2 K h2->gu n e2 a2->Fr ms e1 e2->∃ m',m'<m/\Inv m' a2 h2:=by
 unfold HK at ht;obtain ⟨I,⟨x0,m0,hinit,hI0⟩,hround⟩:=ht;have frh:∀ vs,Fr ms e (mC ((live e (iH ms)).map (·.1)) vs++forget e (iH ms)):=by
  intro vs s hs;have hs':s∉iH ms:=fun hh=>hs ((rz ms).1 hh)
  have hns:s∉(mC ((live e (iH ms)).map (·.1)) vs).map (·.1):=by
   intro hh;have h1:∀ l:List Nat,∀ t∈(live e l).map (·.1),t∈l:=by
    intro l
    induction l with
    | nil=>intro t ht; simp [live] at ht
    | cons u l ih =>
     intro t ht;unfold live at ht;cases hv:cM e u with
     | none=>simp only [hv] at ht; exact Xh _ (ih t ht)
     | some v =>
      simp only [hv,List.map_cons,List.mem_cons] at ht;rcases ht with rfl | ht
      ·simp
      ·exact Xh _ (ih t ht)
   have h2:∀ (l:List Nat) (vs:List ZB),∀ t∈(mC l vs).map (·.1),t∈l:=by
    intro l vs t ht;unfold mC at ht;rw [Xv] at ht;obtain ⟨p,hp,rfl⟩:=Xd.1 ht;exact (List.of_mem_zip hp).1
   exact hs' (h1 _ _ (h2 _ _ _ hh))
  rw [rf,W6 hns,rb,W6 hs']
 refine ⟨fun m a h=>∃ x,I x m h/\gu n (mC ((live e (iH ms)).map (·.1)) (parts ((live e (iH ms)).map fun p=>KO p.2) (dZ _ x))++forget e (iH ms)) a,?_,?_⟩
 ·refine ⟨m0,x0,hI0,?_⟩;refine gu.head g ?_ (Fr.refl _ _);rw [<- hinit,Xv,Xv];exact wV e (iH ms)
 ·rintro m a1 h1 ⟨x,hI,g1⟩
  have:=hround x m h1 hI
  rw [dE] at this;refine ⟨_,_,_,frh _,g1,this,?_⟩;intro e2 a2 h2 L2 hp hk g2 fr2;obtain ⟨vs,dZ,hk⟩:=vC hk;obtain ⟨m',hm,y,rfl,hIy⟩:=Fs hp hk;exact ⟨m',hm,y,hIy,gu.head g2 dZ ((frh _).trans fr2)⟩
def Dv {n:Nd} {ss:List Nat} {cs:List fE} {e:Env} {L:Lp} {K:ZB->Hp->Prop} {h:Hp} {first:(Env->T)->T} {after:Env->T}
  (hss:∀ s∈ss,s∈ms) (ht:NO ss cs ms e L.length first after L K h) :
  ∃ (J:List ZB->Hp->Prop) (k:Env->T),first k (L++[J]) K h /\
   ∀ e2 a2 h2 L2,ot (L++[J]) L2->k e2 L2 K h2->gu n e2 a2->Fr ms e e2->∃ e3,Fr ms e e3/\gu n e3 a2/\after e3 L K h2:=by
 obtain ⟨J,hf,ha⟩:=ht;refine ⟨_,_,hf,?_⟩;intro e2 a2 h2 L2 hp hk g2 fr2;obtain ⟨vs,hvs',hk⟩:=vC hk;obtain ⟨y,rfl,hJ⟩:=Fs hp hk
 have:=ha y h2 hJ
 rw [dE] at this;refine ⟨_,?_,gu.head g2 hvs' fr2,this⟩;intro s hs;have hs':s∉iH ms:=fun hh=>hs ((rz ms).1 hh)
 have hns:s∉(mC ss (parts cs (dZ (flat cs) y))).map (·.1):=by
  intro hh;unfold mC at hh;rw [Xv] at hh;obtain ⟨p,hp,rfl⟩:=Xd.1 hh;exact hs (hss _ (List.of_mem_zip hp).1)
 rw [rf,W6 hns,rb,W6 hs']
def jb (c:Code) (J:Nat->Act->Hp->Prop) (Q:Exit->Act->Hp->Prop):Exit->Act->Hp->Prop
 | .goto l,a,h=>match findLabel c l with
  | some _=>J l a h
  | none=>Q (.goto l) a h
 | e,a,h=>Q e a h
def Dn {P:Program} {c:Code} {Q:Exit->Act->Hp->Prop} {a:Act} {h:Hp} {M:Type} {lt:M->M->Prop} (wf:WellFounded lt) (J:Nat->M->Act->Hp->Prop)
  (first:cW P c (jb c (fun l a h=>∃ m,J l m a h) Q) a h)
  (pass:∀ l m a h,J l m a h->∃ r,findLabel c l=some r/\cW P r (jb c (fun l' a' h'=>∃ m',lt m' m/\J l' m' a' h') Q) a h):cW P (.scope c) Q a h:=by
 intro w0 w hs hw b k cs;have hg:∀ l r,findLabel c l=some r->gotoIn l (.inScope c::k)=some (.code r::.inScope c::k):=fun l r hr=>by simp [gotoIn,hr]
 have hg':∀ l,findLabel c l=none->∀ k',gotoIn l k=some k'->gotoIn l (.inScope c::k)=some k':=fun l hr k' hk=>by simp [gotoIn,hr,hk]
 have key:∀ (m:M),∀ l a w r,dG w0 w->J l m a w.heap->findLabel c l=some r->∃ e a' w',VC w0 Q e a' w'/\Arrives P (lone (b.at a (.code r::.inScope c::k)) cs w) b k cs e a' w':=by
  intro m
  induction m using wf.induction with
  | _ m ih =>
   intro l a w r hs hJ hr;obtain ⟨r',hr',hc⟩:=pass l m a w.heap hJ;rw [hr] at hr'; obtain rfl:=Xo hr';obtain ⟨e,a₁,w₁,⟨hs1,hq⟩,harr⟩:=hc w0 w hs rfl b (.inScope c::k) cs;cases e with
   | normal=>exact ⟨.normal,a₁,w₁,⟨hs1,hq⟩,Steps.trans harr (.one step_inScope)⟩
   | exit id=>exact ⟨.exit id,a₁,w₁,⟨hs1,hq⟩,fun k' hk=>harr k' (by simp [exitTo,hk])⟩
   | goto l' =>
    simp only [jb] at hq;cases hf:findLabel c l' with
    | none=>simp only [hf] at hq; exact ⟨.goto l',a₁,w₁,⟨hs1,hq⟩,fun k' hk=>harr k' (hg' l' hf k' hk)⟩
    | some r2 =>
     simp only [hf] at hq;obtain ⟨m',hlt,hJ'⟩:=hq;obtain ⟨e₂,a₂,w₂,hq₂,harr₂⟩:=ih m' hlt l' a₁ w₁ r2 hs1 hJ' hf;exact ⟨e₂,a₂,w₂,hq₂,.of_steps (harr _ (hg l' r2 hf)) harr₂⟩
   | ret=>exact ⟨_,a₁,w₁,⟨hs1,hq⟩,harr⟩
   | panic ch=>exact ⟨_,a₁,w₁,⟨hs1,hq⟩,harr⟩
   | outgrown=>exact ⟨_,a₁,w₁,⟨hs1,hq⟩,harr⟩
 obtain ⟨e,a₁,w₁,⟨hs1,hq⟩,harr⟩:=first w0 w hs hw b (.inScope c::k) cs
 cases e with
 | normal=>exact ⟨.normal,a₁,w₁,⟨hs1,hq⟩,.head step_scope (Steps.trans harr (.one step_inScope))⟩
 | exit id=>exact ⟨.exit id,a₁,w₁,⟨hs1,hq⟩,fun k' hk=>.head step_scope (harr k' (by simp [exitTo,hk]))⟩
 | goto l' =>
  simp only [jb] at hq;cases hf:findLabel c l' with
  | none=>simp only [hf] at hq; exact ⟨.goto l',a₁,w₁,⟨hs1,hq⟩,fun k' hk=>.head step_scope (harr k' (hg' l' hf k' hk))⟩
  | some r2 =>
   simp only [hf] at hq;obtain ⟨m',hJ'⟩:=hq;obtain ⟨e₂,a₂,w₂,hq₂,harr₂⟩:=key m' l' a₁ w₁ r2 hs1 hJ' hf;exact ⟨e₂,a₂,w₂,hq₂,.of_steps (.head step_scope (harr _ (hg l' r2 hf))) harr₂⟩
 | ret=>exact ⟨_,a₁,w₁,⟨hs1,hq⟩,.of_steps (.one step_scope) harr⟩
 | panic ch=>exact ⟨_,a₁,w₁,⟨hs1,hq⟩,.of_steps (.one step_scope) harr⟩
 | outgrown=>exact ⟨_,a₁,w₁,⟨hs1,hq⟩,.of_steps (b:=b) (k:=k) (cs:=cs) (e:=.outgrown) (.one step_scope) harr⟩
theorem oi:∀ {c:Code} {l:Nat} {r:Code},findLabel c l=some r->∀ s∈ej r,s∈ej c
 | .seq a b,l,r,hr,s,hs=>by
  simp only [findLabel] at hr;cases ha:findLabel a l with
  | none=>rw [ha] at hr; exact XF _ (oi hr s hs)
  | some ra =>
   rw [ha] at hr;simp only [Option.some.injEq] at hr;subst hr;rcases Xl.1 hs with hs | hs
   ·exact Xy _ (oi ha s hs)
   ·exact XF _ hs
 | .label l',l,r,hr,s,hs=>by
  simp only [findLabel] at hr;split at hr
  ·simp only [Option.some.injEq] at hr; subst hr; exact hs
  ·cases hr
 | .skip,l,r,hr,_,_=>by simp [findLabel] at hr
 | .region _ _ _,l,r,hr,_,_=>by simp [findLabel] at hr
 | .cond _ _ _,l,r,hr,_,_=>by simp [findLabel] at hr
 | .block _ _,l,r,hr,_,_=>by simp [findLabel] at hr
 | .loop _,l,r,hr,_,_=>by simp [findLabel] at hr
 | .rangeFunc _ _ _ _,l,r,hr,_,_=>by simp [findLabel] at hr
 | .exit _,l,r,hr,_,_=>by simp [findLabel] at hr
 | .scope _,l,r,hr,_,_=>by simp [findLabel] at hr
 | .goto _,l,r,hr,_,_=>by simp [findLabel] at hr
 | .ret,l,r,hr,_,_=>by simp [findLabel] at hr
 | .refuse _,l,r,hr,_,_=>by simp [findLabel] at hr
theorem A4 {P:Program} {n:Nat} {cuts:List Nat}:∀ (t:Code) {l:Nat} {r:Code},fC l t=true->findLabel t l=some r ->
  ej t=ej r/\∀ fu e lv κ,fK P n cuts fu t e lv κ=fK P n cuts fu r e lv κ
 | .label l',l,r,hh,hr=>by
  simp only [findLabel] at hr;split at hr
  ·simp only [Option.some.injEq] at hr; subst hr;refine ⟨rfl,fun fu e lv κ=>?_⟩;cases fu <;> simp only [fK]
  ·cases hr
 | .seq a b,l,r,hh,hr=>by
  simp only [findLabel] at hr;cases ha:findLabel a l with
  | none =>
   exfalso
   have:∀ (a:Code),fC l a=true->findLabel a l≠none:=by
    intro a
    induction a with
    | label l' =>
     intro h1 h2;simp only [fC] at h1
     have:=Xg h1
     subst this;simp [findLabel] at h2
    | seq x y ihx ihy =>
     intro h1 h2;simp only [fC] at h1;simp only [findLabel] at h2;cases hx:findLabel x l with
     | none=>exact ihx h1 hx
     | some rx=>rw [hx] at h2; cases h2
    | _=>intro h1; simp [fC] at h1
   exact this a (by simpa [fC] using hh) ha
  | some ra =>
   rw [ha] at hr;simp only [Option.some.injEq] at hr;subst hr;obtain ⟨h1,h2⟩:=A4 (P:=P) (n:=n) (cuts:=cuts) a (by simpa [fC] using hh) ha;refine ⟨by simp [ej,h1],fun fu e lv κ=>?_⟩;cases fu with
   | zero=>simp only [fK]
   | succ fu=>simp only [fK,h1,h2]
 | .skip,l,r,hh,hr=>by simp [findLabel] at hr
 | .region _ _ _,l,r,hh,hr=>by simp [findLabel] at hr
 | .cond _ _ _,l,r,hh,hr=>by simp [findLabel] at hr
 | .block _ _,l,r,hh,hr=>by simp [findLabel] at hr
 | .loop _,l,r,hh,hr=>by simp [findLabel] at hr
 | .rangeFunc _ _ _ _,l,r,hh,hr=>by simp [findLabel] at hr
 | .exit _,l,r,hh,hr=>by simp [findLabel] at hr
 | .scope _,l,r,hh,hr=>by simp [findLabel] at hr
 | .goto _,l,r,hh,hr=>by simp [findLabel] at hr
 | .ret,l,r,hh,hr=>by simp [findLabel] at hr
 | .refuse _,l,r,hh,hr=>by simp [findLabel] at hr
end Go.Sx
