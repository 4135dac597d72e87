/- Part of the framework. No condition. -/
import Derived.Test.YtfkjiiapldkoeaaGreatDoorSxO
set_option linter.all false
set_option maxHeartbeats 4000000
namespace Go.Sx
variable {tm:Array XB} {K:XB->Hp->Prop} {ms:List Nat}
def Fr (l:List Nat) (e e':Env):Prop:=∀ s,s∉l->cF e' s=cF e s
def Fr.refl (l:List Nat) (e:Env):Fr l e e:=fun _ _=>rfl
def Fr.trans {l:List Nat} {a b c:Env} (h:Fr l a b) (k:Fr l b c):Fr l a c:=fun s hs=>(k s hs).trans (h s hs)
def Fr.mono {l l':List Nat} {a b:Env} (h:Fr l a b) (m:∀ s∈l,s∈l'):Fr l' a b:=fun s hs=>h s fun hh=>hs (m s hh)
def Fr.eR {l:List Nat} (n:Nat) (e:Env) {dst:Option Tmp} (v:XB) (hd:∀ d,dst=some d->d∈l):Fr l e (eR n e dst v):=by
 intro s hs;cases dst with
 | none=>rfl
 | some d =>
  simp only [Sx.eR];cases Nat.blt d n with
  | false=>rfl
  | true =>
   simp only [cond_true,eo];rw [OG (fun hh:d=s=>hs (hh▸hd d rfl))]
def vL {ops:Array Oper} {o:Oper} (h:o.guard=none):Region.wanted o (yielded ops tm)=true:=by
 simp [Region.wanted,h]
def vP {ops:Array Oper} {o:Oper} {j:Nat} {w:Bool} (h:o.guard=some (j,w)) :
  Region.wanted o (yielded ops tm)=(yielded ops tm j==some w):=by
 simp [Region.wanted,h]
def tQ {ops:Array Oper} {j d:Nat} {b:Bool} (hj:(ops[j]?).bind (·.dst)=some d) (hd:tm.getD d undef=.bool b):yielded ops tm j=some b:=by
 unfold yielded;rw [hj];rw [Array.getD_eq_getD_getElem?] at hd;cases hx:tm[d]? with
 | none=>rw [hx] at hd; simp [undef] at hd
 | some v=>rw [hx] at hd; simp at hd; subst hd; simp [hx]
def rR {ops:Array Oper} {j d:Nat} {vs:Array XB} (hj:(ops[j]?).bind (·.dst)=some d) (hd:tm.getD d undef=.tuple vs):yielded ops tm j=none:=by
 unfold yielded;rw [hj];rw [Array.getD_eq_getD_getElem?] at hd;cases hx:tm[d]? with
 | none=>simp [hx]
 | some v=>rw [hx] at hd; simp at hd; subst hd; simp [hx]
def EE {ops:Array Oper} {j d:Nat} (hj:(ops[j]?).bind (·.dst)=some d):d∈dstsOf ops:=by
 obtain ⟨o,ho,hd⟩:=Option.bind_eq_some_iff.1 hj
 have:=Array.mem_of_getElem? ho
 exact Pt.2 ⟨o,by simpa using this,hd⟩
def Gy {n:Nd} {ops:Array Oper} {o:Oper} {e:Env} {a:Act} (g:jO n e a) {yes no:Env->T} {L:Lp} {h:Hp}
  (ht:pY n ops o e yes no L K h) :
  ∃ e',jO n e' a/\Fr (dstsOf ops) e e'/\((Region.wanted o (yielded ops a.tmps)=true/\yes e' L K h)\/(Region.wanted o (yielded ops a.tmps)=false/\no e' L K h)):=by
 unfold pY guardOf at ht;cases hg:o.guard with
 | none =>
  simp only [hg] at ht;exact ⟨e,g,Fr.refl _ _,.inl ⟨vL hg,ht⟩⟩
 | some p =>
  obtain ⟨j,w⟩:=p;simp only [hg] at ht;rw [vP hg];cases hj:(ops[j]?).bind (·.dst) with
  | none =>
   simp only [hj] at ht;exact ⟨e,g,Fr.refl _ _,.inr ⟨by simp [yielded,hj],ht⟩⟩
  | some d =>
   simp only [hj] at ht;cases hv:cF e d with
   | none=>simp only [hv] at ht; exact ht.elim
   | some v =>
    have hav:=g.get d v hv;cases v <;> simp only [hv] at ht <;> first | exact ht.elim | skip
    case tuple vs=>exact ⟨e,g,Fr.refl _ _,.inr ⟨by rw [rR hj hav]; rfl,ht⟩⟩
    case bool b =>
     rw [tQ hj hav];have fr:∀ u,Fr (dstsOf ops) e (eR n e (some d) u):=fun u=>Fr.eR n e u (fun d' hd'=>by simp at hd'; subst hd'; exact EE hj)
     cases w <;> simp only at ht <;> rcases fv ht with ⟨hb,ht⟩ | ⟨hb,ht⟩ <;> subst hb
     ·exact ⟨_,g.tK hv _ rfl,fr _,.inr ⟨rfl,ht⟩⟩
     ·exact ⟨_,g.tK hv _ rfl,fr _,.inl ⟨rfl,ht⟩⟩
     ·exact ⟨_,g.tK hv _ rfl,fr _,.inl ⟨rfl,ht⟩⟩
     ·exact ⟨_,g.tK hv _ rfl,fr _,.inr ⟨rfl,ht⟩⟩
abbrev Np (w0:World) (Q:Exit->Act->Hp->Prop):Exit->Act->World->Prop:=fun e a w=>cY w0 w/\Q e a w.heap
theorem Ba {P:Program} {n:Nd} {ops:Array Oper} {Q:Exit->Act->Hp->Prop} {k:Env->T} {L:Lp} {e0:Env}
  (hk:∀ e a h,k e L K h->jO n e a->Fr (dstsOf ops) e0 e->Q .normal a h):∀ (rest:List Oper) (e:Env) (a:Act) (h:Hp),(∀ o∈rest,o∈ops.toList) ->
  FL P n ops rest e k L K h->jO n e a->Fr (dstsOf ops) e0 e->∀ w0 w:World,cY w0 w->w.heap=h->wpList P ops (Np w0 Q) rest a w
 | [],e,a,h,_,ht,g,fr,w0,w,hs,hw=>by
  subst hw;exact ⟨hs,hk e a _ ht g fr⟩
 | o::rest,e,a,h,hin,ht,g,fr,w0,w,hs,hw=>by
  subst hw;have hd:∀ d,o.dst=some d->d∈dstsOf ops:=fun d hd=>Pt.2 ⟨o,hin o aj,hd⟩
  obtain ⟨e',g',fr',hx⟩:=Gy g (show pY n ops o e _ _ L K w.heap from ht);unfold wpList;rcases hx with ⟨hwant,ht⟩ | ⟨hwant,ht⟩
  ·rw [OH hwant];refine .inl (vp (DQ g' ht) ?_);intro v w' hs' ht';exact Ba hk rest _ _ _ (fun o ho=>hin o (by simp [ho])) ht' (g'.put o.dst v) ((fr.trans fr').trans (Fr.eR n _ _ hd)) w0 w' (hs.trans hs') rfl
  ·rw [OG (by simp [hwant])];exact Ba hk rest _ _ _ (fun o ho=>hin o (by simp [ho])) ht (g'.put o.dst undef) ((fr.trans fr').trans (Fr.eR n _ _ hd)) w0 w hs rfl
theorem wo {x y:Nat}:∀ {l:List Nat},y∈qV x l↔y=x\/y∈l
 | []=>by simp [qV]
 | z::l=>by
  simp only [qV];cases hb:Nat.blt x z with
  | true=>simp
  | false =>
   cases hc:Nat.beq x z with
   | true =>
    have:=Ps hc; subst this
    simp
   | false=>simp [wo (l:=l)]; exact or_left_comm
def qJ {y:Nat} (l:List Nat):y∈cQ l↔y∈l:=by
 unfold cQ
 have:∀ (l acc:List Nat),y∈l.foldl (fun acc x=>qV x acc) acc↔y∈acc\/y∈l:=by
  intro l
  induction l with
  | nil=>intro acc; simp
  | cons x l ih=>intro acc; simp only [List.foldl_cons,ih,wo,List.mem_cons]; rw [or_assoc]; exact or_left_comm
 simpa using this l []
def qz (e e':Env) (s:Nat):cF (e++e') s=if s∈e.map (·.1) then cF e s else cF e' s:=by
 induction e with
 | nil=>simp
 | cons p e ih =>
  obtain ⟨t,v⟩:=p;rw [List.cons_append,eo,eo,ih]
  by_cases h:t=s
  ·simp [h]
  ·have:¬ s=t:=fun hh=>h hh.symm
   simp only [List.map_cons,List.mem_cons,this,false_or,h,if_false]
def qx {e:Env} {l:List Nat} {s:Nat}:cF (forget e l) s=if s∈l then none else cF e s:=by
 unfold forget;rw [qz];have h1:(l.map (fun s=>((s,none):Nat × Option XB))).map (·.1)=l:=by
  rw [Ph]; simp [Function.comp_def]
 rw [h1]
 by_cases hs:s∈l
 ·rw [OH hs,OH hs];clear h1
  induction l with
  | nil=>simp at hs
  | cons t l ih =>
   rw [P6,eo]
   by_cases ht:t=s
   ·rw [OH ht]
   ·rw [OG ht];exact ih (by simp at hs; rcases hs with hh | hh; exact (ht hh.symm).elim; exact hh)
 ·rw [OG hs,OG hs]
theorem uO {e:Env} {L:Lp} {h:Hp}:∀ {ss:List Nat} {k:List XB->T},x9 e ss k L K h->∃ vs,ss.map (cF e)=vs.map some/\k vs L K h
 | [],k,ht=>⟨[],rfl,ht⟩
 | s::ss,k,ht=>by
  unfold x9 at ht;cases hv:cF e s with
  | none=>simp only [hv] at ht; exact ht.elim
  | some v =>
   simp only [hv] at ht;obtain ⟨vs,gb,ht⟩:=uO ht;exact ⟨v::vs,by simp [hv,gb],ht⟩
def jO.head {n:Nd} {e e':Env} {a:Act} {ss:List Nat} {vs:List XB} (g:jO n e' a) (hv:ss.map (cF e')=vs.map some) (fr:Fr ms e e') :
  jO n (lR ss vs++forget e (cQ ms)) a:=by
 refine ⟨g.size,g.defers,fun s v hs=>?_⟩;have key:∀ (ss:List Nat) (vs:List XB),ss.map (cF e')=vs.map some->∀ v,cF (lR ss vs++forget e (cQ ms)) s=some v->cF e' s=some v:=by
  intro ss
  induction ss with
  | nil =>
   intro vs hh v hs;simp only [lR,List.zip_nil_left,List.map_nil,List.nil_append,qx] at hs
   by_cases hm:s∈cQ ms
   ·rw [OH hm] at hs; cases hs
   ·rw [OG hm] at hs;rw [fr s (fun hh=>hm ((qJ ms).2 hh))];exact hs
  | cons t ss ih =>
   intro vs hh v hs;cases vs with
   | nil=>simp at hh
   | cons u vs =>
    simp only [List.map_cons,List.cons.injEq] at hh
    have:lR (t::ss) (u::vs)=(t,some u)::lR ss vs:=rfl
    rw [this,List.cons_append,eo] at hs
    by_cases ht:t=s
    ·rw [OH ht] at hs; simp at hs; subst hs; rw [<- ht]; exact hh.1
    ·rw [OG ht] at hs; exact ih vs hh.2 v hs
 exact g.get s v (key ss vs hv v hs)
theorem vu (e:Env):∀ l,(live e l).map (fun p=>cF e p.1)=(live e l).map (fun p=>some p.2)
 | []=>rfl
 | s::l=>by
  unfold live;cases hv:cF e s with
  | none=>simp only; exact vu e l
  | some v=>simp only [List.map_cons,hv,vu e l]
def nH (L L':Lp):Prop:=∃ M,L'=L++M
def nH.refl (L:Lp):nH L L:=⟨[],aj⟩
def nH.trans {a b c:Lp} (h:nH a b) (k:nH b c):nH a c:=by
 obtain ⟨m,rfl⟩:=h; obtain ⟨m',rfl⟩:=k; exact ⟨m++m',aj⟩
def nH.snoc (L:Lp) (J:List XB->Hp->Prop):nH L (L++[J]):=⟨[J],rfl⟩
def Da {L L':Lp} {J:List XB->Hp->Prop} {h:Hp} {vs:List XB} (hp:nH (L++[J]) L') (ht:T.again L.length vs L' K h):J vs h:=by
 obtain ⟨M,rfl⟩:=hp;unfold T.again at ht;simpa using ht
def K3 (n:Nd) (L:Lp) (K:XB->Hp->Prop) (e0:Env) (ms:List Nat) (κ:Exit->Env->Nat->T) (Q:Exit->Act->Hp->Prop):Prop :=
 ∀ x e a h L',nH L L'->κ x e L'.length L' K h->jO n e a->Fr ms e0 e->Q x a h
def Mc (P:Program) (n:Nd) (cuts:List Nat) (fu:Nat):Prop :=
 ∀ (c:Code) (e:Env) (κ:Exit->Env->Nat->T) (L:Lp) (K:XB->Hp->Prop) (Q:Exit->Act->Hp->Prop) (a:Act) (h:Hp),
  K3 n L K e (dR c) κ Q->fq P n cuts fu c e L.length κ L K h->jO n e a->cW P c Q a h
def Df {P:Program} {n:Nd} {e:Env} {L:Lp} {h:Hp} {a:Act} {body:Env->(Env->T)->T}
  (ht:ED ms e L.length body L K h) (g:jO n e a) :
  ∃ (Inv:Nat->Act->Hp->Prop),(∃ m,Inv m a h)/\∀ m a h,Inv m a h->∃ (e1:Env) (J:List XB->Hp->Prop) (k:Env->T),Fr ms e e1/\jO n e1 a/\body e1 k (L++[J]) K h /\
   ∀ e2 a2 h2 L2,nH (L++[J]) L2->k e2 L2 K h2->jO n e2 a2->Fr ms e1 e2->∃ m',m'<m/\Inv m' a2 h2:=by
 unfold ED at ht;obtain ⟨I,⟨x0,m0,hinit,hI0⟩,hround⟩:=ht;have frh:∀ vs,Fr ms e (lR ((live e (cQ ms)).map (·.1)) vs++forget e (cQ ms)):=by
  intro vs s hs;have hs':s∉cQ ms:=fun hh=>hs ((qJ ms).1 hh)
  have hns:s∉(lR ((live e (cQ ms)).map (·.1)) vs).map (·.1):=by
   intro hh;have h1:∀ l:List Nat,∀ t∈(live e l).map (·.1),t∈l:=by
    intro l
    induction l with
    | nil=>intro t ht; simp [live] at ht
    | cons u l ih =>
     intro t ht;unfold live at ht;cases hv:cF e u with
     | none=>simp only [hv] at ht; exact OY _ (ih t ht)
     | some v =>
      simp only [hv,List.map_cons,List.mem_cons] at ht;rcases ht with rfl | ht
      ·simp
      ·exact OY _ (ih t ht)
   have h2:∀ (l:List Nat) (vs:List XB),∀ t∈(lR l vs).map (·.1),t∈l:=by
    intro l vs t ht;unfold lR at ht;rw [Ph] at ht;obtain ⟨p,hp,rfl⟩:=Pa.1 ht;exact (List.of_mem_zip hp).1
   exact hs' (h1 _ _ (h2 _ _ _ hh))
  rw [qz,OG hns,qx,OG hs']
 refine ⟨fun m a h=>∃ x,I x m h/\jO n (lR ((live e (cQ ms)).map (·.1)) (parts ((live e (cQ ms)).map fun p=>G8 p.2) (gb _ x))++forget e (cQ ms)) a,?_,?_⟩
 ·refine ⟨m0,x0,hI0,?_⟩;refine jO.head g ?_ (Fr.refl _ _);rw [<- hinit,Ph,Ph];exact vu e (cQ ms)
 ·rintro m a1 h1 ⟨x,hI,g1⟩
  have:=hround x m h1 hI
  rw [fz] at this;refine ⟨_,_,_,frh _,g1,this,?_⟩;intro e2 a2 h2 L2 hp hk g2 fr2;obtain ⟨vs,gb,hk⟩:=uO hk;obtain ⟨m',hm,y,rfl,hIy⟩:=Da hp hk;exact ⟨m',hm,y,hIy,jO.head g2 gb ((frh _).trans fr2)⟩
def BA {n:Nd} {ss:List Nat} {cs:List fX} {e:Env} {L:Lp} {h:Hp} {first:(Env->T)->T} {after:Env->T}
  (hss:∀ s∈ss,s∈ms) (ht:I2 ss cs ms e L.length first after L K h) :
  ∃ (J:List XB->Hp->Prop) (k:Env->T),first k (L++[J]) K h /\
   ∀ e2 a2 h2 L2,nH (L++[J]) L2->k e2 L2 K h2->jO n e2 a2->Fr ms e e2->∃ e3,Fr ms e e3/\jO n e3 a2/\after e3 L K h2:=by
 obtain ⟨J,hf,ha⟩:=ht;refine ⟨_,_,hf,?_⟩;intro e2 a2 h2 L2 hp hk g2 fr2;obtain ⟨vs,hvs',hk⟩:=uO hk;obtain ⟨y,rfl,hJ⟩:=Da hp hk
 have:=ha y h2 hJ
 rw [fz] at this;refine ⟨_,?_,jO.head g2 hvs' fr2,this⟩;intro s hs;have hs':s∉cQ ms:=fun hh=>hs ((qJ ms).1 hh)
 have hns:s∉(lR ss (parts cs (gb (flat cs) y))).map (·.1):=by
  intro hh;unfold lR at hh;rw [Ph] at hh;obtain ⟨p,hp,rfl⟩:=Pa.1 hh;exact hs (hss _ (List.of_mem_zip hp).1)
 rw [qz,OG hns,qx,OG hs']
def mM (c:Code) (J:Nat->Act->Hp->Prop) (Q:Exit->Act->Hp->Prop):Exit->Act->Hp->Prop
 | .goto l,a,h=>match findLabel c l with
  | some _=>J l a h
  | none=>Q (.goto l) a h
 | e,a,h=>Q e a h
def GH {P:Program} {c:Code} {Q:Exit->Act->Hp->Prop} {a:Act} {h:Hp} {M:Type} {lt:M->M->Prop} (wf:WellFounded lt) (J:Nat->M->Act->Hp->Prop)
  (first:cW P c (mM c (fun l a h=>∃ m,J l m a h) Q) a h)
  (pass:∀ l m a h,J l m a h->∃ r,findLabel c l=some r/\cW P r (mM c (fun l' a' h'=>∃ m',lt m' m/\J l' m' a' h') Q) a h):cW P (.scope c) Q a h:=by
 intro w0 w hs hw b k cs;have hg:∀ l r,findLabel c l=some r->gotoIn l (.inScope c::k)=some (.code r::.inScope c::k):=fun l r hr=>by simp [gotoIn,hr]
 have hg':∀ l,findLabel c l=none->∀ k',gotoIn l k=some k'->gotoIn l (.inScope c::k)=some k':=fun l hr k' hk=>by simp [gotoIn,hr,hk]
 have key:∀ (m:M),∀ l a w r,cY w0 w->J l m a w.heap->findLabel c l=some r->∃ e a' w',Np w0 Q e a' w'/\Arrives P (lone (b.at a (.code r::.inScope c::k)) cs w) b k cs e a' w':=by
  intro m
  induction m using wf.induction with
  | _ m ih =>
   intro l a w r hs hJ hr;obtain ⟨r',hr',hc⟩:=pass l m a w.heap hJ;rw [hr] at hr'; obtain rfl:=O1 hr';obtain ⟨e,a₁,w₁,⟨hs1,hq⟩,harr⟩:=hc w0 w hs rfl b (.inScope c::k) cs;cases e with
   | normal=>exact ⟨.normal,a₁,w₁,⟨hs1,hq⟩,Steps.trans harr (.one step_inScope)⟩
   | exit id=>exact ⟨.exit id,a₁,w₁,⟨hs1,hq⟩,fun k' hk=>harr k' (by simp [exitTo,hk])⟩
   | goto l' =>
    simp only [mM] at hq;cases hf:findLabel c l' with
    | none=>simp only [hf] at hq; exact ⟨.goto l',a₁,w₁,⟨hs1,hq⟩,fun k' hk=>harr k' (hg' l' hf k' hk)⟩
    | some r2 =>
     simp only [hf] at hq;obtain ⟨m',hlt,hJ'⟩:=hq;obtain ⟨e₂,a₂,w₂,hq₂,harr₂⟩:=ih m' hlt l' a₁ w₁ r2 hs1 hJ' hf;exact ⟨e₂,a₂,w₂,hq₂,.of_steps (harr _ (hg l' r2 hf)) harr₂⟩
   | ret=>exact ⟨_,a₁,w₁,⟨hs1,hq⟩,harr⟩
   | panic ch=>exact ⟨_,a₁,w₁,⟨hs1,hq⟩,harr⟩
   | outgrown=>exact ⟨_,a₁,w₁,⟨hs1,hq⟩,harr⟩
 obtain ⟨e,a₁,w₁,⟨hs1,hq⟩,harr⟩:=first w0 w hs hw b (.inScope c::k) cs
 cases e with
 | normal=>exact ⟨.normal,a₁,w₁,⟨hs1,hq⟩,.head step_scope (Steps.trans harr (.one step_inScope))⟩
 | exit id=>exact ⟨.exit id,a₁,w₁,⟨hs1,hq⟩,fun k' hk=>.head step_scope (harr k' (by simp [exitTo,hk]))⟩
 | goto l' =>
  simp only [mM] at hq;cases hf:findLabel c l' with
  | none=>simp only [hf] at hq; exact ⟨.goto l',a₁,w₁,⟨hs1,hq⟩,fun k' hk=>.head step_scope (harr k' (hg' l' hf k' hk))⟩
  | some r2 =>
   simp only [hf] at hq;obtain ⟨m',hJ'⟩:=hq;obtain ⟨e₂,a₂,w₂,hq₂,harr₂⟩:=key m' l' a₁ w₁ r2 hs1 hJ' hf;exact ⟨e₂,a₂,w₂,hq₂,.of_steps (.head step_scope (harr _ (hg l' r2 hf))) harr₂⟩
 | ret=>exact ⟨_,a₁,w₁,⟨hs1,hq⟩,.of_steps (.one step_scope) harr⟩
 | panic ch=>exact ⟨_,a₁,w₁,⟨hs1,hq⟩,.of_steps (.one step_scope) harr⟩
 | outgrown=>exact ⟨_,a₁,w₁,⟨hs1,hq⟩,.of_steps (b:=b) (k:=k) (cs:=cs) (e:=.outgrown) (.one step_scope) harr⟩
theorem nz:∀ {c:Code} {l:Nat} {r:Code},findLabel c l=some r->∀ s∈dR r,s∈dR c
 | .seq a b,l,r,hr,s,hs=>by
  simp only [findLabel] at hr;cases ha:findLabel a l with
  | none=>rw [ha] at hr; exact Pj _ (nz hr s hs)
  | some ra =>
   rw [ha] at hr;simp only [Option.some.injEq] at hr;subst hr;rcases OS.1 hs with hs | hs
   ·exact Pl _ (nz ha s hs)
   ·exact Pj _ hs
 | .label l',l,r,hr,s,hs=>by
  simp only [findLabel] at hr;split at hr
  ·simp only [Option.some.injEq] at hr; subst hr; exact hs
  ·cases hr
 | .skip,l,r,hr,_,_=>by simp [findLabel] at hr
 | .region _ _ _,l,r,hr,_,_=>by simp [findLabel] at hr
 | .cond _ _ _,l,r,hr,_,_=>by simp [findLabel] at hr
 | .block _ _,l,r,hr,_,_=>by simp [findLabel] at hr
 | .loop _,l,r,hr,_,_=>by simp [findLabel] at hr
 | .rangeFunc _ _ _ _,l,r,hr,_,_=>by simp [findLabel] at hr
 | .exit _,l,r,hr,_,_=>by simp [findLabel] at hr
 | .scope _,l,r,hr,_,_=>by simp [findLabel] at hr
 | .goto _,l,r,hr,_,_=>by simp [findLabel] at hr
 | .ret,l,r,hr,_,_=>by simp [findLabel] at hr
 | .refuse _,l,r,hr,_,_=>by simp [findLabel] at hr
theorem zG {P:Program} {n:Nat} {cuts:List Nat}:∀ (t:Code) {l:Nat} {r:Code},fl l t=true->findLabel t l=some r ->
  dR t=dR r/\∀ fu e lv κ,fq P n cuts fu t e lv κ=fq P n cuts fu r e lv κ
 | .label l',l,r,hh,hr=>by
  simp only [findLabel] at hr;split at hr
  ·simp only [Option.some.injEq] at hr; subst hr;refine ⟨rfl,fun fu e lv κ=>?_⟩;cases fu <;> simp only [fq]
  ·cases hr
 | .seq a b,l,r,hh,hr=>by
  simp only [findLabel] at hr;cases ha:findLabel a l with
  | none =>
   exfalso
   have:∀ (a:Code),fl l a=true->findLabel a l≠none:=by
    intro a
    induction a with
    | label l' =>
     intro h1 h2;simp only [fl] at h1
     have:=Ps h1
     subst this;simp [findLabel] at h2
    | seq x y ihx ihy =>
     intro h1 h2;simp only [fl] at h1;simp only [findLabel] at h2;cases hx:findLabel x l with
     | none=>exact ihx h1 hx
     | some rx=>rw [hx] at h2; cases h2
    | _=>intro h1; simp [fl] at h1
   exact this a (by simpa [fl] using hh) ha
  | some ra =>
   rw [ha] at hr;simp only [Option.some.injEq] at hr;subst hr;obtain ⟨h1,h2⟩:=zG (P:=P) (n:=n) (cuts:=cuts) a (by simpa [fl] using hh) ha;refine ⟨by simp [dR,h1],fun fu e lv κ=>?_⟩;cases fu with
   | zero=>simp only [fq]
   | succ fu=>simp only [fq,h1,h2]
 | .skip,l,r,hh,hr=>by simp [findLabel] at hr
 | .region _ _ _,l,r,hh,hr=>by simp [findLabel] at hr
 | .cond _ _ _,l,r,hh,hr=>by simp [findLabel] at hr
 | .block _ _,l,r,hh,hr=>by simp [findLabel] at hr
 | .loop _,l,r,hh,hr=>by simp [findLabel] at hr
 | .rangeFunc _ _ _ _,l,r,hh,hr=>by simp [findLabel] at hr
 | .exit _,l,r,hh,hr=>by simp [findLabel] at hr
 | .scope _,l,r,hh,hr=>by simp [findLabel] at hr
 | .goto _,l,r,hh,hr=>by simp [findLabel] at hr
 | .ret,l,r,hh,hr=>by simp [findLabel] at hr
 | .refuse _,l,r,hh,hr=>by simp [findLabel] at hr
end Go.Sx
