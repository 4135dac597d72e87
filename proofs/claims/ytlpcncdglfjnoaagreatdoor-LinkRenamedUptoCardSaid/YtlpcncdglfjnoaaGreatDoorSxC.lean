/- Part of the framework. No condition. -/
import Derived.Test.YtlpcncdglfjnoaaGreatDoorSxO
set_option linter.all false
set_option maxHeartbeats 4000000
namespace Go.Sx
variable {tm:Array XB} {ms:List Nat}
def Fr (l:List Nat) (e a:Env):Prop:=∀ s,s∉l->cQ a s=cQ e s
def Fr.refl (l:List Nat) (e:Env):Fr l e e:=fun _ _=>rfl
def Fr.trans {l:List Nat} {a b c:Env} (h:Fr l a b) (k:Fr l b c):Fr l a c:=fun s d=>(k s d).trans (h s d)
variable {H:Env}
def Fr.mono {l l':List Nat} {b:Env} (h:Fr l H b) (m:∀ s∈l,s∈l'):Fr l' H b:=fun s c=>h s fun d=>c (m s d)
def Fr.dQ {l:List Nat} (n:Nat) (e:Env) {dst:Option Tmp} (v:XB) (a:∀ d,dst=some d->d∈l):Fr l e (dQ n e dst v):=by
 intro s b;cases dst with
 | none=>rfl
 | some d =>
  simp only [Sx.dQ];cases Nat.blt d n with
  | false=>rfl
  | true =>
   simp only [cond_true,du];rw [Vu (fun c:d=s=>b (c▸a d rfl))]
variable {O:Oper}
def xk {ops:Array Oper} (h:O.guard=none):Region.wanted O (yielded ops tm)=true:=by
 simp [Region.wanted,h]
def xu {ops:Array Oper} {j:Nat} {w:Bool} (h:O.guard=some (j,w)) :
  Region.wanted O (yielded ops tm)=(yielded ops tm j==some w):=by
 simp [Region.wanted,h]
def uD {ops:Array Oper} {j d:Nat} {b:Bool} (e:(ops[j]?).bind (·.dst)=some d) (a:tm.getD d undef=.bool b):yielded ops tm j=some b:=by
 unfold yielded;rw [e];rw [Array.getD_eq_getD_getElem?] at a;cases c:tm[d]? with
 | none=>rw [c] at a; simp [undef] at a
 | some v=>rw [c] at a; simp at a; subst a; simp [c]
def sf {ops:Array Oper} {j d:Nat} {c:Array XB} (e:(ops[j]?).bind (·.dst)=some d) (a:tm.getD d undef=.tuple c):yielded ops tm j=none:=by
 unfold yielded;rw [e];rw [Array.getD_eq_getD_getElem?] at a;cases b:tm[d]? with
 | none=>simp [b]
 | some v=>rw [b] at a; simp at a; subst a; simp [b]
def Hr {ops:Array Oper} {j d:Nat} (a:(ops[j]?).bind (·.dst)=some d):d∈dstsOf ops:=by
 obtain ⟨o,b,c⟩:=Vq.1 a
 have:=Array.mem_of_getElem? b
 exact WV.2 ⟨o,by simpa using this,c⟩
variable {U:Nd} {V:Act} {I Z:Lp} {Y:Hp}
def JC {ops:Array Oper} (g:gd U H V) {i q:Env->T} {K:XB->Hp->Prop} 
  (c:kI U ops O H i q I K Y) :
  ∃ l,gd U l V/\Fr (dstsOf ops) H l/\((Region.wanted O (yielded ops V.tmps)=true/\i l I K Y)\/(Region.wanted O (yielded ops V.tmps)=false/\q l I K Y)):=by
 unfold kI guardOf at c;cases m:O.guard with
 | none =>
  simp only [m] at c;exact ⟨H,g,Fr.refl _ _,.inl ⟨xk m,c⟩⟩
 | some p =>
  obtain ⟨j,w⟩:=p;simp only [m] at c;rw [xu m];cases f:(ops[j]?).bind (·.dst) with
  | none =>
   simp only [f] at c;exact ⟨H,g,Fr.refl _ _,.inr ⟨by simp [yielded,f],c⟩⟩
  | some d =>
   simp only [f] at c;cases hv:cQ H d with
   | none=>simp only [hv] at c; exact c.elim
   | some v =>
    have hav:=g.get d v hv;cases v <;> simp only [hv] at c <;> first | exact c.elim | skip
    case tuple s=>exact ⟨H,g,Fr.refl _ _,.inr ⟨by rw [sf f hav]; rfl,c⟩⟩
    case bool b =>
     rw [uD f hav];have fr:∀ u,Fr (dstsOf ops) H (dQ U H (some d) u):=fun u=>Fr.dQ U H u (fun t k=>by simp at k; subst k; exact Hr f)
     cases w <;> simp only at c <;> rcases fy c with ⟨r,c⟩ | ⟨r,c⟩ <;> subst r
     ·exact ⟨_,g.uv hv _ rfl,fr _,.inr ⟨rfl,c⟩⟩
     ·exact ⟨_,g.uv hv _ rfl,fr _,.inl ⟨rfl,c⟩⟩
     ·exact ⟨_,g.uv hv _ rfl,fr _,.inl ⟨rfl,c⟩⟩
     ·exact ⟨_,g.uv hv _ rfl,fr _,.inr ⟨rfl,c⟩⟩
abbrev T1 (w0:World) (Q:Exit->Act->Hp->Prop):Exit->Act->World->Prop:=fun e a w=>dG w0 w/\Q e a w.heap
theorem CB {P:Program} {n:Nd} {ops:Array Oper} {Q:Exit->Act->Hp->Prop} {k:Env->T} {K:XB->Hp->Prop} {L:Lp} {e0:Env}
  (hk:∀ e a h,k e L K h->gd n e a->Fr (dstsOf ops) e0 e->Q .normal a h):∀ (rest:List Oper) (e:Env) (a:Act) (h:Hp),(∀ o∈rest,o∈ops.toList) ->
  DK P n ops rest e k L K h->gd n e a->Fr (dstsOf ops) e0 e->∀ i w:World,dG i w->w.heap=h->wpList P ops (T1 i Q) rest a w
 | [],e,a,h,_,c,g,fr,i,w,l,p=>by
  subst p;exact ⟨l,hk e a _ c g fr⟩
 | o::rest,e,a,h,f,c,g,fr,i,w,l,p=>by
  subst p;have m:∀ d,o.dst=some d->d∈dstsOf ops:=fun d m=>WV.2 ⟨o,f o ah,m⟩
  obtain ⟨x,q,j,u⟩:=JC g (show kI n ops o e _ _ L K w.heap from c);unfold wpList;rcases u with ⟨b,c⟩ | ⟨b,c⟩
  ·rw [VE b];refine .inl (w5 (F' q c) ?_);intro v w' r s;exact CB hk rest _ _ _ (fun o t=>f o (by simp [t])) s (q.put o.dst v) ((fr.trans j).trans (Fr.dQ n _ _ m)) i w' (l.trans r) rfl
  ·rw [Vu (by simp [b])];exact CB hk rest _ _ _ (fun o t=>f o (by simp [t])) c (q.put o.dst undef) ((fr.trans j).trans (Fr.dQ n _ _ m)) i w l rfl
theorem xQ {x y:Nat}:∀ {l:List Nat},y∈ru x l↔y=x\/y∈l
 | []=>by simp [ru]
 | z::l=>by
  simp only [ru];cases a:Nat.blt x z with
  | true=>simp
  | false =>
   cases hc:Nat.beq x z with
   | true =>
    have:=VF hc; subst this
    simp
   | false=>simp [xQ (l:=l)]; exact or_left_comm
def rb {y:Nat} (l:List Nat):y∈ij l↔y∈l:=by
 unfold ij
 have:∀ (l a:List Nat),y∈l.foldl (fun a x=>ru x a) a↔y∈a\/y∈l:=by
  intro l
  induction l with
  | nil=>intro a; simp
  | cons x l b=>intro a; simp only [List.foldl_cons,b,xQ,List.mem_cons]; rw [or_assoc]; exact or_left_comm
 simpa using this l []
def qR (e a:Env) (s:Nat):cQ (e++a) s=if s∈e.map (·.1) then cQ e s else cQ a s:=by
 induction e with
 | nil=>simp
 | cons p e b =>
  obtain ⟨t,v⟩:=p;rw [Xc,du,du,b]
  by_cases h:t=s
  ·simp [h]
  ·have:¬ s=t:=fun c=>h c.symm
   simp only [List.map_cons,List.mem_cons,this,false_or,h,if_false]
def qM {l:List Nat} {s:Nat}:cQ (forget H l) s=if s∈l then none else cQ H s:=by
 unfold forget;rw [qR];have h1:(l.map (fun s=>((s,none):Nat × Option XB))).map (·.1)=l:=by
  rw [VN]; simp [Function.comp_def]
 rw [h1]
 by_cases a:s∈l
 ·rw [VE a,VE a];clear h1
  induction l with
  | nil=>simp at a
  | cons t l d =>
   rw [VY,du]
   by_cases b:t=s
   ·rw [VE b]
   ·rw [Vu b];exact d (by simp at a; rcases a with c | c; exact (b c.symm).elim; exact c)
 ·rw [Vu a,Vu a]
theorem vQ {e:Env} {L:Lp} {K:XB->Hp->Prop} {h:Hp}:∀ {c:List Nat} {k:List XB->T},zy e c k L K h->∃ b,c.map (cQ e)=b.map some/\k b L K h
 | [],k,a=>⟨[],rfl,a⟩
 | s::c,k,a=>by
  unfold zy at a;cases hv:cQ e s with
  | none=>simp only [hv] at a; exact a.elim
  | some v =>
   simp only [hv] at a;obtain ⟨b,dS,a⟩:=vQ a;exact ⟨v::b,by simp [hv,dS],a⟩
def gd.head {f:Env} {a:Act} {c:List Nat} {vs:List XB} (g:gd U f a) (hv:c.map (cQ f)=vs.map some) (fr:Fr ms H f) :
  gd U (mh c vs++forget H (ij ms)) a:=by
 refine ⟨g.size,g.defers,fun s v b=>?_⟩;have h:∀ (c:List Nat) (vs:List XB),c.map (cQ f)=vs.map some->∀ v,cQ (mh c vs++forget H (ij ms)) s=some v->cQ f s=some v:=by
  intro c
  induction c with
  | nil =>
   intro vs d v b;simp only [mh,List.zip_nil_left,List.map_nil,List.nil_append,qM] at b
   by_cases i:s∈ij ms
   ·rw [VE i] at b; cases b
   ·rw [Vu i] at b;rw [fr s (fun d=>i ((rb ms).2 d))];exact b
  | cons t c k =>
   intro vs d v b;cases vs with
   | nil=>simp at d
   | cons u vs =>
    simp only [List.map_cons,List.cons.injEq] at d
    have:mh (t::c) (u::vs)=(t,some u)::mh c vs:=rfl
    rw [this,Xc,du] at b
    by_cases j:t=s
    ·rw [VE j] at b; simp at b; subst b; rw [<- j]; exact d.1
    ·rw [Vu j] at b; exact k vs d.2 v b
 exact g.get s v (h c vs hv v b)
theorem w8 (e:Env):∀ l,(live e l).map (fun p=>cQ e p.1)=(live e l).map (fun p=>some p.2)
 | []=>rfl
 | s::l=>by
  unfold live;cases hv:cQ e s with
  | none=>simp only; exact w8 e l
  | some v=>simp only [List.map_cons,hv,w8 e l]
def n' (L a:Lp):Prop:=∃ M,a=L++M
def n'.refl (L:Lp):n' L L:=⟨[],ah⟩
def n'.trans {c:Lp} (h:n' I Z) (k:n' Z c):n' I c:=by
 obtain ⟨m,rfl⟩:=h; obtain ⟨d,rfl⟩:=k; exact ⟨m++d,ah⟩
def n'.snoc (L:Lp) (J:List XB->Hp->Prop):n' L (L++[J]):=⟨[J],rfl⟩
def E0 {J:List XB->Hp->Prop} {K:XB->Hp->Prop} {h:Hp} {a:List XB} (c:n' (I++[J]) Z) (b:T.again I.length a Z K h):J a h:=by
 obtain ⟨M,rfl⟩:=c;unfold T.again at b;simpa using b
def P7 (n:Nd) (L:Lp) (K:XB->Hp->Prop) (e0:Env) (ms:List Nat) (κ:Exit->Env->Nat->T) (Q:Exit->Act->Hp->Prop):Prop :=
 ∀ x e a h b,n' L b->κ x e b.length b K h->gd n e a->Fr ms e0 e->Q x a h
def Sq (P:Program) (n:Nd) (b:List Nat) (d:Nat):Prop :=
 ∀ (c:Code) (e:Env) (κ:Exit->Env->Nat->T) (L:Lp) (K:XB->Hp->Prop) (Q:Exit->Act->Hp->Prop) (a:Act) (h:Hp),
  P7 n L K e (ec c) κ Q->fz P n b d c e L.length κ L K h->gd n e a->cW P c Q a h
def Ff {P:Program} {K:XB->Hp->Prop} {f:Env->(Env->T)->T}
  (c:Hq ms H I.length f I K Y) (g:gd U H V) :
  ∃ (Inv:Nat->Act->Hp->Prop),(∃ m,Inv m V Y)/\∀ m V Y,Inv m V Y->∃ (r:Env) (J:List XB->Hp->Prop) (k:Env->T),Fr ms H r/\gd U r V/\f r k (I++[J]) K Y /\
   ∀ w A h2 B,n' (I++[J]) B->k w B K h2->gd U w A->Fr ms r w->∃ z,z<m/\Inv z A h2:=by
 unfold Hq at c;obtain ⟨b,⟨O,Q,i,C⟩,d⟩:=c;have o:∀ j,Fr ms H (mh ((live H (ij ms)).map (·.1)) j++forget H (ij ms)):=by
  intro j s R;have q:s∉ij ms:=fun D=>R ((rb ms).1 D)
  have E:s∉(mh ((live H (ij ms)).map (·.1)) j).map (·.1):=by
   intro D;have h1:∀ l:List Nat,∀ t∈(live H l).map (·.1),t∈l:=by
    intro l
    induction l with
    | nil=>intro t c; simp [live] at c
    | cons u l N =>
     intro t c;unfold live at c;cases hv:cQ H u with
     | none=>simp only [hv] at c; exact Vz _ (N t c)
     | some v =>
      simp only [hv,List.map_cons,List.mem_cons] at c;rcases c with rfl | c
      ·simp
      ·exact Vz _ (N t c)
   have h2:∀ (l:List Nat) (j:List XB),∀ t∈(mh l j).map (·.1),t∈l:=by
    intro l j t c;unfold mh at c;rw [VN] at c;obtain ⟨p,F,rfl⟩:=Vy.1 c;exact (List.of_mem_zip F).1
   exact q (h1 _ _ (h2 _ _ _ D))
  rw [qR,Vu E,qM,Vu q]
 refine ⟨fun m V Y=>∃ x,b x m Y/\gd U (mh ((live H (ij ms)).map (·.1)) (parts ((live H (ij ms)).map fun p=>Kl p.2) (dS _ x))++forget H (ij ms)) V,?_,?_⟩
 ·refine ⟨Q,O,C,?_⟩;refine gd.head g ?_ (Fr.refl _ _);rw [<- i,VN,VN];exact w8 H (ij ms)
 ·rintro m a1 h1 ⟨x,S,W⟩
  have:=d x m h1 S
  rw [dC] at this;refine ⟨_,_,_,o _,W,this,?_⟩;intro w A h2 B F hk X G;obtain ⟨j,dS,hk⟩:=vQ hk;obtain ⟨z,Z,y,rfl,M⟩:=E0 F hk;exact ⟨z,Z,y,M,gd.head X dS ((o _).trans G)⟩
def Dd {n:Nd} {d:List Nat} {cs:List ef} {K:XB->Hp->Prop} {first:(Env->T)->T} {after:Env->T}
  (f:∀ s∈d,s∈ms) (t:Nc d cs ms H I.length first after I K Y) :
  ∃ (J:List XB->Hp->Prop) (k:Env->T),first k (I++[J]) K Y /\
   ∀ c g h2 i,n' (I++[J]) i->k c i K h2->gd n c g->Fr ms H c->∃ j,Fr ms H j/\gd n j g/\after j I K h2:=by
 obtain ⟨J,u,w⟩:=t;refine ⟨_,_,u,?_⟩;intro c g h2 i l hk x m;obtain ⟨A,a,hk⟩:=vQ hk;obtain ⟨y,rfl,z⟩:=E0 l hk
 have:=w y h2 z
 rw [dC] at this;refine ⟨_,?_,gd.head x a m,this⟩;intro s r;have o:s∉ij ms:=fun b=>r ((rb ms).1 b)
 have q:s∉(mh d (parts cs (dS (flat cs) y))).map (·.1):=by
  intro b;unfold mh at b;rw [VN] at b;obtain ⟨p,l,rfl⟩:=Vy.1 b;exact r (f _ (List.of_mem_zip l).1)
 rw [qR,Vu q,qM,Vu o]
def iM (c:Code) (J:Nat->Act->Hp->Prop) (Q:Exit->Act->Hp->Prop):Exit->Act->Hp->Prop
 | .goto l,a,h=>match findLabel c l with
  | some _=>J l a h
  | none=>Q (.goto l) a h
 | e,a,h=>Q e a h
def C6 {P:Program} {c:Code} {Q:Exit->Act->Hp->Prop} {h:Hp} {M:Type} {lt:M->M->Prop} (wf:WellFounded lt) (J:Nat->M->Act->Hp->Prop)
  (first:cW P c (iM c (fun l V h=>∃ m,J l m V h) Q) V h)
  (t:∀ l m V h,J l m V h->∃ r,findLabel c l=some r/\cW P r (iM c (fun l' a' h'=>∃ s,lt s m/\J l' s a' h') Q) V h):cW P (.scope c) Q V h:=by
 intro A w B I b k cs;have H:∀ l r,findLabel c l=some r->gotoIn l (.inScope c::k)=some (.code r::.inScope c::k):=fun l r u=>by simp [gotoIn,u]
 have x:∀ l,findLabel c l=none->∀ k',gotoIn l k=some k'->gotoIn l (.inScope c::k)=some k':=fun l u k' hk=>by simp [gotoIn,u,hk]
 have C:∀ (m:M),∀ l V w r,dG A w->J l m V w.heap->findLabel c l=some r->∃ e a' w',T1 A Q e a' w'/\Arrives P (lone (b.at V (.code r::.inScope c::k)) cs w) b k cs e a' w':=by
  intro m
  induction m using wf.induction with
  | _ m K =>
   intro l V w r B L u;obtain ⟨N,y,hc⟩:=t l m V w.heap L;rw [u] at y; obtain rfl:=VP y;obtain ⟨e,i,j,⟨f,g⟩,d⟩:=hc A w B rfl b (.inScope c::k) cs;cases e with
   | normal=>exact ⟨.normal,i,j,⟨f,g⟩,Steps.trans d (.one step_inScope)⟩
   | exit id=>exact ⟨.exit id,i,j,⟨f,g⟩,fun k' hk=>d k' (by simp [exitTo,hk])⟩
   | goto l' =>
    simp only [iM] at g;cases o:findLabel c l' with
    | none=>simp only [o] at g; exact ⟨.goto l',i,j,⟨f,g⟩,fun k' hk=>d k' (x l' o k' hk)⟩
    | some z =>
     simp only [o] at g;obtain ⟨s,D,p⟩:=g;obtain ⟨E,F,G,q,n⟩:=K s D l' i j z f p o;exact ⟨E,F,G,q,.of_steps (d _ (H l' z o)) n⟩
   | ret=>exact ⟨_,i,j,⟨f,g⟩,d⟩
   | panic ch=>exact ⟨_,i,j,⟨f,g⟩,d⟩
   | outgrown=>exact ⟨_,i,j,⟨f,g⟩,d⟩
 obtain ⟨e,i,j,⟨f,g⟩,d⟩:=first A w B I b (.inScope c::k) cs
 cases e with
 | normal=>exact ⟨.normal,i,j,⟨f,g⟩,.head step_scope (Steps.trans d (.one step_inScope))⟩
 | exit id=>exact ⟨.exit id,i,j,⟨f,g⟩,fun k' hk=>.head step_scope (d k' (by simp [exitTo,hk]))⟩
 | goto l' =>
  simp only [iM] at g;cases o:findLabel c l' with
  | none=>simp only [o] at g; exact ⟨.goto l',i,j,⟨f,g⟩,fun k' hk=>.head step_scope (d k' (x l' o k' hk))⟩
  | some z =>
   simp only [o] at g;obtain ⟨s,p⟩:=g;obtain ⟨E,F,G,q,n⟩:=C s l' i j z f p o;exact ⟨E,F,G,q,.of_steps (.head step_scope (d _ (H l' z o))) n⟩
 | ret=>exact ⟨_,i,j,⟨f,g⟩,.of_steps (.one step_scope) d⟩
 | panic ch=>exact ⟨_,i,j,⟨f,g⟩,.of_steps (.one step_scope) d⟩
 | outgrown=>exact ⟨_,i,j,⟨f,g⟩,.of_steps (b:=b) (k:=k) (cs:=cs) (e:=.outgrown) (.one step_scope) d⟩
theorem nW:∀ {c:Code} {l:Nat} {r:Code},findLabel c l=some r->∀ s∈ec r,s∈ec c
 | .seq a b,l,r,d,s,e=>by
  simp only [findLabel] at d;cases f:findLabel a l with
  | none=>rw [f] at d; exact Wd _ (nW d s e)
  | some g =>
   rw [f] at d;simp only [Option.some.injEq] at d;subst d;rcases VG.1 e with e | e
   ·exact V7 _ (nW f s e)
   ·exact Wd _ e
 | .label l',l,r,d,s,e=>by
  simp only [findLabel] at d;split at d
  ·simp only [Option.some.injEq] at d; subst d; exact e
  ·cases d
 | .skip,l,r,d,_,_=>by simp [findLabel] at d
 | .region _ _ _,l,r,d,_,_=>by simp [findLabel] at d
 | .cond _ _ _,l,r,d,_,_=>by simp [findLabel] at d
 | .block _ _,l,r,d,_,_=>by simp [findLabel] at d
 | .loop _,l,r,d,_,_=>by simp [findLabel] at d
 | .rangeFunc _ _ _ _,l,r,d,_,_=>by simp [findLabel] at d
 | .exit _,l,r,d,_,_=>by simp [findLabel] at d
 | .scope _,l,r,d,_,_=>by simp [findLabel] at d
 | .goto _,l,r,d,_,_=>by simp [findLabel] at d
 | .ret,l,r,d,_,_=>by simp [findLabel] at d
 | .refuse _,l,r,d,_,_=>by simp [findLabel] at d
theorem AS {P:Program} {n:Nat} {cuts:List Nat}:∀ (t:Code) {l:Nat} {r:Code},fp l t=true->findLabel t l=some r ->
  ec t=ec r/\∀ f e g κ,fz P n cuts f t e g κ=fz P n cuts f r e g κ
 | .label l',l,r,d,c=>by
  simp only [findLabel] at c;split at c
  ·simp only [Option.some.injEq] at c; subst c;refine ⟨rfl,fun f e g κ=>?_⟩;cases f <;> simp only [fz]
  ·cases c
 | .seq a b,l,r,d,c=>by
  simp only [findLabel] at c;cases h:findLabel a l with
  | none =>
   exfalso
   have:∀ (a:Code),fp l a=true->findLabel a l≠none:=by
    intro a
    induction a with
    | label l' =>
     intro h1 h2;simp only [fp] at h1
     have:=VF h1
     subst this;simp [findLabel] at h2
    | seq x y i k =>
     intro h1 h2;simp only [fp] at h1;simp only [findLabel] at h2;cases j:findLabel x l with
     | none=>exact i h1 j
     | some m=>rw [j] at h2; cases h2
    | _=>intro h1; simp [fp] at h1
   exact this a (by simpa [fp] using d) h
  | some o =>
   rw [h] at c;simp only [Option.some.injEq] at c;subst c;obtain ⟨h1,h2⟩:=AS (P:=P) (n:=n) (cuts:=cuts) a (by simpa [fp] using d) h;refine ⟨by simp [ec,h1],fun f e g κ=>?_⟩;cases f with
   | zero=>simp only [fz]
   | succ f=>simp only [fz,h1,h2]
 | .skip,l,r,d,c=>by simp [findLabel] at c
 | .region _ _ _,l,r,d,c=>by simp [findLabel] at c
 | .cond _ _ _,l,r,d,c=>by simp [findLabel] at c
 | .block _ _,l,r,d,c=>by simp [findLabel] at c
 | .loop _,l,r,d,c=>by simp [findLabel] at c
 | .rangeFunc _ _ _ _,l,r,d,c=>by simp [findLabel] at c
 | .exit _,l,r,d,c=>by simp [findLabel] at c
 | .scope _,l,r,d,c=>by simp [findLabel] at c
 | .goto _,l,r,d,c=>by simp [findLabel] at c
 | .ret,l,r,d,c=>by simp [findLabel] at c
 | .refuse _,l,r,d,c=>by simp [findLabel] at c
end Go.Sx
