/- Part of the framework. No condition. -/
import Derived.Test.YtmdncdaladplkaaGreatDoorSxO
set_option linter.all false
set_option maxHeartbeats 4000000
namespace Go.Sx
variable {tm:Array Xab} {ms:List Nat}
def Fr (l:List Nat) (e a:Env):Prop:=∀ s,s∉l->da a s=da e s
def Fr.refl (l:List Nat) (e:Env):Fr l e e:=fun _ _=>rfl
def Fr.trans {l:List Nat} {a b c:Env} (h:Fr l a b) (k:Fr l b c):Fr l a c:=fun s d=>(k s d).trans (h s d)
variable {H:Env}
def Fr.mono {l l':List Nat} {b:Env} (h:Fr l H b) (m:∀ s∈l,s∈l'):Fr l' H b:=fun s c=>h s fun d=>c (m s d)
def Fr.eC {l:List Nat} (n:Nat) (e:Env) {dst:Option Tmp} (v:Xab) (a:∀ d,dst=some d->d∈l):Fr l e (eC n e dst v):=by
 intro s b;cases dst with
 | none=>rfl
 | some d =>
  simp only [Sx.eC];cases Nat.blt d n with
  | false=>rfl
  | true =>
   simp only [cond_true,dN];rw [ac9 (fun c:d=s=>b (c▸a d rfl))]
variable {U:Oper}
def yR {ops:Array Oper} (h:U.guard=none):Region.wanted U (yielded ops tm)=true:=by
 simp [Region.wanted,h]
def y7 {ops:Array Oper} {j:Nat} {w:Bool} (h:U.guard=some (j,w)) :
  Region.wanted U (yielded ops tm)=(yielded ops tm j==some w):=by
 simp [Region.wanted,h]
def wG {ops:Array Oper} {j d:Nat} {b:Bool} (e:(ops[j]?).bind (·.dst)=some d) (a:tm.getD d undef=.bool b):yielded ops tm j=some b:=by
 unfold yielded;rw [e];rw [Array.getD_eq_getD_getElem?] at a;cases c:tm[d]? with
 | none=>rw [c] at a; simp [undef] at a
 | some v=>rw [c] at a; simp at a; subst a; simp [c]
def uj {ops:Array Oper} {j d:Nat} {c:Array Xab} (e:(ops[j]?).bind (·.dst)=some d) (a:tm.getD d undef=.tuple c):yielded ops tm j=none:=by
 unfold yielded;rw [e];rw [Array.getD_eq_getD_getElem?] at a;cases b:tm[d]? with
 | none=>simp [b]
 | some v=>rw [b] at a; simp at a; subst a; simp [b]
def Kq {ops:Array Oper} {j d:Nat} (a:(ops[j]?).bind (·.dst)=some d):d∈dstsOf ops:=by
 obtain ⟨o,b,c⟩:=aa9.1 a
 have:=Array.mem_of_getElem? b
 exact dw9.2 ⟨o,by simpa using this,c⟩
variable {V:Nd} {Y:Act} {O a:Lp} {Z:Hp}
def Nc {ops:Array Oper} (g:ix V H Y) {f no:Env->T} {K:Xab->Hp->Prop} 
  (ht:mn V ops U H f no O K Z) :
  ∃ k,ix V k Y/\Fr (dstsOf ops) H k/\((Region.wanted U (yielded ops Y.tmps)=true/\f k O K Z)\/(Region.wanted U (yielded ops Y.tmps)=false/\no k O K Z)):=by
 unfold mn guardOf at ht;cases l:U.guard with
 | none =>
  simp only [l] at ht;exact ⟨H,g,Fr.refl _ _,.inl ⟨yR l,ht⟩⟩
 | some p =>
  obtain ⟨j,w⟩:=p;simp only [l] at ht;rw [y7 l];cases c:(ops[j]?).bind (·.dst) with
  | none =>
   simp only [c] at ht;exact ⟨H,g,Fr.refl _ _,.inr ⟨by simp [yielded,c],ht⟩⟩
  | some d =>
   simp only [c] at ht;cases hv:da H d with
   | none=>simp only [hv] at ht; exact ht.elim
   | some v =>
    have hav:=g.get d v hv;cases v <;> simp only [hv] at ht <;> first | exact ht.elim | skip
    case tuple q=>exact ⟨H,g,Fr.refl _ _,.inr ⟨by rw [uj c hav]; rfl,ht⟩⟩
    case bool b =>
     rw [wG c hav];have fr:∀ u,Fr (dstsOf ops) H (eC V H (some d) u):=fun u=>Fr.eC V H u (fun r i=>by simp at i; subst i; exact Kq c)
     cases w <;> simp only at ht <;> rcases gk ht with ⟨m,ht⟩ | ⟨m,ht⟩ <;> subst m
     ·exact ⟨_,g.wu hv _ rfl,fr _,.inr ⟨rfl,ht⟩⟩
     ·exact ⟨_,g.wu hv _ rfl,fr _,.inl ⟨rfl,ht⟩⟩
     ·exact ⟨_,g.wu hv _ rfl,fr _,.inl ⟨rfl,ht⟩⟩
     ·exact ⟨_,g.wu hv _ rfl,fr _,.inr ⟨rfl,ht⟩⟩
abbrev Zw (w0:World) (Q:Exit->Act->Hp->Prop):Exit->Act->World->Prop:=fun e a w=>dM w0 w/\Q e a w.heap
theorem Fa {P:Program} {n:Nd} {ops:Array Oper} {Q:Exit->Act->Hp->Prop} {k:Env->T} {K:Xab->Hp->Prop} {L:Lp} {e0:Env}
  (hk:∀ e a h,k e L K h->ix n e a->Fr (dstsOf ops) e0 e->Q .normal a h):∀ (rest:List Oper) (e:Env) (a:Act) (h:Hp),(∀ o∈rest,o∈ops.toList) ->
  Gw P n ops rest e k L K h->ix n e a->Fr (dstsOf ops) e0 e->∀ f w:World,dM f w->w.heap=h->wpList P ops (Zw f Q) rest a w
 | [],e,a,h,_,ht,g,fr,f,w,j,m=>by
  subst m;exact ⟨j,hk e a _ ht g fr⟩
 | o::rest,e,a,h,c,ht,g,fr,f,w,j,m=>by
  subst m;have l:∀ d,o.dst=some d->d∈dstsOf ops:=fun d l=>dw9.2 ⟨o,c o aj,l⟩
  obtain ⟨u,p,i,t⟩:=Nc g (show mn n ops o e _ _ L K w.heap from ht);unfold wpList;rcases t with ⟨b,ht⟩ | ⟨b,ht⟩
  ·rw [ag9 b];refine .inl (yD (I0 p ht) ?_);intro v w' q r;exact Fa hk rest _ _ _ (fun o s=>c o (by simp [s])) r (p.put o.dst v) ((fr.trans i).trans (Fr.eC n _ _ l)) f w' (j.trans q) rfl
  ·rw [ac9 (by simp [b])];exact Fa hk rest _ _ _ (fun o s=>c o (by simp [s])) ht (p.put o.dst undef) ((fr.trans i).trans (Fr.eC n _ _ l)) f w j rfl
theorem zC {x y:Nat}:∀ {l:List Nat},y∈tG x l↔y=x\/y∈l
 | []=>by simp [tG]
 | z::l=>by
  simp only [tG];cases a:Nat.blt x z with
  | true=>simp
  | false =>
   cases hc:Nat.beq x z with
   | true =>
    have:=au9 hc; subst this
    simp
   | false=>simp [zC (l:=l)]; exact or_left_comm
def tk {y:Nat} (l:List Nat):y∈jj l↔y∈l:=by
 unfold jj
 have:∀ (l a:List Nat),y∈l.foldl (fun a x=>tG x a) a↔y∈a\/y∈l:=by
  intro l
  induction l with
  | nil=>intro a; simp
  | cons x l b=>intro a; simp only [List.foldl_cons,b,zC,List.mem_cons]; rw [or_assoc]; exact or_left_comm
 simpa using this l []
def sW (e a:Env) (s:Nat):da (e++a) s=if s∈e.map (·.1) then da e s else da a s:=by
 induction e with
 | nil=>simp
 | cons p e b =>
  obtain ⟨t,v⟩:=p;rw [ez9,dN,dN,b]
  by_cases h:t=s
  ·simp [h]
  ·have:¬ s=t:=fun c=>h c.symm
   simp only [List.map_cons,List.mem_cons,this,false_or,h,if_false]
def sU {l:List Nat} {s:Nat}:da (forget H l) s=if s∈l then none else da H s:=by
 unfold forget;rw [sW];have h1:(l.map (fun s=>((s,none):Nat × Option Xab))).map (·.1)=l:=by
  rw [bf9]; simp [Function.comp_def]
 rw [h1]
 by_cases a:s∈l
 ·rw [ag9 a,ag9 a];clear h1
  induction l with
  | nil=>simp at a
  | cons t l c =>
   rw [bq9,dN]
   by_cases ht:t=s
   ·rw [ag9 ht]
   ·rw [ac9 ht];exact c (by simp at a; rcases a with b | b; exact (ht b.symm).elim; exact b)
 ·rw [ac9 a,ac9 a]
theorem xE {e:Env} {L:Lp} {K:Xab->Hp->Prop} {h:Hp}:∀ {b:List Nat} {k:List Xab->T},By e b k L K h->∃ a,b.map (da e)=a.map some/\k a L K h
 | [],k,ht=>⟨[],rfl,ht⟩
 | s::b,k,ht=>by
  unfold By at ht;cases hv:da e s with
  | none=>simp only [hv] at ht; exact ht.elim
  | some v =>
   simp only [hv] at ht;obtain ⟨a,et,ht⟩:=xE ht;exact ⟨v::a,by simp [hv,et],ht⟩
def ix.head {f:Env} {a:Act} {c:List Nat} {vs:List Xab} (g:ix V f a) (hv:c.map (da f)=vs.map some) (fr:Fr ms H f) :
  ix V (nL c vs++forget H (jj ms)) a:=by
 refine ⟨g.size,g.defers,fun s v b=>?_⟩;have h:∀ (c:List Nat) (vs:List Xab),c.map (da f)=vs.map some->∀ v,da (nL c vs++forget H (jj ms)) s=some v->da f s=some v:=by
  intro c
  induction c with
  | nil =>
   intro vs d v b;simp only [nL,List.zip_nil_left,List.map_nil,List.nil_append,sU] at b
   by_cases i:s∈jj ms
   ·rw [ag9 i] at b; cases b
   ·rw [ac9 i] at b;rw [fr s (fun d=>i ((tk ms).2 d))];exact b
  | cons t c j =>
   intro vs d v b;cases vs with
   | nil=>simp at d
   | cons u vs =>
    simp only [List.map_cons,List.cons.injEq] at d
    have:nL (t::c) (u::vs)=(t,some u)::nL c vs:=rfl
    rw [this,ez9,dN] at b
    by_cases ht:t=s
    ·rw [ag9 ht] at b; simp at b; subst b; rw [<- ht]; exact d.1
    ·rw [ac9 ht] at b; exact j vs d.2 v b
 exact g.get s v (h c vs hv v b)
theorem yF (e:Env):∀ l,(live e l).map (fun p=>da e p.1)=(live e l).map (fun p=>some p.2)
 | []=>rfl
 | s::l=>by
  unfold live;cases hv:da e s with
  | none=>simp only; exact yF e l
  | some v=>simp only [List.map_cons,hv,yF e l]
def pN (L a:Lp):Prop:=∃ M,a=L++M
def pN.refl (L:Lp):pN L L:=⟨[],aj⟩
def pN.trans {c:Lp} (h:pN O a) (k:pN a c):pN O c:=by
 obtain ⟨m,rfl⟩:=h; obtain ⟨d,rfl⟩:=k; exact ⟨m++d,aj⟩
def pN.snoc (L:Lp) (J:List Xab->Hp->Prop):pN L (L++[J]):=⟨[J],rfl⟩
def HP {J:List Xab->Hp->Prop} {K:Xab->Hp->Prop} {h:Hp} {b:List Xab} (c:pN (O++[J]) a) (ht:T.again O.length b a K h):J b h:=by
 obtain ⟨M,rfl⟩:=c;unfold T.again at ht;simpa using ht
def Vi (n:Nd) (L:Lp) (K:Xab->Hp->Prop) (e0:Env) (ms:List Nat) (κ:Exit->Env->Nat->T) (Q:Exit->Act->Hp->Prop):Prop :=
 ∀ x e a h b,pN L b->κ x e b.length b K h->ix n e a->Fr ms e0 e->Q x a h
def XL (P:Program) (n:Nd) (b:List Nat) (d:Nat):Prop :=
 ∀ (c:Code) (e:Env) (κ:Exit->Env->Nat->T) (L:Lp) (K:Xab->Hp->Prop) (Q:Exit->Act->Hp->Prop) (a:Act) (h:Hp),
  Vi n L K e (eQ c) κ Q->gu P n b d c e L.length κ L K h->ix n e a->cW P c Q a h
def HX {P:Program} {K:Xab->Hp->Prop} {c:Env->(Env->T)->T}
  (ht:Kp ms H O.length c O K Z) (g:ix V H Y) :
  ∃ (Inv:Nat->Act->Hp->Prop),(∃ m,Inv m Y Z)/\∀ m Y Z,Inv m Y Z->∃ (o:Env) (J:List Xab->Hp->Prop) (k:Env->T),Fr ms H o/\ix V o Y/\c o k (O++[J]) K Z /\
   ∀ q w h2 z,pN (O++[J]) z->k q z K h2->ix V q w->Fr ms o q->∃ r,r<m/\Inv r w h2:=by
 unfold Kp at ht;obtain ⟨I,⟨M,N,d,A⟩,b⟩:=ht;have i:∀ f,Fr ms H (nL ((live H (jj ms)).map (·.1)) f++forget H (jj ms)):=by
  intro f s Q;have j:s∉jj ms:=fun B=>Q ((tk ms).1 B)
  have C:s∉(nL ((live H (jj ms)).map (·.1)) f).map (·.1):=by
   intro B;have h1:∀ l:List Nat,∀ t∈(live H l).map (·.1),t∈l:=by
    intro l
    induction l with
    | nil=>intro t ht; simp [live] at ht
    | cons u l G =>
     intro t ht;unfold live at ht;cases hv:da H u with
     | none=>simp only [hv] at ht; exact ap9 _ (G t ht)
     | some v =>
      simp only [hv,List.map_cons,List.mem_cons] at ht;rcases ht with rfl | ht
      ·simp
      ·exact ap9 _ (G t ht)
   have h2:∀ (l:List Nat) (f:List Xab),∀ t∈(nL l f).map (·.1),t∈l:=by
    intro l f t ht;unfold nL at ht;rw [bf9] at ht;obtain ⟨p,D,rfl⟩:=an9.1 ht;exact (List.of_mem_zip D).1
   exact j (h1 _ _ (h2 _ _ _ B))
  rw [sW,ac9 C,sU,ac9 j]
 refine ⟨fun m Y Z=>∃ x,I x m Z/\ix V (nL ((live H (jj ms)).map (·.1)) (parts ((live H (jj ms)).map fun p=>Oc p.2) (et _ x))++forget H (jj ms)) Y,?_,?_⟩
 ·refine ⟨N,M,A,?_⟩;refine ix.head g ?_ (Fr.refl _ _);rw [<- d,bf9,bf9];exact yF H (jj ms)
 ·rintro m X h1 ⟨x,R,S⟩
  have:=b x m h1 R
  rw [dU] at this;refine ⟨_,_,_,i _,S,this,?_⟩;intro q w h2 z D hk U E;obtain ⟨f,et,hk⟩:=xE hk;obtain ⟨r,W,y,rfl,F⟩:=HP D hk;exact ⟨r,W,y,F,ix.head U et ((i _).trans E)⟩
def FU {n:Nd} {d:List Nat} {cs:List ep} {K:Xab->Hp->Prop} {first:(Env->T)->T} {after:Env->T}
  (f:∀ s∈d,s∈ms) (ht:Rs d cs ms H O.length first after O K Z) :
  ∃ (J:List Xab->Hp->Prop) (k:Env->T),first k (O++[J]) K Z /\
   ∀ c g h2 i,pN (O++[J]) i->k c i K h2->ix n c g->Fr ms H c->∃ j,Fr ms H j/\ix n j g/\after j O K h2:=by
 obtain ⟨J,t,u⟩:=ht;refine ⟨_,_,t,?_⟩;intro c g h2 i l hk w m;obtain ⟨z,a,hk⟩:=xE hk;obtain ⟨y,rfl,x⟩:=HP l hk
 have:=u y h2 x
 rw [dU] at this;refine ⟨_,?_,ix.head w a m,this⟩;intro s r;have o:s∉jj ms:=fun b=>r ((tk ms).1 b)
 have q:s∉(nL d (parts cs (et (flat cs) y))).map (·.1):=by
  intro b;unfold nL at b;rw [bf9] at b;obtain ⟨p,l,rfl⟩:=an9.1 b;exact r (f _ (List.of_mem_zip l).1)
 rw [sW,ac9 q,sU,ac9 o]
def jH (c:Code) (J:Nat->Act->Hp->Prop) (Q:Exit->Act->Hp->Prop):Exit->Act->Hp->Prop
 | .goto l,a,h=>match findLabel c l with
  | some _=>J l a h
  | none=>Q (.goto l) a h
 | e,a,h=>Q e a h
def FM {P:Program} {c:Code} {Q:Exit->Act->Hp->Prop} {h:Hp} {M:Type} {lt:M->M->Prop} (wf:WellFounded lt) (J:Nat->M->Act->Hp->Prop)
  (first:cW P c (jH c (fun l Y h=>∃ m,J l m Y h) Q) Y h)
  (t:∀ l m Y h,J l m Y h->∃ r,findLabel c l=some r/\cW P r (jH c (fun l' a' h'=>∃ s,lt s m/\J l' s a' h') Q) Y h):cW P (.scope c) Q Y h:=by
 intro A w B I b k cs;have H:∀ l r,findLabel c l=some r->gotoIn l (.inScope c::k)=some (.code r::.inScope c::k):=fun l r u=>by simp [gotoIn,u]
 have x:∀ l,findLabel c l=none->∀ k',gotoIn l k=some k'->gotoIn l (.inScope c::k)=some k':=fun l u k' hk=>by simp [gotoIn,u,hk]
 have C:∀ (m:M),∀ l Y w r,dM A w->J l m Y w.heap->findLabel c l=some r->∃ e a' w',Zw A Q e a' w'/\Arrives P (lone (b.at Y (.code r::.inScope c::k)) cs w) b k cs e a' w':=by
  intro m
  induction m using wf.induction with
  | _ m K =>
   intro l Y w r B L u;obtain ⟨N,y,hc⟩:=t l m Y w.heap L;rw [u] at y; obtain rfl:=bb9 y;obtain ⟨e,i,j,⟨f,g⟩,d⟩:=hc A w B rfl b (.inScope c::k) cs;cases e with
   | normal=>exact ⟨.normal,i,j,⟨f,g⟩,Steps.trans d (.one step_inScope)⟩
   | exit id=>exact ⟨.exit id,i,j,⟨f,g⟩,fun k' hk=>d k' (by simp [exitTo,hk])⟩
   | goto l' =>
    simp only [jH] at g;cases o:findLabel c l' with
    | none=>simp only [o] at g; exact ⟨.goto l',i,j,⟨f,g⟩,fun k' hk=>d k' (x l' o k' hk)⟩
    | some z =>
     simp only [o] at g;obtain ⟨s,D,p⟩:=g;obtain ⟨E,F,G,q,n⟩:=K s D l' i j z f p o;exact ⟨E,F,G,q,.of_steps (d _ (H l' z o)) n⟩
   | ret=>exact ⟨_,i,j,⟨f,g⟩,d⟩
   | panic ch=>exact ⟨_,i,j,⟨f,g⟩,d⟩
   | outgrown=>exact ⟨_,i,j,⟨f,g⟩,d⟩
 obtain ⟨e,i,j,⟨f,g⟩,d⟩:=first A w B I b (.inScope c::k) cs
 cases e with
 | normal=>exact ⟨.normal,i,j,⟨f,g⟩,.head step_scope (Steps.trans d (.one step_inScope))⟩
 | exit id=>exact ⟨.exit id,i,j,⟨f,g⟩,fun k' hk=>.head step_scope (d k' (by simp [exitTo,hk]))⟩
 | goto l' =>
  simp only [jH] at g;cases o:findLabel c l' with
  | none=>simp only [o] at g; exact ⟨.goto l',i,j,⟨f,g⟩,fun k' hk=>.head step_scope (d k' (x l' o k' hk))⟩
  | some z =>
   simp only [o] at g;obtain ⟨s,p⟩:=g;obtain ⟨E,F,G,q,n⟩:=C s l' i j z f p o;exact ⟨E,F,G,q,.of_steps (.head step_scope (d _ (H l' z o))) n⟩
 | ret=>exact ⟨_,i,j,⟨f,g⟩,.of_steps (.one step_scope) d⟩
 | panic ch=>exact ⟨_,i,j,⟨f,g⟩,.of_steps (.one step_scope) d⟩
 | outgrown=>exact ⟨_,i,j,⟨f,g⟩,.of_steps (b:=b) (k:=k) (cs:=cs) (e:=.outgrown) (.one step_scope) d⟩
theorem pK:∀ {c:Code} {l:Nat} {r:Code},findLabel c l=some r->∀ s∈eQ r,s∈eQ c
 | .seq a b,l,r,d,s,e=>by
  simp only [findLabel] at d;cases f:findLabel a l with
  | none=>rw [f] at d; exact br9 _ (pK d s e)
  | some g =>
   rw [f] at d;simp only [Option.some.injEq] at d;subst d;rcases ar9.1 e with e | e
   ·exact bh9 _ (pK f s e)
   ·exact br9 _ e
 | .label l',l,r,d,s,e=>by
  simp only [findLabel] at d;split at d
  ·simp only [Option.some.injEq] at d; subst d; exact e
  ·cases d
 | .skip,l,r,d,_,_=>by simp [findLabel] at d
 | .region _ _ _,l,r,d,_,_=>by simp [findLabel] at d
 | .cond _ _ _,l,r,d,_,_=>by simp [findLabel] at d
 | .block _ _,l,r,d,_,_=>by simp [findLabel] at d
 | .loop _,l,r,d,_,_=>by simp [findLabel] at d
 | .rangeFunc _ _ _ _,l,r,d,_,_=>by simp [findLabel] at d
 | .exit _,l,r,d,_,_=>by simp [findLabel] at d
 | .scope _,l,r,d,_,_=>by simp [findLabel] at d
 | .goto _,l,r,d,_,_=>by simp [findLabel] at d
 | .ret,l,r,d,_,_=>by simp [findLabel] at d
 | .refuse _,l,r,d,_,_=>by simp [findLabel] at d
theorem C7 {P:Program} {n:Nat} {cuts:List Nat}:∀ (t:Code) {l:Nat} {r:Code},fX l t=true->findLabel t l=some r ->
  eQ t=eQ r/\∀ f e g κ,gu P n cuts f t e g κ=gu P n cuts f r e g κ
 | .label l',l,r,d,c=>by
  simp only [findLabel] at c;split at c
  ·simp only [Option.some.injEq] at c; subst c;refine ⟨rfl,fun f e g κ=>?_⟩;cases f <;> simp only [gu]
  ·cases c
 | .seq a b,l,r,d,c=>by
  simp only [findLabel] at c;cases h:findLabel a l with
  | none =>
   exfalso
   have:∀ (a:Code),fX l a=true->findLabel a l≠none:=by
    intro a
    induction a with
    | label l' =>
     intro h1 h2;simp only [fX] at h1
     have:=au9 h1
     subst this;simp [findLabel] at h2
    | seq x y i k =>
     intro h1 h2;simp only [fX] at h1;simp only [findLabel] at h2;cases j:findLabel x l with
     | none=>exact i h1 j
     | some m=>rw [j] at h2; cases h2
    | _=>intro h1; simp [fX] at h1
   exact this a (by simpa [fX] using d) h
  | some o =>
   rw [h] at c;simp only [Option.some.injEq] at c;subst c;obtain ⟨h1,h2⟩:=C7 (P:=P) (n:=n) (cuts:=cuts) a (by simpa [fX] using d) h;refine ⟨by simp [eQ,h1],fun f e g κ=>?_⟩;cases f with
   | zero=>simp only [gu]
   | succ f=>simp only [gu,h1,h2]
 | .skip,l,r,d,c=>by simp [findLabel] at c
 | .region _ _ _,l,r,d,c=>by simp [findLabel] at c
 | .cond _ _ _,l,r,d,c=>by simp [findLabel] at c
 | .block _ _,l,r,d,c=>by simp [findLabel] at c
 | .loop _,l,r,d,c=>by simp [findLabel] at c
 | .rangeFunc _ _ _ _,l,r,d,c=>by simp [findLabel] at c
 | .exit _,l,r,d,c=>by simp [findLabel] at c
 | .scope _,l,r,d,c=>by simp [findLabel] at c
 | .goto _,l,r,d,c=>by simp [findLabel] at c
 | .ret,l,r,d,c=>by simp [findLabel] at c
 | .refuse _,l,r,d,c=>by simp [findLabel] at c
end Go.Sx
