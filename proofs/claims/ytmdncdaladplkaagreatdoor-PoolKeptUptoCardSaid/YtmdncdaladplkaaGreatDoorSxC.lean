/- Part of the framework. No condition. -/
import Derived.Test.YtmdncdaladplkaaGreatDoorSxO
set_option linter.all false
set_option maxHeartbeats 4000000
namespace Go.Sx
variable {tm:Array Xab} {ms:List Nat}
def Fr (l:List Nat) (e a:Env):Prop:=∀ s,s∉l->db a s=db e s
def Fr.refl (l:List Nat) (e:Env):Fr l e e:=λ_ _=>rfl
def Fr.trans {l:List Nat} {a b c:Env} (h:Fr l a b) (k:Fr l b c):Fr l a c:=λs d=>(k s d).trans (h s d)
variable {H:Env}
def Fr.mono {l l':List Nat} {b:Env} (h:Fr l H b) (m:∀ s∈l,s∈l'):Fr l' H b:=λs c=>h s λd=>c (m s d)
def Fr.eE {l:List Nat} (n:Nat) (e:Env) {dst:Option Tmp} (v:Xab) (a:∀ d,dst=some d->d∈l):Fr l e (eE n e dst v):=by
 intro s b;cases dst with
 | none=>rfl
 | some d =>
  simp only [Sx.eE];cases Nat.blt d n with
  | false=>rfl
  | true =>
   simp only [cond_true,dQ];rw [ac9 (λc:d=s=>b (c▸a d rfl))]
variable {U:Oper}
def zf {ops:Array Oper} (h:U.guard=none):Region.wanted U (yielded ops tm)=true:=by
 simp [Region.wanted,h]
def zp {ops:Array Oper} {j:Nat} {w:Bool} (h:U.guard=some (j,w)) :
  Region.wanted U (yielded ops tm)=(yielded ops tm j==some w):=by
 simp [Region.wanted,h]
def xi {ops:Array Oper} {j d:Nat} {b:Bool} (e:(ops[j]?).bind (·.dst)=some d) (a:tm.getD d undef=.bool b):yielded ops tm j=some b:=by
 unfold yielded;rw [e];rw [Array.getD_eq_getD_getElem?] at a;cases c:tm[d]? with
 | none=>rw [c] at a; simp [undef] at a
 | some v=>rw [c] at a; simp at a; subst a; simp [c]
def uT {ops:Array Oper} {j d:Nat} {c:Array Xab} (e:(ops[j]?).bind (·.dst)=some d) (a:tm.getD d undef=.tuple c):yielded ops tm j=none:=by
 unfold yielded;rw [e];rw [Array.getD_eq_getD_getElem?] at a;cases b:tm[d]? with
 | none=>simp [b]
 | some v=>rw [b] at a; simp at a; subst a; simp [b]
def K5 {ops:Array Oper} {j d:Nat} (a:(ops[j]?).bind (·.dst)=some d):d∈dstsOf ops:=by
 obtain ⟨o,b,c⟩:=aa9.1 a
 have:=Array.mem_of_getElem? b
 exact dz9.2 ⟨o,by simpa using this,c⟩
variable {V:Nd} {Y:Act} {O a:Lp} {Z:Hp}
def NX {ops:Array Oper} (g:iI V H Y) {f no:Env->T} {K:Xab->Hp->Prop} 
  (ht:mX V ops U H f no O K Z) :
  ∃ k,iI V k Y/\Fr (dstsOf ops) H k/\((Region.wanted U (yielded ops Y.tmps)=true/\f k O K Z)\/(Region.wanted U (yielded ops Y.tmps)=false/\no k O K Z)):=by
 unfold mX guardOf at ht;cases l:U.guard with
 | none =>
  simp only [l] at ht;exact ⟨H,g,Fr.refl _ _,.inl ⟨zf l,ht⟩⟩
 | some p =>
  obtain ⟨j,w⟩:=p;simp only [l] at ht;rw [zp l];cases c:(ops[j]?).bind (·.dst) with
  | none =>
   simp only [c] at ht;exact ⟨H,g,Fr.refl _ _,.inr ⟨by simp [yielded,c],ht⟩⟩
  | some d =>
   simp only [c] at ht;cases hv:db H d with
   | none=>simp only [hv] at ht; exact ht.elim
   | some v =>
    have hav:=g.get d v hv;cases v <;> simp only [hv] at ht <;> first | exact ht.elim | skip
    case tuple q=>exact ⟨H,g,Fr.refl _ _,.inr ⟨by rw [uT c hav]; rfl,ht⟩⟩
    case bool b =>
     rw [xi c hav];have fr:∀ u,Fr (dstsOf ops) H (eE V H (some d) u):=λu=>Fr.eE V H u (λr i=>by simp at i; subst i; exact K5 c)
     cases w <;> simp only at ht <;> rcases gH ht with ⟨m,ht⟩ | ⟨m,ht⟩ <;> subst m
     ·exact ⟨_,g.w7 hv _ rfl,fr _,.inr ⟨rfl,ht⟩⟩
     ·exact ⟨_,g.w7 hv _ rfl,fr _,.inl ⟨rfl,ht⟩⟩
     ·exact ⟨_,g.w7 hv _ rfl,fr _,.inl ⟨rfl,ht⟩⟩
     ·exact ⟨_,g.w7 hv _ rfl,fr _,.inr ⟨rfl,ht⟩⟩
abbrev atW (w0:World) (Q:Exit->Act->Hp->Prop):Exit->Act->World->Prop:=λe a w=>dO w0 w/\Q e a w.heap
theorem FE {P:Program} {n:Nd} {ops:Array Oper} {Q:Exit->Act->Hp->Prop} {k:Env->T} {K:Xab->Hp->Prop} {L:Lp} {e0:Env}
  (hk:∀ e a h,k e L K h->iI n e a->Fr (dstsOf ops) e0 e->Q .normal a h):∀ (rest:List Oper) (e:Env) (a:Act) (h:Hp),(∀ o∈rest,o∈ops.toList) ->
  G5 P n ops rest e k L K h->iI n e a->Fr (dstsOf ops) e0 e->∀ f w:World,dO f w->w.heap=h->wpList P ops (atW f Q) rest a w
 | [],e,a,h,_,ht,g,fr,f,w,j,m=>by
  subst m;exact ⟨j,hk e a _ ht g fr⟩
 | o::rest,e,a,h,c,ht,g,fr,f,w,j,m=>by
  subst m;have l:∀ d,o.dst=some d->d∈dstsOf ops:=λd l=>dz9.2 ⟨o,c o ai,l⟩
  obtain ⟨u,p,i,t⟩:=NX g (show mX n ops o e _ _ L K w.heap from ht);unfold wpList;rcases t with ⟨b,ht⟩ | ⟨b,ht⟩
  ·rw [ag9 b];refine .inl (yY (JH p ht) ?_);intro v w' q r;exact FE hk rest _ _ _ (λo s=>c o (by simp [s])) r (p.put o.dst v) ((fr.trans i).trans (Fr.eE n _ _ l)) f w' (j.trans q) rfl
  ·rw [ac9 (by simp [b])];exact FE hk rest _ _ _ (λo s=>c o (by simp [s])) ht (p.put o.dst undef) ((fr.trans i).trans (Fr.eE n _ _ l)) f w j rfl
theorem zR {x y:Nat}:∀ {l:List Nat},y∈ul x l↔y=x\/y∈l
 | []=>by simp [ul]
 | z::l=>by
  simp only [ul];cases a:Nat.blt x z with
  | true=>simp
  | false =>
   cases hc:Nat.beq x z with
   | true =>
    have:=av9 hc; subst this
    simp
   | false=>simp [zR (l:=l)]; exact or_left_comm
def tV {y:Nat} (l:List Nat):y∈jx l↔y∈l:=by
 unfold jx
 have:∀ (l a:List Nat),y∈l.foldl (λa x=>ul x a) a↔y∈a\/y∈l:=by
  intro l
  induction l with
  | nil=>intro a; simp
  | cons x l b=>intro a; simp only [List.foldl_cons,b,zR,List.mem_cons]; rw [or_assoc]; exact or_left_comm
 simpa using this l []
def tM (e a:Env) (s:Nat):db (e++a) s=if s∈e.map (·.1) then db e s else db a s:=by
 induction e with
 | nil=>simp
 | cons p e b =>
  obtain ⟨t,v⟩:=p;rw [fc9,dQ,dQ,b]
  by_cases h:t=s
  ·simp [h]
  ·have:¬ s=t:=λc=>h c.symm
   simp only [List.map_cons,List.mem_cons,this,false_or,h,if_false]
def tK {l:List Nat} {s:Nat}:db (forget H l) s=if s∈l then none else db H s:=by
 unfold forget;rw [tM];have h1:(l.map (λs=>((s,none):Nat × Option Xab))).map (·.1)=l:=by
  rw [bg9]; simp [Function.comp_def]
 rw [h1]
 by_cases a:s∈l
 ·rw [ag9 a,ag9 a];clear h1
  induction l with
  | nil=>simp at a
  | cons t l c =>
   rw [bq9,dQ]
   by_cases ht:t=s
   ·rw [ag9 ht]
   ·rw [ac9 ht];exact c (by simp at a; rcases a with b | b; exact (ht b.symm).elim; exact b)
 ·rw [ac9 a,ac9 a]
theorem x8 {e:Env} {L:Lp} {K:Xab->Hp->Prop} {h:Hp}:∀ {b:List Nat} {k:List Xab->T},BS e b k L K h->∃ a,b.map (db e)=a.map some/\k a L K h
 | [],k,ht=>⟨[],rfl,ht⟩
 | s::b,k,ht=>by
  unfold BS at ht;cases hv:db e s with
  | none=>simp only [hv] at ht; exact ht.elim
  | some v =>
   simp only [hv] at ht;obtain ⟨a,et,ht⟩:=x8 ht;exact ⟨v::a,by simp [hv,et],ht⟩
def iI.head {f:Env} {a:Act} {c:List Nat} {vs:List Xab} (g:iI V f a) (hv:c.map (db f)=vs.map some) (fr:Fr ms H f) :
  iI V (ou c vs++forget H (jx ms)) a:=by
 refine ⟨g.size,g.defers,λs v b=>?_⟩;have h:∀ (c:List Nat) (vs:List Xab),c.map (db f)=vs.map some->∀ v,db (ou c vs++forget H (jx ms)) s=some v->db f s=some v:=by
  intro c
  induction c with
  | nil =>
   intro vs d v b;simp only [ou,List.zip_nil_left,List.map_nil,List.nil_append,tK] at b
   by_cases i:s∈jx ms
   ·rw [ag9 i] at b; cases b
   ·rw [ac9 i] at b;rw [fr s (λd=>i ((tV ms).2 d))];exact b
  | cons t c j =>
   intro vs d v b;cases vs with
   | nil=>simp at d
   | cons u vs =>
    simp only [List.map_cons,List.cons.injEq] at d
    have:ou (t::c) (u::vs)=(t,some u)::ou c vs:=rfl
    rw [this,fc9,dQ] at b
    by_cases ht:t=s
    ·rw [ag9 ht] at b; simp at b; subst b; rw [<- ht]; exact d.1
    ·rw [ac9 ht] at b; exact j vs d.2 v b
 exact g.get s v (h c vs hv v b)
theorem y5 (e:Env):∀ l,(live e l).map (λp=>db e p.1)=(live e l).map (λp=>some p.2)
 | []=>rfl
 | s::l=>by
  unfold live;cases hv:db e s with
  | none=>simp only; exact y5 e l
  | some v=>simp only [List.map_cons,hv,y5 e l]
def qt (L a:Lp):Prop:=∃ M,a=L++M
def qt.refl (L:Lp):qt L L:=⟨[],ai⟩
def qt.trans {c:Lp} (h:qt O a) (k:qt a c):qt O c:=by
 obtain ⟨m,rfl⟩:=h; obtain ⟨d,rfl⟩:=k; exact ⟨m++d,ai⟩
def qt.snoc (L:Lp) (J:List Xab->Hp->Prop):qt L (L++[J]):=⟨[J],rfl⟩
def Ip {J:List Xab->Hp->Prop} {K:Xab->Hp->Prop} {h:Hp} {b:List Xab} (c:qt (O++[J]) a) (ht:T.again O.length b a K h):J b h:=by
 obtain ⟨M,rfl⟩:=c;unfold T.again at ht;simpa using ht
def V8 (n:Nd) (L:Lp) (K:Xab->Hp->Prop) (e0:Env) (ms:List Nat) (κ:Exit->Env->Nat->T) (Q:Exit->Act->Hp->Prop):Prop :=
 ∀ x e a h b,qt L b->κ x e b.length b K h->iI n e a->Fr ms e0 e->Q x a h
def YE (P:Program) (n:Nd) (b:List Nat) (d:Nat):Prop :=
 ∀ (c:Code) (e:Env) (κ:Exit->Env->Nat->T) (L:Lp) (K:Xab->Hp->Prop) (Q:Exit->Act->Hp->Prop) (a:Act) (h:Hp),
  V8 n L K e (eR c) κ Q->gM P n b d c e L.length κ L K h->iI n e a->cW P c Q a h
def Iy {P:Program} {K:Xab->Hp->Prop} {c:Env->(Env->T)->T}
  (ht:K4 ms H O.length c O K Z) (g:iI V H Y) :
  ∃ (Inv:Nat->Act->Hp->Prop),(∃ m,Inv m Y Z)/\∀ m Y Z,Inv m Y Z->∃ (o:Env) (J:List Xab->Hp->Prop) (k:Env->T),Fr ms H o/\iI V o Y/\c o k (O++[J]) K Z /\
   ∀ q w h2 z,qt (O++[J]) z->k q z K h2->iI V q w->Fr ms o q->∃ r,r<m/\Inv r w h2:=by
 unfold K4 at ht;obtain ⟨I,⟨M,N,d,A⟩,b⟩:=ht;have i:∀ f,Fr ms H (ou ((live H (jx ms)).map (·.1)) f++forget H (jx ms)):=by
  intro f s Q;have j:s∉jx ms:=λB=>Q ((tV ms).1 B)
  have C:s∉(ou ((live H (jx ms)).map (·.1)) f).map (·.1):=by
   intro B;have h1:∀ l:List Nat,∀ t∈(live H l).map (·.1),t∈l:=by
    intro l
    induction l with
    | nil=>intro t ht; simp [live] at ht
    | cons u l G =>
     intro t ht;unfold live at ht;cases hv:db H u with
     | none=>simp only [hv] at ht; exact aq9 _ (G t ht)
     | some v =>
      simp only [hv,List.map_cons,List.mem_cons] at ht;rcases ht with rfl | ht
      ·simp
      ·exact aq9 _ (G t ht)
   have h2:∀ (l:List Nat) (f:List Xab),∀ t∈(ou l f).map (·.1),t∈l:=by
    intro l f t ht;unfold ou at ht;rw [bg9] at ht;obtain ⟨p,D,rfl⟩:=ap9.1 ht;exact (List.of_mem_zip D).1
   exact j (h1 _ _ (h2 _ _ _ B))
  rw [tM,ac9 C,tK,ac9 j]
 refine ⟨λm Y Z=>∃ x,I x m Z/\iI V (ou ((live H (jx ms)).map (·.1)) (parts ((live H (jx ms)).map λp=>OT p.2) (et _ x))++forget H (jx ms)) Y,?_,?_⟩
 ·refine ⟨N,M,A,?_⟩;refine iI.head g ?_ (Fr.refl _ _);rw [<- d,bg9,bg9];exact y5 H (jx ms)
 ·rintro m X h1 ⟨x,R,S⟩
  have:=b x m h1 R
  rw [dX] at this;refine ⟨_,_,_,i _,S,this,?_⟩;intro q w h2 z D hk U E;obtain ⟨f,et,hk⟩:=x8 hk;obtain ⟨r,W,y,rfl,F⟩:=Ip D hk;exact ⟨r,W,y,F,iI.head U et ((i _).trans E)⟩
def Gp {n:Nd} {d:List Nat} {cs:List ez} {K:Xab->Hp->Prop} {first:(Env->T)->T} {after:Env->T}
  (f:∀ s∈d,s∈ms) (ht:Sg d cs ms H O.length first after O K Z) :
  ∃ (J:List Xab->Hp->Prop) (k:Env->T),first k (O++[J]) K Z /\
   ∀ c g h2 i,qt (O++[J]) i->k c i K h2->iI n c g->Fr ms H c->∃ j,Fr ms H j/\iI n j g/\after j O K h2:=by
 obtain ⟨J,t,u⟩:=ht;refine ⟨_,_,t,?_⟩;intro c g h2 i l hk w m;obtain ⟨z,a,hk⟩:=x8 hk;obtain ⟨y,rfl,x⟩:=Ip l hk
 have:=u y h2 x
 rw [dX] at this;refine ⟨_,?_,iI.head w a m,this⟩;intro s r;have o:s∉jx ms:=λb=>r ((tV ms).1 b)
 have q:s∉(ou d (parts cs (et (flat cs) y))).map (·.1):=by
  intro b;unfold ou at b;rw [bg9] at b;obtain ⟨p,l,rfl⟩:=ap9.1 b;exact r (f _ (List.of_mem_zip l).1)
 rw [tM,ac9 q,tK,ac9 o]
def jZ (c:Code) (J:Nat->Act->Hp->Prop) (Q:Exit->Act->Hp->Prop):Exit->Act->Hp->Prop
 | .goto l,a,h=>match findLabel c l with
  | some _=>J l a h
  | none=>Q (.goto l) a h
 | e,a,h=>Q e a h
def Gh {P:Program} {c:Code} {Q:Exit->Act->Hp->Prop} {h:Hp} {M:Type} {lt:M->M->Prop} (wf:WellFounded lt) (J:Nat->M->Act->Hp->Prop)
  (first:cW P c (jZ c (λl Y h=>∃ m,J l m Y h) Q) Y h)
  (t:∀ l m Y h,J l m Y h->∃ r,findLabel c l=some r/\cW P r (jZ c (λl' a' h'=>∃ s,lt s m/\J l' s a' h') Q) Y h):cW P (.scope c) Q Y h:=by
 intro A w B I b k cs;have H:∀ l r,findLabel c l=some r->gotoIn l (.inScope c::k)=some (.code r::.inScope c::k):=λl r u=>by simp [gotoIn,u]
 have x:∀ l,findLabel c l=none->∀ k',gotoIn l k=some k'->gotoIn l (.inScope c::k)=some k':=λl u k' hk=>by simp [gotoIn,u,hk]
 have C:∀ (m:M),∀ l Y w r,dO A w->J l m Y w.heap->findLabel c l=some r->∃ e a' w',atW A Q e a' w'/\Arrives P (lone (b.at Y (.code r::.inScope c::k)) cs w) b k cs e a' w':=by
  intro m
  induction m using wf.induction with
  | _ m K =>
   intro l Y w r B L u;obtain ⟨N,y,hc⟩:=t l m Y w.heap L;rw [u] at y; obtain rfl:=bb9 y;obtain ⟨e,i,j,⟨f,g⟩,d⟩:=hc A w B rfl b (.inScope c::k) cs;cases e with
   | normal=>exact ⟨.normal,i,j,⟨f,g⟩,Steps.trans d (.one step_inScope)⟩
   | exit id=>exact ⟨.exit id,i,j,⟨f,g⟩,λk' hk=>d k' (by simp [exitTo,hk])⟩
   | goto l' =>
    simp only [jZ] at g;cases o:findLabel c l' with
    | none=>simp only [o] at g; exact ⟨.goto l',i,j,⟨f,g⟩,λk' hk=>d k' (x l' o k' hk)⟩
    | some z =>
     simp only [o] at g;obtain ⟨s,D,p⟩:=g;obtain ⟨E,F,G,q,n⟩:=K s D l' i j z f p o;exact ⟨E,F,G,q,.of_steps (d _ (H l' z o)) n⟩
   | ret=>exact ⟨_,i,j,⟨f,g⟩,d⟩
   | panic ch=>exact ⟨_,i,j,⟨f,g⟩,d⟩
   | outgrown=>exact ⟨_,i,j,⟨f,g⟩,d⟩
 obtain ⟨e,i,j,⟨f,g⟩,d⟩:=first A w B I b (.inScope c::k) cs
 cases e with
 | normal=>exact ⟨.normal,i,j,⟨f,g⟩,.head step_scope (Steps.trans d (.one step_inScope))⟩
 | exit id=>exact ⟨.exit id,i,j,⟨f,g⟩,λk' hk=>.head step_scope (d k' (by simp [exitTo,hk]))⟩
 | goto l' =>
  simp only [jZ] at g;cases o:findLabel c l' with
  | none=>simp only [o] at g; exact ⟨.goto l',i,j,⟨f,g⟩,λk' hk=>.head step_scope (d k' (x l' o k' hk))⟩
  | some z =>
   simp only [o] at g;obtain ⟨s,p⟩:=g;obtain ⟨E,F,G,q,n⟩:=C s l' i j z f p o;exact ⟨E,F,G,q,.of_steps (.head step_scope (d _ (H l' z o))) n⟩
 | ret=>exact ⟨_,i,j,⟨f,g⟩,.of_steps (.one step_scope) d⟩
 | panic ch=>exact ⟨_,i,j,⟨f,g⟩,.of_steps (.one step_scope) d⟩
 | outgrown=>exact ⟨_,i,j,⟨f,g⟩,.of_steps (b:=b) (k:=k) (cs:=cs) (e:=.outgrown) (.one step_scope) d⟩
theorem qm:∀ {c:Code} {l:Nat} {r:Code},findLabel c l=some r->∀ s∈eR r,s∈eR c
 | .seq a b,l,r,d,s,e=>by
  simp only [findLabel] at d;cases f:findLabel a l with
  | none=>rw [f] at d; exact bi9 _ (qm d s e)
  | some g =>
   rw [f] at d;simp only [Option.some.injEq] at d;subst d;rcases ar9.1 e with e | e
   ·exact be9 _ (qm f s e)
   ·exact bi9 _ e
 | .label l',l,r,d,s,e=>by
  simp only [findLabel] at d;split at d
  ·simp only [Option.some.injEq] at d; subst d; exact e
  ·cases d
 | .skip,l,r,d,_,_=>by simp [findLabel] at d
 | .region _ _ _,l,r,d,_,_=>by simp [findLabel] at d
 | .cond _ _ _,l,r,d,_,_=>by simp [findLabel] at d
 | .block _ _,l,r,d,_,_=>by simp [findLabel] at d
 | .loop _,l,r,d,_,_=>by simp [findLabel] at d
 | .rangeFunc _ _ _ _,l,r,d,_,_=>by simp [findLabel] at d
 | .exit _,l,r,d,_,_=>by simp [findLabel] at d
 | .scope _,l,r,d,_,_=>by simp [findLabel] at d
 | .goto _,l,r,d,_,_=>by simp [findLabel] at d
 | .ret,l,r,d,_,_=>by simp [findLabel] at d
 | .refuse _,l,r,d,_,_=>by simp [findLabel] at d
theorem Dx {P:Program} {n:Nat} {cuts:List Nat}:∀ (t:Code) {l:Nat} {r:Code},gp l t=true->findLabel t l=some r ->
  eR t=eR r/\∀ f e g κ,gM P n cuts f t e g κ=gM P n cuts f r e g κ
 | .label l',l,r,d,c=>by
  simp only [findLabel] at c;split at c
  ·simp only [Option.some.injEq] at c; subst c;refine ⟨rfl,λf e g κ=>?_⟩;cases f <;> simp only [gM]
  ·cases c
 | .seq a b,l,r,d,c=>by
  simp only [findLabel] at c;cases h:findLabel a l with
  | none =>
   exfalso
   have:∀ (a:Code),gp l a=true->findLabel a l≠none:=by
    intro a
    induction a with
    | label l' =>
     intro h1 h2;simp only [gp] at h1
     have:=av9 h1
     subst this;simp [findLabel] at h2
    | seq x y i k =>
     intro h1 h2;simp only [gp] at h1;simp only [findLabel] at h2;cases j:findLabel x l with
     | none=>exact i h1 j
     | some m=>rw [j] at h2; cases h2
    | _=>intro h1; simp [gp] at h1
   exact this a (by simpa [gp] using d) h
  | some o =>
   rw [h] at c;simp only [Option.some.injEq] at c;subst c;obtain ⟨h1,h2⟩:=Dx (P:=P) (n:=n) (cuts:=cuts) a (by simpa [gp] using d) h;refine ⟨by simp [eR,h1],λf e g κ=>?_⟩;cases f with
   | zero=>simp only [gM]
   | succ f=>simp only [gM,h1,h2]
 | .skip,l,r,d,c=>by simp [findLabel] at c
 | .region _ _ _,l,r,d,c=>by simp [findLabel] at c
 | .cond _ _ _,l,r,d,c=>by simp [findLabel] at c
 | .block _ _,l,r,d,c=>by simp [findLabel] at c
 | .loop _,l,r,d,c=>by simp [findLabel] at c
 | .rangeFunc _ _ _ _,l,r,d,c=>by simp [findLabel] at c
 | .exit _,l,r,d,c=>by simp [findLabel] at c
 | .scope _,l,r,d,c=>by simp [findLabel] at c
 | .goto _,l,r,d,c=>by simp [findLabel] at c
 | .ret,l,r,d,c=>by simp [findLabel] at c
 | .refuse _,l,r,d,c=>by simp [findLabel] at c
end Go.Sx
