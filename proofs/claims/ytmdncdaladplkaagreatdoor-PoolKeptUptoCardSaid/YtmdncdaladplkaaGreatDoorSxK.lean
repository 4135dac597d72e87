/- Part of the framework. No condition. -/
import Derived.Test.YtmdncdaladplkaaGreatDoorSxG
set_option linter.all false
set_option maxHeartbeats 4000000
namespace Go.Sx
open Go.MapKept
section
variable {α β:Type} [DecidableEq α] {P:Program}
structure yC (P:Program) (kt:TypeId) (kv:α->Xab):Prop where
 check:∀ (b:Bool) (a:α) (h:Hp) (K:Unit->Hp->Prop),K () h->aQ P (Instr.checkKey b 10000 kt (kv a)) h K
 kind:∃ d,P.underlying kt=some d/\∀ a b,Instr.sameNow d (kv a) (kv b)=none
 eqv:∀ (a b:α) (h:Hp) (K:Bool->Hp->Prop),K (decide (a=b)) h->aQ P (Op.equal kt (kv a) (kv b)) h K
 bits:∀ a,Instr.sameBits 10000 (kv a) (kv a)=true
 inj:∀ a b,kv a=kv b->a=b
def qD (kv:α->Xab) (h:Hp) (g:Nat) (D:List (α × Xab)):Prop :=
 ∃ (es:Array MapEntry) (clock:Nat),h[g]?=some (.map es clock)/\es.toList.map (λe=>(e.key,e.val))=D.map (λp=>(kv p.1,p.2))/\Stamped es clock
def fc (D:List (α × β)) (s:α):Option β:=(D.find? λp=>decide (s=p.1)).map (·.2)
def Am (D:List (α × β)) (s:α) (v:β):List (α × β) :=
 if (fc D s).isSome then D.map λp=>if s=p.1 then (p.1,v) else p else D++[(s,v)]
variable {h:Hp} {kt:TypeId} {kv:α->Xab}
variable {H:Nat}
def qD.lt {D:List (α × Xab)} (m:qD kv h H D):H<h.size:=by
 obtain ⟨_,_,a,_⟩:=m;exact eY a
def qD.aj {ws:List Nat} {h':Hp} {D:List (α × Xab)} (m:qD kv h H D) (k:Ch ws h h') (a:H∉ws):qD kv h' H D:=by
 obtain ⟨es,clock,b,r⟩:=m;exact ⟨es,clock,k.get b a,r⟩
def qD.nodup (a:yC P kt kv) {g:Nat} {D:List (α × Xab)} (m:qD kv h g D):(D.map (·.1)).Nodup:=by
 obtain ⟨es,clock,d,b,c⟩:=m;have h1:es.toList.map (·.key)=D.map (λp=>kv p.1):=by
  have:=as9 (List.map (·.1)) b
  simpa [List.map_map,Function.comp_def] using this
 have h2:=c.2.2;rw [h1] at h2;rw [show D.map (λp=>kv p.1)=(D.map (·.1)).map kv by simp [List.map_map,Function.comp_def]] at h2;exact (cs9.1 h2).imp (λh e=>h (by rw [e]))
theorem Dm (q:yC P kt kv) (s:α):∀ (es:List MapEntry) (D:List (α × Xab)) (i:Nat) (K:Option (Nat × Xab)->Hp->Prop),es.map (λe=>(e.key,e.val))=D.map (λp=>(kv p.1,p.2)) ->
  (fc D s=none->K none h)->(∀ j v,j<es.length->fc D s=some v->(es[j]?).map (·.key)=some (kv s)->K (some (i+j,v)) h)->aQ P (Instr.findAsking kt (kv s) es i) h K
 | [],D,i,K,a,h0,h1=>by
  cases D with
  | nil=>exact h0 rfl
  | cons p D=>simp at a
 | e::es,D,i,K,a,h0,h1=>by
  cases D with
  | nil=>simp at a
  | cons p D =>
   simp only [List.map_cons,List.cons.injEq,Prod.mk.injEq] at a;obtain ⟨⟨d,f⟩,g⟩:=a;unfold Instr.findAsking;rw [an,d];refine q.eqv s p.1 h _ ?_
   by_cases b:s=p.1
   ·rw [ak9 b];simp only [if_true]
    have:=h1 0 p.2 ai (by simp [fc,b]) (by simp [d,b])
    rw [f];exact this
   ·rw [al9 b];simp only [Bool.false_eq_true,if_false];have hl:fc (p::D) s=fc D s:=by simp [fc,b]
    rw [hl] at h0;refine Dm q s es D (i+1) K g h0 (λj v k c hk=>?_)
    have:=h1 (j+1) v (by simp; omega) (by rw [hl]; exact c) (by simpa using hk)
    rw [show i+1+j=i+(j+1) from ad];exact this
def D9 (q:yC P kt kv) (s:α) {es:List MapEntry} {D:List (α × Xab)} (a:es.map (λe=>(e.key,e.val))=D.map (λp=>(kv p.1,p.2))) (K:Option (Nat × Xab)->Hp->Prop)
  (h0:fc D s=none->K none h) (h1:∀ j v,j<es.length->fc D s=some v->(es[j]?).map (·.key)=some (kv s)->K (some (j,v)) h):aQ P (Instr.findKey kt (kv s) es) h K:=by
 obtain ⟨d,b,c⟩:=q.kind;unfold Instr.findKey;rw [an,az b];cases es with
 | nil =>
  cases D with
  | nil=>exact h0 rfl
  | cons p D=>simp at a
 | cons e es =>
  have hn:Instr.findNow d (kv s) (e::es) 0=none:=by
   cases D with
   | nil=>simp at a
   | cons p D =>
    simp only [List.map_cons,List.cons.injEq,Prod.mk.injEq] at a;unfold Instr.findNow;rw [a.1.1,c]
  rw [hn];refine Dm q s (e::es) D 0 K a h0 (λj v f hl hk=>?_);rw [by9];exact h1 j v f hl hk
def yq {t:TypeId} (K:Xab->Hp->Prop) (hk:∀ h',qD kv h' h.size []->Ext h h'->h'.size=h.size+1->K (.map (some h.size)) h'):aQ P (Instr.makeMap t none) h K:=by
 unfold Instr.makeMap;refine hk (h.push (.map #[] 0)) ⟨#[],0,by rw [Array.getElem?_push_size],rfl,⟨ai,ai,ai⟩⟩ (Ext.push h _) ai
def sY (q:yC P kt kv) {t e:TypeId} (ht:P.underlying t=some (.map kt e)) {z:Xab} (b:(P.info? e).bind (·.zero)=some z) {D:List (α × Xab)} (m:qD kv h H D) (s:α) (c:Bool)
  (K:Xab->Hp->Prop) (a:K (if c then .tuple #[(fc D s).getD z,.bool (fc D s).isSome] else (fc D s).getD z) h):aQ P (Instr.lookup t (.map (some H)) (kv s) c) h K:=by
 obtain ⟨es,clock,d,f,i⟩:=m;unfold Instr.lookup;rw [an,az ht];simp only;rw [an];refine gU d ai _ ?_;simp only [pure_bind];rw [an];refine q.check _ s h _ ?_;rw [an];refine D9 q s f _ (λhl=>?_) (λj v k hl hv=>?_)
 ·rw [hl] at a;simp only;rw [an,dI b]
  try simp only [pure_bind]
  cases c <;> exact a
 ·rw [hl] at a;simp only [pure_bind];cases c <;> exact a
def Cb (q:yC P kt kv) (s:α) (K:Xab->Hp->Prop) (a:K (kv s) h):aQ P (Instr.keyThatStays (kv s) (kv s)) h K:=by
 unfold Instr.keyThatStays;rw [ag9 (q.bits s)];exact a
def tR (q:yC P kt kv) {t e:TypeId} (ht:P.underlying t=some (.map kt e)) {D:List (α × Xab)} (m:qD kv h H D) (s:α) (v:Xab)
  (K:Unit->Hp->Prop) (S:∀ h',qD kv h' H (Am D s v)->Ch [H] h h'->h'.size=h.size->K () h'):aQ P (Instr.mapUpdate t (.map (some H)) (kv s) v) h K:=by
 have hnd:=qD.nodup q m;obtain ⟨es,clock,F,z,A⟩:=m;have hlt:=eY F;have ml:∀ o:Obj,Ch [H] h (h.setIfInBounds H o)/\(h.setIfInBounds H o).size=h.size/\(h.setIfInBounds H o)[H]?=some o:=by
  intro o;refine ⟨⟨ai,λi hi U=>?_⟩,ai,?_⟩
  ·rw [dm9,ac9 (by simp at U; exact λe=>U e.symm)]
  ·rw [dm9,ag9 rfl,ag9 hlt]
 unfold Instr.mapUpdate;rw [an,az ht];simp only;rw [an];refine gU F ai _ ?_;show aQ P _ h _;rw [an];refine q.check _ s h _ ?_;rw [an];refine D9 q s z _ (λhl=>?_) (λj v' V hl hv=>?_)
 ·refine ox F ai _ ?_;obtain ⟨I,J,c3⟩:=ml (.map (es.push { key:=kv s,val:=v,born:=clock }) (clock+1));refine S _ ⟨_,_,c3,?_,?_⟩ I J
  ·rw [Am,hl];simp [z]
  ·have B:(kv s)∉es.toList.map (·.key):=by
    intro W;have h1:es.toList.map (·.key)=D.map (λp=>kv p.1):=by
     have:=as9 (List.map (·.1)) z
     simpa [List.map_map,Function.comp_def] using this
    rw [h1] at W;obtain ⟨p,Z,hps⟩:=ap9.1 W;have hps:=q.inj _ _ hps;simp only [fc,Option.map_eq_none_iff,List.find?_eq_none,decide_eq_true_eq] at hl;exact hl p Z hps.symm
   obtain ⟨G,L,M⟩:=A;refine ⟨?_,?_,?_⟩
   ·intro x l;simp only [Array.toList_push,List.mem_append,List.mem_singleton] at l;rcases l with l | rfl
    ·have:=G x l; omega
    ·simp
   ·rw [Array.toList_push,ao9];refine ct9.2 ⟨L,ai,?_⟩;intro a N b w;have w:b=clock:=by simpa using w
    obtain ⟨x,l,rfl⟩:=ap9.1 N
    have:=G x l
    omega
   ·rw [Array.toList_push,ao9];refine ct9.2 ⟨M,ai,?_⟩;intro a N b w;have w:b=kv s:=by simpa using w
    rw [w];exact λO=>B (O▸N)
 ·have k:es[j]?=some es[j]:=dj9 (by simpa using V);have d:es[j].key=kv s:=by
   have h1:es.toList[j]?=some es[j]:=by rw [dq9]; exact k
   rw [h1] at hv;simpa using hv
  show aQ P _ h _;rw [an];have Q:((es[j]?).map (·.key)).getD (kv s)=kv s:=by rw [k]; simp [d]
  rw [Q];refine Cb q s _ ?_;refine ox F ai _ ?_;obtain ⟨I,J,c3⟩:=ml (.map (es.modify j λe=>{ e with key:=kv s,val:=v }) clock);have n:(es.modify j λe=>{ e with key:=kv s,val:=v }).toList.map (·.key)=es.toList.map (·.key):=by
   apply dh9;intro i;simp only [List.getElem?_map,Array.getElem?_toList,Array.getElem?_modify]
   by_cases c:j=i
   ·subst c;rw [ag9 rfl,k];simp [d]
   ·rw [ac9 c]
  have f:(es.modify j λe=>{ e with key:=kv s,val:=v }).toList.map (·.born)=es.toList.map (·.born):=by
   apply dh9;intro i;simp only [List.getElem?_map,Array.getElem?_toList,Array.getElem?_modify]
   by_cases c:j=i
   ·subst c;rw [ag9 rfl,k]
    simp
   ·rw [ac9 c]
  have hDl:D.length=es.size:=by
   have:=as9 List.length z
   simpa using this.symm
  have C:∀ i,(hi:i<D.length)->(es[i]'ad).key=kv D[i].1/\(es[i]'ad).val=D[i].2:=by
   intro i hi;have h1:(es.toList.map (λe=>(e.key,e.val)))[i]?=(D.map (λp=>(kv p.1,p.2)))[i]?:=by rw [z]
   simp only [List.getElem?_map,Array.getElem?_toList,List.getElem?_eq_getElem hi,Array.getElem?_eq_getElem (show i<es.size from ad),Option.map_some,Option.some.injEq,Prod.mk.injEq] at h1;exact h1
  refine S _ ⟨_,_,c3,?_,?_⟩ I J
  ·rw [Am,hl];simp only [Option.isSome_some,if_true];apply dh9;intro i;simp only [List.getElem?_map,Array.getElem?_toList,Array.getElem?_modify];rcases cj9 i D.length with hi | hi
   ·obtain ⟨X,q2⟩:=C i hi;rw [ad9 hi,dj9 (show i<es.size from ad)]
    by_cases c:j=i
    ·subst c;have r:s=D[j].1:=q.inj _ _ (by rw [<- X,d]);simp [<- r]
    ·have r:s≠D[i].1:=by
      intro Y;have u:j<D.length:=by simp at V; omega
      have q3:=(C j u).1;rw [d] at q3;have q3:s=D[j].1:=q.inj _ _ q3
      have:=dv9.1 hnd
      rcases cj9 i j with E | E
      ·exact this i j (by simpa using hi) (by simpa using u) E (by simp [<- Y,<- q3])
      ·exact this j i (by simpa using u) (by simpa using hi) ad (by simp [<- Y,<- q3])
     rw [ac9 c];simp [r,X,q2]
   ·rw [bv9 hi,cx9 (show es.size<=i from ad)]
    simp
  ·obtain ⟨G,L,M⟩:=A;refine ⟨?_,by rw [f]; exact L,by rw [n]; exact M⟩;intro x l
   have:x.born∈es.toList.map (·.born):=by rw [<- f]; exact ap9.2 ⟨x,l,rfl⟩
   obtain ⟨y,hy,R⟩:=ap9.1 this;rw [<- R]; exact G y hy
def uF (f:α->Option β) (s:α) (v:β):α->Option β:=λt=>if t=s then some v else f t
def jA (kv:α->Xab) (en:β->Xab) (h:Hp) (g:Nat) (f:α->Option β) (n:Nat):Prop:=∃ D:List (α × β),qD kv h g (D.map λp=>(p.1,en p.2))/\(∀ s,fc D s=f s)/\D.length=n
variable {en:β->Xab}
def jA.aj {ws:List Nat} {h':Hp} {g:Nat} {f:α->Option β} {n:Nat} (m:jA kv en h g f n) (k:Ch ws h h') (d:g∉ws):jA kv en h' g f n:=by
 obtain ⟨D,a,b,c⟩:=m;exact ⟨D,a.aj k d,b,c⟩
def jA.lt {g:Nat} {f:α->Option β} {n:Nat} (m:jA kv en h g f n):g<h.size:=by
 obtain ⟨D,a,b,c⟩:=m;exact a.lt
def uc (D:List (α × β)) (s:α):fc (D.map λp=>(p.1,en p.2)) s=(fc D s).map en:=by
 unfold fc;rw [List.find?_map];simp only [Option.map_map] <;> rfl
def N' (D:List (α × β)) (s:α) (v:β):Am (D.map λp=>(p.1,en p.2)) s (en v)=(Am D s v).map λp=>(p.1,en p.2):=by
 unfold Am;rw [uc,Option.isSome_map];split
 ·rw [bg9,bg9];apply cm9;intro p _;simp only [Function.comp_apply];split <;> rfl
 ·simp
def Nn (D:List (α × β)) (s:α) (v:β) (t:α):fc (D++[(s,v)]) t=(fc D t).or (if t=s then some v else none):=by
 unfold fc;rw [List.find?_append];cases a:D.find? (λp=>decide (t=p.1)) with
 | none =>
  by_cases ht:t=s
  ·simp [ht]
  ·simp [ht]
 | some p=>simp
def Bs {s t:α} (v:β) (e:¬ t=s) (l:List (α × β)):(List.find? (λp=>decide (t=p.1)) (List.map (λp=>if s=p.1 then (p.1,v) else p) l)).map (·.2)=(List.find? (λp=>decide (t=p.1)) l).map (·.2):=by
 induction l with
 | nil=>rfl
 | cons q l a =>
  by_cases b:s=q.1
  ·have:¬ t=q.1:=λk=>e (k.trans b.symm)
   simp only [List.map_cons,List.find?_cons,if_pos b,decide_eq_false this];exact a
  ·simp only [List.map_cons,List.find?_cons,if_neg b]
   by_cases ht:t=q.1
   ·simp [ht]
   ·simp only [decide_eq_false ht];exact a
def C1 {s:α} (v:β) (D:List (α × β)) (b:(fc D s).isSome):fc (D.map λp=>if s=p.1 then (p.1,v) else p) s=some v:=by
 unfold fc at *
 induction D with
 | nil=>simp at b
 | cons p D c =>
  by_cases h:s=p.1
  ·simp [h]
  ·have a:(Option.map (λx=>x.2) (List.find? (λp=>decide (s=p.1)) D)).isSome:=by
    simpa [List.find?_cons,decide_eq_false h] using b
   simp only [List.map_cons,List.find?_cons,if_neg h,decide_eq_false h];exact c a
def M8 (D:List (α × β)) (s:α) (v:β) (t:α):fc (Am D s v) t=uF (fc D) s v t:=by
 unfold Am uF;split
 ·rename_i a
  by_cases e:t=s
  ·rw [ag9 e,e]; exact C1 v D a
  ·rw [ac9 e]; exact Bs v e D
 ·rename_i a;rw [Nn]
  by_cases e:t=s
  ·subst e
   have:fc D t=none:=by simpa using a
   rw [this]; simp
  ·simp [e]
def SD (D:List (α × β)) (s:α) (v:β):(Am D s v).length=if (fc D s).isSome then D.length else D.length+1:=by
 unfold Am;split <;> simp
section rules
variable {L:Lp} {K:Xab->Hp->Prop}
def EQ {t:TypeId} {k:Option Nat->T} (hk:∀ h',jA kv en h' h.size (λ_=>none) 0->Ext h h'->h'.size=h.size+1->k (some h.size) L K h'):T.dP P (Instr.makeMap t none) false [(false,[.map 0 0])] k L K h:=by
 show aQ P _ h _;refine yq (kv:=kv) _ ?_;intro h' m e z;exact ⟨(some h.size,()),rfl,hk h' ⟨[],m,λs=>rfl,rfl⟩ e z⟩
def L6 (q:yC P kt kv) {t e:TypeId} (ht:P.underlying t=some (.map kt e)) {g n:Nat} {f:α->Option β} (m:jA kv en h g f n) (s:α) (v:β) {k:T}
  (hk:∀ h',jA kv en h' g (uF f s v) (if (f s).isSome then n else n+1)->Ch [g] h h'->h'.size=h.size->k L K h'):T.fI P (Instr.mapUpdate t (.map (some g)) (kv s) (en v)) k L K h:=by
 obtain ⟨D,m,a,hn⟩:=m;show aQ P _ h _;refine tR q ht m s _ _ ?_;intro h' b c z;rw [N'] at b;refine hk h' ⟨_,b,λt=>?_,?_⟩ c z
 ·rw [M8];unfold uF;split
  ·rfl
  ·exact a t
 ·rw [SD,a,hn]
end rules
end
end Go.Sx
