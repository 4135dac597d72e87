/- Part of the framework. No condition. -/
import Derived.Test.YtlpcncdglfjnoaaGreatDoorSxG
set_option linter.all false
set_option maxHeartbeats 4000000
namespace Go.Sx
open Go.MapKept
section
variable {α β:Type} [DecidableEq α] {P:Program}
structure Ck (P:Program) (kt:TypeId) (kv:α->Xab):Prop where
 check:∀ (b:Bool) (a:α) (h:Hp) (K:Unit->Hp->Prop),K () h->aZ P (Instr.checkKey b 10000 kt (kv a)) h K
 kind:∃ d,P.underlying kt=some d/\∀ a b,Instr.sameNow d (kv a) (kv b)=none
 eqv:∀ (a b:α) (h:Hp) (K:Bool->Hp->Prop),K (decide (a=b)) h->aZ P (Op.equal kt (kv a) (kv b)) h K
 bits:∀ a,Instr.sameBits 10000 (kv a) (kv a)=true
 inj:∀ a b,kv a=kv b->a=b
def qq (kv:α->Xab) (h:Hp) (g:Nat) (D:List (α × Xab)):Prop :=
 ∃ (es:Array MapEntry) (clock:Nat),h[g]?=some (.map es clock)/\es.toList.map (fun e=>(e.key,e.val))=D.map (fun p=>(kv p.1,p.2))/\Stamped es clock
def eY (D:List (α × β)) (s:α):Option β:=(D.find? fun p=>decide (s=p.1)).map (·.2)
def zS (D:List (α × β)) (s:α) (v:β):List (α × β) :=
 if (eY D s).isSome then D.map fun p=>if s=p.1 then (p.1,v) else p else D++[(s,v)]
variable {h:Hp} {kt:TypeId} {kv:α->Xab}
variable {H:Nat}
def qq.lt {D:List (α × Xab)} (m:qq kv h H D):H<h.size:=by
 obtain ⟨_,_,a,_⟩:=m;exact fF a
def qq.ai {ws:List Nat} {h':Hp} {D:List (α × Xab)} (m:qq kv h H D) (k:Ch ws h h') (a:H∉ws):qq kv h' H D:=by
 obtain ⟨es,clock,b,r⟩:=m;exact ⟨es,clock,k.get b a,r⟩
def qq.nodup (a:Ck P kt kv) {g:Nat} {D:List (α × Xab)} (m:qq kv h g D):(D.map (·.1)).Nodup:=by
 obtain ⟨es,clock,d,b,c⟩:=m;have h1:es.toList.map (·.key)=D.map (fun p=>kv p.1):=by
  have:=Zg (List.map (·.1)) b
  simpa [List.map_map,Function.comp_def] using this
 have h2:=c.2.2;rw [h1] at h2;rw [show D.map (fun p=>kv p.1)=(D.map (·.1)).map kv by simp [List.map_map,Function.comp_def]] at h2;exact (Z3.1 h2).imp (fun h e=>h (by rw [e]))
theorem CC (q:Ck P kt kv) (s:α):∀ (es:List MapEntry) (D:List (α × Xab)) (i:Nat) (K:Option (Nat × Xab)->Hp->Prop),es.map (fun e=>(e.key,e.val))=D.map (fun p=>(kv p.1,p.2)) ->
  (eY D s=none->K none h)->(∀ j v,j<es.length->eY D s=some v->(es[j]?).map (·.key)=some (kv s)->K (some (i+j,v)) h)->aZ P (Instr.findAsking kt (kv s) es i) h K
 | [],D,i,K,a,h0,h1=>by
  cases D with
  | nil=>exact h0 rfl
  | cons p D=>simp at a
 | e::es,D,i,K,a,h0,h1=>by
  cases D with
  | nil=>simp at a
  | cons p D =>
   simp only [List.map_cons,List.cons.injEq,Prod.mk.injEq] at a;obtain ⟨⟨d,f⟩,g⟩:=a;unfold Instr.findAsking;rw [an,d];refine q.eqv s p.1 h _ ?_
   by_cases b:s=p.1
   ·rw [Y4 b];simp only [if_true]
    have:=h1 0 p.2 aj (by simp [eY,b]) (by simp [d,b])
    rw [f];exact this
   ·rw [Y6 b];simp only [Bool.false_eq_true,if_false];have hl:eY (p::D) s=eY D s:=by simp [eY,b]
    rw [hl] at h0;refine CC q s es D (i+1) K g h0 (fun j v k c hk=>?_)
    have:=h1 (j+1) v (by simp; omega) (by rw [hl]; exact c) (by simpa using hk)
    rw [show i+1+j=i+(j+1) from ad];exact this
def Dm (q:Ck P kt kv) (s:α) {es:List MapEntry} {D:List (α × Xab)} (a:es.map (fun e=>(e.key,e.val))=D.map (fun p=>(kv p.1,p.2))) (K:Option (Nat × Xab)->Hp->Prop)
  (h0:eY D s=none->K none h) (h1:∀ j v,j<es.length->eY D s=some v->(es[j]?).map (·.key)=some (kv s)->K (some (j,v)) h):aZ P (Instr.findKey kt (kv s) es) h K:=by
 obtain ⟨d,b,c⟩:=q.kind;unfold Instr.findKey;rw [an,aE b];cases es with
 | nil =>
  cases D with
  | nil=>exact h0 rfl
  | cons p D=>simp at a
 | cons e es =>
  have hn:Instr.findNow d (kv s) (e::es) 0=none:=by
   cases D with
   | nil=>simp at a
   | cons p D =>
    simp only [List.map_cons,List.cons.injEq,Prod.mk.injEq] at a;unfold Instr.findNow;rw [a.1.1,c]
  rw [hn];refine CC q s (e::es) D 0 K a h0 (fun j v f hl hk=>?_);rw [ZH];exact h1 j v f hl hk
def x8 {t:TypeId} (K:Xab->Hp->Prop) (hk:∀ h',qq kv h' h.size []->Ext h h'->h'.size=h.size+1->K (.map (some h.size)) h'):aZ P (Instr.makeMap t none) h K:=by
 unfold Instr.makeMap;refine hk (h.push (.map #[] 0)) ⟨#[],0,by rw [Array.getElem?_push_size],rfl,⟨aj,aj,aj⟩⟩ (Ext.push h _) aj
def wZ (q:Ck P kt kv) {t e:TypeId} (b:P.underlying t=some (.map kt e)) {z:Xab} (d:(P.info? e).bind (·.zero)=some z) {D:List (α × Xab)} (m:qq kv h H D) (s:α) (c:Bool)
  (K:Xab->Hp->Prop) (a:K (if c then .tuple #[(eY D s).getD z,.bool (eY D s).isSome] else (eY D s).getD z) h):aZ P (Instr.lookup t (.map (some H)) (kv s) c) h K:=by
 obtain ⟨es,clock,f,i,k⟩:=m;unfold Instr.lookup;rw [an,aE b];simp only;rw [an];refine gR f aj _ ?_;simp only [pure_bind];rw [an];refine q.check _ s h _ ?_;rw [an];refine Dm q s i _ (fun hl=>?_) (fun j v l hl hv=>?_)
 ·rw [hl] at a;simp only;rw [an,dL d]
  try simp only [pure_bind]
  cases c <;> exact a
 ·rw [hl] at a;simp only [pure_bind];cases c <;> exact a
def Bu (q:Ck P kt kv) (s:α) (K:Xab->Hp->Prop) (a:K (kv s) h):aZ P (Instr.keyThatStays (kv s) (kv s)) h K:=by
 unfold Instr.keyThatStays;rw [Y8 (q.bits s)];exact a
def tI (q:Ck P kt kv) {t e:TypeId} (Y:P.underlying t=some (.map kt e)) {D:List (α × Xab)} (m:qq kv h H D) (s:α) (v:Xab)
  (K:Unit->Hp->Prop) (R:∀ h',qq kv h' H (zS D s v)->Ch [H] h h'->h'.size=h.size->K () h'):aZ P (Instr.mapUpdate t (.map (some H)) (kv s) v) h K:=by
 have hnd:=qq.nodup q m;obtain ⟨es,clock,F,z,A⟩:=m;have hlt:=fF F;have lI:∀ o:Obj,Ch [H] h (h.setIfInBounds H o)/\(h.setIfInBounds H o).size=h.size/\(h.setIfInBounds H o)[H]?=some o:=by
  intro o;refine ⟨⟨aj,fun i hi S=>?_⟩,aj,?_⟩
  ·rw [ah9,Y1 (by simp at S; exact fun e=>S e.symm)]
  ·rw [ah9,Y8 rfl,Y8 hlt]
 unfold Instr.mapUpdate;rw [an,aE Y];simp only;rw [an];refine gR F aj _ ?_;show aZ P _ h _;rw [an];refine q.check _ s h _ ?_;rw [an];refine Dm q s z _ (fun hl=>?_) (fun j v' U hl hv=>?_)
 ·refine oq F aj _ ?_;obtain ⟨c1,I,c3⟩:=lI (.map (es.push { key:=kv s,val:=v,born:=clock }) (clock+1));refine R _ ⟨_,_,c3,?_,?_⟩ c1 I
  ·rw [zS,hl];simp [z]
  ·have B:(kv s)∉es.toList.map (·.key):=by
    intro V;have h1:es.toList.map (·.key)=D.map (fun p=>kv p.1):=by
     have:=Zg (List.map (·.1)) z
     simpa [List.map_map,Function.comp_def] using this
    rw [h1] at V;obtain ⟨p,Z,hps⟩:=Y9.1 V;have hps:=q.inj _ _ hps;simp only [eY,Option.map_eq_none_iff,List.find?_eq_none,decide_eq_true_eq] at hl;exact hl p Z hps.symm
   obtain ⟨G,J,L⟩:=A;refine ⟨?_,?_,?_⟩
   ·intro x l;simp only [Array.toList_push,List.mem_append,List.mem_singleton] at l;rcases l with l | rfl
    ·have:=G x l; omega
    ·simp
   ·rw [Array.toList_push,Za];refine ZV.2 ⟨J,aj,?_⟩;intro a M b w;have w:b=clock:=by simpa using w
    obtain ⟨x,l,rfl⟩:=Y9.1 M
    have:=G x l
    omega
   ·rw [Array.toList_push,Za];refine ZV.2 ⟨L,aj,?_⟩;intro a M b w;have w:b=kv s:=by simpa using w
    rw [w];exact fun N=>B (N▸M)
 ·have k:es[j]?=some es[j]:=ae9 (by simpa using U);have d:es[j].key=kv s:=by
   have h1:es.toList[j]?=some es[j]:=by rw [an9]; exact k
   rw [h1] at hv;simpa using hv
  show aZ P _ h _;rw [an];have O:((es[j]?).map (·.key)).getD (kv s)=kv s:=by rw [k]; simp [d]
  rw [O];refine Bu q s _ ?_;refine oq F aj _ ?_;obtain ⟨c1,I,c3⟩:=lI (.map (es.modify j fun e=>{ e with key:=kv s,val:=v }) clock);have n:(es.modify j fun e=>{ e with key:=kv s,val:=v }).toList.map (·.key)=es.toList.map (·.key):=by
   apply Z9;intro i;simp only [List.getElem?_map,Array.getElem?_toList,Array.getElem?_modify]
   by_cases c:j=i
   ·subst c;rw [Y8 rfl,k];simp [d]
   ·rw [Y1 c]
  have f:(es.modify j fun e=>{ e with key:=kv s,val:=v }).toList.map (·.born)=es.toList.map (·.born):=by
   apply Z9;intro i;simp only [List.getElem?_map,Array.getElem?_toList,Array.getElem?_modify]
   by_cases c:j=i
   ·subst c;rw [Y8 rfl,k]
    simp
   ·rw [Y1 c]
  have hDl:D.length=es.size:=by
   have:=Zg List.length z
   simpa using this.symm
  have C:∀ i,(hi:i<D.length)->(es[i]'ad).key=kv D[i].1/\(es[i]'ad).val=D[i].2:=by
   intro i hi;have h1:(es.toList.map (fun e=>(e.key,e.val)))[i]?=(D.map (fun p=>(kv p.1,p.2)))[i]?:=by rw [z]
   simp only [List.getElem?_map,Array.getElem?_toList,List.getElem?_eq_getElem hi,Array.getElem?_eq_getElem (show i<es.size from ad),Option.map_some,Option.some.injEq,Prod.mk.injEq] at h1;exact h1
  refine R _ ⟨_,_,c3,?_,?_⟩ c1 I
  ·rw [zS,hl];simp only [Option.isSome_some,if_true];apply Z9;intro i;simp only [List.getElem?_map,Array.getElem?_toList,Array.getElem?_modify];rcases ZP i D.length with hi | hi
   ·obtain ⟨W,q2⟩:=C i hi;rw [YZ hi,ae9 (show i<es.size from ad)]
    by_cases c:j=i
    ·subst c;have r:s=D[j].1:=q.inj _ _ (by rw [<- W,d]);simp [<- r]
    ·have r:s≠D[i].1:=by
      intro X;have u:j<D.length:=by simp at U; omega
      have q3:=(C j u).1;rw [d] at q3;have q3:s=D[j].1:=q.inj _ _ q3
      have:=ag9.1 hnd
      rcases ZP i j with E | E
      ·exact this i j (by simpa using hi) (by simpa using u) E (by simp [<- X,<- q3])
      ·exact this j i (by simpa using u) (by simpa using hi) ad (by simp [<- X,<- q3])
     rw [Y1 c];simp [r,W,q2]
   ·rw [ZC hi,ZY (show es.size<=i from ad)]
    simp
  ·obtain ⟨G,J,L⟩:=A;refine ⟨?_,by rw [f]; exact J,by rw [n]; exact L⟩;intro x l
   have:x.born∈es.toList.map (·.born):=by rw [<- f]; exact Y9.2 ⟨x,l,rfl⟩
   obtain ⟨y,hy,Q⟩:=Y9.1 this;rw [<- Q]; exact G y hy
def zI (f:α->Option β) (s:α) (v:β):α->Option β:=fun t=>if t=s then some v else f t
def A8 (kv:α->Xab) (en:β->Xab) (h:Hp) (g:Nat) (f:α->Option β) (n:Nat):Prop:=∃ D:List (α × β),qq kv h g (D.map fun p=>(p.1,en p.2))/\(∀ s,eY D s=f s)/\D.length=n
variable {en:β->Xab}
def A8.ai {ws:List Nat} {h':Hp} {g:Nat} {f:α->Option β} {n:Nat} (m:A8 kv en h g f n) (k:Ch ws h h') (d:g∉ws):A8 kv en h' g f n:=by
 obtain ⟨D,a,b,c⟩:=m;exact ⟨D,a.ai k d,b,c⟩
def x5 (D:List (α × β)) (s:α):eY (D.map fun p=>(p.1,en p.2)) s=(eY D s).map en:=by
 unfold eY;rw [List.find?_map];simp only [Option.map_map] <;> rfl
def Mt (D:List (α × β)) (s:α) (v:β):zS (D.map fun p=>(p.1,en p.2)) s (en v)=(zS D s v).map fun p=>(p.1,en p.2):=by
 unfold zS;rw [x5,Option.isSome_map];split
 ·rw [Zs,Zs];apply ZR;intro p _;simp only [Function.comp_apply];split <;> rfl
 ·simp
def LH (D:List (α × β)) (s:α) (v:β) (t:α):eY (D++[(s,v)]) t=(eY D t).or (if t=s then some v else none):=by
 unfold eY;rw [List.find?_append];cases b:D.find? (fun p=>decide (t=p.1)) with
 | none =>
  by_cases a:t=s
  ·simp [a]
  ·simp [a]
 | some p=>simp
def AZ {s t:α} (v:β) (e:¬ t=s) (l:List (α × β)):(List.find? (fun p=>decide (t=p.1)) (List.map (fun p=>if s=p.1 then (p.1,v) else p) l)).map (·.2)=(List.find? (fun p=>decide (t=p.1)) l).map (·.2):=by
 induction l with
 | nil=>rfl
 | cons q l a =>
  by_cases b:s=q.1
  ·have:¬ t=q.1:=fun k=>e (k.trans b.symm)
   simp only [List.map_cons,List.find?_cons,if_pos b,decide_eq_false this];exact a
  ·simp only [List.map_cons,List.find?_cons,if_neg b]
   by_cases c:t=q.1
   ·simp [c]
   ·simp only [decide_eq_false c];exact a
def Cj {s:α} (v:β) (D:List (α × β)) (b:(eY D s).isSome):eY (D.map fun p=>if s=p.1 then (p.1,v) else p) s=some v:=by
 unfold eY at *
 induction D with
 | nil=>simp at b
 | cons p D c =>
  by_cases h:s=p.1
  ·simp [h]
  ·have a:(Option.map (fun x=>x.2) (List.find? (fun p=>decide (s=p.1)) D)).isSome:=by
    simpa [List.find?_cons,decide_eq_false h] using b
   simp only [List.map_cons,List.find?_cons,if_neg h,decide_eq_false h];exact c a
def Lr (D:List (α × β)) (s:α) (v:β) (t:α):eY (zS D s v) t=zI (eY D) s v t:=by
 unfold zS zI;split
 ·rename_i a
  by_cases e:t=s
  ·rw [Y8 e,e]; exact Cj v D a
  ·rw [Y1 e]; exact AZ v e D
 ·rename_i a;rw [LH]
  by_cases e:t=s
  ·subst e
   have:eY D t=none:=by simpa using a
   rw [this]; simp
  ·simp [e]
def Qf (D:List (α × β)) (s:α) (v:β):(zS D s v).length=if (eY D s).isSome then D.length else D.length+1:=by
 unfold zS;split <;> simp
section rules
variable {L:Lp} {K:Xab->Hp->Prop}
def Nr {t:TypeId} {k:Option Nat->T} (hk:∀ h',A8 kv en h' h.size (fun _=>none) 0->Ext h h'->h'.size=h.size+1->k (some h.size) L K h'):T.eN P (Instr.makeMap t none) false [(false,[.map 0 0])] k L K h:=by
 show aZ P _ h _;refine x8 (kv:=kv) _ ?_;intro h' m e z;exact ⟨(some h.size,()),rfl,hk h' ⟨[],m,fun s=>rfl,rfl⟩ e z⟩
def Xg (q:Ck P kt kv) {t e:TypeId} (d:P.underlying t=some (.map kt e)) {g n:Nat} {f:α->Option β} (m:A8 kv en h g f n) (s:α) (v:β) {k:T}
  (hk:∀ h',A8 kv en h' g (zI f s v) (if (f s).isSome then n else n+1)->Ch [g] h h'->h'.size=h.size->k L K h'):T.eV P (Instr.mapUpdate t (.map (some g)) (kv s) (en v)) k L K h:=by
 obtain ⟨D,m,a,hn⟩:=m;show aZ P _ h _;refine tI q d m s _ _ ?_;intro h' b c z;rw [Mt] at b;refine hk h' ⟨_,b,fun t=>?_,?_⟩ c z
 ·rw [Lr];unfold zI;split
  ·rfl
  ·exact a t
 ·rw [Qf,a,hn]
end rules
end
end Go.Sx
