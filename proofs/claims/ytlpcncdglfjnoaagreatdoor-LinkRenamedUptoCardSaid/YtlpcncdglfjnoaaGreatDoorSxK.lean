/- Part of the framework. No condition. -/
import Derived.Test.YtlpcncdglfjnoaaGreatDoorSxG
set_option linter.all false
set_option maxHeartbeats 4000000
namespace Go.Sx
open Go.MapKept
section
variable {α β:Type} [DecidableEq α] {P:Program}
structure As (P:Program) (kt:TypeId) (kv:α->XB):Prop where
 check:∀ (b:Bool) (a:α) (h:Hp) (K:Unit->Hp->Prop),K () h->aI P (Instr.checkKey b 10000 kt (kv a)) h K
 kind:∃ d,P.underlying kt=some d/\∀ a b,Instr.sameNow d (kv a) (kv b)=none
 eqv:∀ (a b:α) (h:Hp) (K:Bool->Hp->Prop),K (decide (a=b)) h->aI P (Op.equal kt (kv a) (kv b)) h K
 bits:∀ a,Instr.sameBits 10000 (kv a) (kv a)=true
 inj:∀ a b,kv a=kv b->a=b
def om (kv:α->XB) (h:Hp) (g:Nat) (D:List (α × XB)):Prop :=
 ∃ (es:Array MapEntry) (clock:Nat),h[g]?=some (.map es clock)/\es.toList.map (fun e=>(e.key,e.val))=D.map (fun p=>(kv p.1,p.2))/\Stamped es clock
def ep (D:List (α × β)) (s:α):Option β:=(D.find? fun p=>decide (s=p.1)).map (·.2)
def yb (D:List (α × β)) (s:α) (v:β):List (α × β) :=
 if (ep D s).isSome then D.map fun p=>if s=p.1 then (p.1,v) else p else D++[(s,v)]
variable {h:Hp} {kt:TypeId} {kv:α->XB}
variable {H:Nat}
def om.lt {D:List (α × XB)} (m:om kv h H D):H<h.size:=by
 obtain ⟨_,_,a,_⟩:=m;exact fq a
def om.af {ws:List Nat} {h':Hp} {D:List (α × XB)} (m:om kv h H D) (k:Ch ws h h') (a:H∉ws):om kv h' H D:=by
 obtain ⟨es,clock,b,r⟩:=m;exact ⟨es,clock,k.get b a,r⟩
def om.nodup (a:As P kt kv) {g:Nat} {D:List (α × XB)} (m:om kv h g D):(D.map (·.1)).Nodup:=by
 obtain ⟨es,clock,d,b,c⟩:=m;have h1:es.toList.map (·.key)=D.map (fun p=>kv p.1):=by
  have:=VO (List.map (·.1)) b
  simpa [List.map_map,Function.comp_def] using this
 have h2:=c.2.2;rw [h1] at h2;rw [show D.map (fun p=>kv p.1)=(D.map (·.1)).map kv by simp [List.map_map,Function.comp_def]] at h2;exact (Wl.1 h2).imp (fun h e=>h (by rw [e]))
theorem AI (q:As P kt kv) (s:α):∀ (es:List MapEntry) (D:List (α × XB)) (i:Nat) (K:Option (Nat × XB)->Hp->Prop),es.map (fun e=>(e.key,e.val))=D.map (fun p=>(kv p.1,p.2)) ->
  (ep D s=none->K none h)->(∀ j v,j<es.length->ep D s=some v->(es[j]?).map (·.key)=some (kv s)->K (some (i+j,v)) h)->aI P (Instr.findAsking kt (kv s) es i) h K
 | [],D,i,K,a,h0,h1=>by
  cases D with
  | nil=>exact h0 rfl
  | cons p D=>simp at a
 | e::es,D,i,K,a,h0,h1=>by
  cases D with
  | nil=>simp at a
  | cons p D =>
   simp only [List.map_cons,List.cons.injEq,Prod.mk.injEq] at a;obtain ⟨⟨d,f⟩,g⟩:=a;unfold Instr.findAsking;rw [al,d];refine q.eqv s p.1 h _ ?_
   by_cases b:s=p.1
   ·rw [Vw b];simp only [if_true]
    have:=h1 0 p.2 ah (by simp [ep,b]) (by simp [d,b])
    rw [f];exact this
   ·rw [Vx b];simp only [Bool.false_eq_true,if_false];have hl:ep (p::D) s=ep D s:=by simp [ep,b]
    rw [hl] at h0;refine AI q s es D (i+1) K g h0 (fun j v k c hk=>?_)
    have:=h1 (j+1) v (by simp; omega) (by rw [hl]; exact c) (by simpa using hk)
    rw [show i+1+j=i+(j+1) from ad];exact this
def Bo (q:As P kt kv) (s:α) {es:List MapEntry} {D:List (α × XB)} (a:es.map (fun e=>(e.key,e.val))=D.map (fun p=>(kv p.1,p.2))) (K:Option (Nat × XB)->Hp->Prop)
  (h0:ep D s=none->K none h) (h1:∀ j v,j<es.length->ep D s=some v->(es[j]?).map (·.key)=some (kv s)->K (some (j,v)) h):aI P (Instr.findKey kt (kv s) es) h K:=by
 obtain ⟨d,b,c⟩:=q.kind;unfold Instr.findKey;rw [al,au b];cases es with
 | nil =>
  cases D with
  | nil=>exact h0 rfl
  | cons p D=>simp at a
 | cons e es =>
  have hn:Instr.findNow d (kv s) (e::es) 0=none:=by
   cases D with
   | nil=>simp at a
   | cons p D =>
    simp only [List.map_cons,List.cons.injEq,Prod.mk.injEq] at a;unfold Instr.findNow;rw [a.1.1,c]
  rw [hn];refine AI q s (e::es) D 0 K a h0 (fun j v f hl hk=>?_);rw [V9];exact h1 j v f hl hk
def wh {t:TypeId} (K:XB->Hp->Prop) (hk:∀ h',om kv h' h.size []->Ext h h'->h'.size=h.size+1->K (.map (some h.size)) h'):aI P (Instr.makeMap t none) h K:=by
 unfold Instr.makeMap;refine hk (h.push (.map #[] 0)) ⟨#[],0,by rw [Array.getElem?_push_size],rfl,⟨ah,ah,ah⟩⟩ (Ext.push h _) ah
def uE (q:As P kt kv) {t e:TypeId} (b:P.underlying t=some (.map kt e)) {z:XB} (d:(P.info? e).bind (·.zero)=some z) {D:List (α × XB)} (m:om kv h H D) (s:α) (c:Bool)
  (K:XB->Hp->Prop) (a:K (if c then .tuple #[(ep D s).getD z,.bool (ep D s).isSome] else (ep D s).getD z) h):aI P (Instr.lookup t (.map (some H)) (kv s) c) h K:=by
 obtain ⟨es,clock,f,i,k⟩:=m;unfold Instr.lookup;rw [al,au b];simp only;rw [al];refine fG f ah _ ?_;simp only [pure_bind];rw [al];refine q.check _ s h _ ?_;rw [al];refine Bo q s i _ (fun hl=>?_) (fun j v l hl hv=>?_)
 ·rw [hl] at a;simp only;rw [al,dp d]
  try simp only [pure_bind]
  cases c <;> exact a
 ·rw [hl] at a;simp only [pure_bind];cases c <;> exact a
def zI (q:As P kt kv) (s:α) (K:XB->Hp->Prop) (a:K (kv s) h):aI P (Instr.keyThatStays (kv s) (kv s)) h K:=by
 unfold Instr.keyThatStays;rw [VE (q.bits s)];exact a
def qV (q:As P kt kv) {t e:TypeId} (Y:P.underlying t=some (.map kt e)) {D:List (α × XB)} (m:om kv h H D) (s:α) (v:XB)
  (K:Unit->Hp->Prop) (R:∀ h',om kv h' H (yb D s v)->Ch [H] h h'->h'.size=h.size->K () h'):aI P (Instr.mapUpdate t (.map (some H)) (kv s) v) h K:=by
 have hnd:=om.nodup q m;obtain ⟨es,clock,F,z,A⟩:=m;have hlt:=fq F;have iC:∀ o:Obj,Ch [H] h (h.setIfInBounds H o)/\(h.setIfInBounds H o).size=h.size/\(h.setIfInBounds H o)[H]?=some o:=by
  intro o;refine ⟨⟨ah,fun i hi S=>?_⟩,ah,?_⟩
  ·rw [WC,Vu (by simp at S; exact fun e=>S e.symm)]
  ·rw [WC,VE rfl,VE hlt]
 unfold Instr.mapUpdate;rw [al,au Y];simp only;rw [al];refine fG F ah _ ?_;show aI P _ h _;rw [al];refine q.check _ s h _ ?_;rw [al];refine Bo q s z _ (fun hl=>?_) (fun j v' U hl hv=>?_)
 ·refine mi F ah _ ?_;obtain ⟨c1,I,c3⟩:=iC (.map (es.push { key:=kv s,val:=v,born:=clock }) (clock+1));refine R _ ⟨_,_,c3,?_,?_⟩ c1 I
  ·rw [yb,hl];simp [z]
  ·have B:(kv s)∉es.toList.map (·.key):=by
    intro V;have h1:es.toList.map (·.key)=D.map (fun p=>kv p.1):=by
     have:=VO (List.map (·.1)) z
     simpa [List.map_map,Function.comp_def] using this
    rw [h1] at V;obtain ⟨p,Z,hps⟩:=Vy.1 V;have hps:=q.inj _ _ hps;simp only [ep,Option.map_eq_none_iff,List.find?_eq_none,decide_eq_true_eq] at hl;exact hl p Z hps.symm
   obtain ⟨G,J,L⟩:=A;refine ⟨?_,?_,?_⟩
   ·intro x l;simp only [Array.toList_push,List.mem_append,List.mem_singleton] at l;rcases l with l | rfl
    ·have:=G x l; omega
    ·simp
   ·rw [Array.toList_push,VB];refine Wm.2 ⟨J,ah,?_⟩;intro a M b w;have w:b=clock:=by simpa using w
    obtain ⟨x,l,rfl⟩:=Vy.1 M
    have:=G x l
    omega
   ·rw [Array.toList_push,VB];refine Wm.2 ⟨L,ah,?_⟩;intro a M b w;have w:b=kv s:=by simpa using w
    rw [w];exact fun N=>B (N▸M)
 ·have k:es[j]?=some es[j]:=WB (by simpa using U);have d:es[j].key=kv s:=by
   have h1:es.toList[j]?=some es[j]:=by rw [WE]; exact k
   rw [h1] at hv;simpa using hv
  show aI P _ h _;rw [al];have O:((es[j]?).map (·.key)).getD (kv s)=kv s:=by rw [k]; simp [d]
  rw [O];refine zI q s _ ?_;refine mi F ah _ ?_;obtain ⟨c1,I,c3⟩:=iC (.map (es.modify j fun e=>{ e with key:=kv s,val:=v }) clock);have n:(es.modify j fun e=>{ e with key:=kv s,val:=v }).toList.map (·.key)=es.toList.map (·.key):=by
   apply WA;intro i;simp only [List.getElem?_map,Array.getElem?_toList,Array.getElem?_modify]
   by_cases c:j=i
   ·subst c;rw [VE rfl,k];simp [d]
   ·rw [Vu c]
  have f:(es.modify j fun e=>{ e with key:=kv s,val:=v }).toList.map (·.born)=es.toList.map (·.born):=by
   apply WA;intro i;simp only [List.getElem?_map,Array.getElem?_toList,Array.getElem?_modify]
   by_cases c:j=i
   ·subst c;rw [VE rfl,k]
    simp
   ·rw [Vu c]
  have hDl:D.length=es.size:=by
   have:=VO List.length z
   simpa using this.symm
  have C:∀ i,(hi:i<D.length)->(es[i]'ad).key=kv D[i].1/\(es[i]'ad).val=D[i].2:=by
   intro i hi;have h1:(es.toList.map (fun e=>(e.key,e.val)))[i]?=(D.map (fun p=>(kv p.1,p.2)))[i]?:=by rw [z]
   simp only [List.getElem?_map,Array.getElem?_toList,List.getElem?_eq_getElem hi,Array.getElem?_eq_getElem (show i<es.size from ad),Option.map_some,Option.some.injEq,Prod.mk.injEq] at h1;exact h1
  refine R _ ⟨_,_,c3,?_,?_⟩ c1 I
  ·rw [yb,hl];simp only [Option.isSome_some,if_true];apply WA;intro i;simp only [List.getElem?_map,Array.getElem?_toList,Array.getElem?_modify];rcases Wo i D.length with hi | hi
   ·obtain ⟨W,q2⟩:=C i hi;rw [VC hi,WB (show i<es.size from ad)]
    by_cases c:j=i
    ·subst c;have r:s=D[j].1:=q.inj _ _ (by rw [<- W,d]);simp [<- r]
    ·have r:s≠D[i].1:=by
      intro X;have u:j<D.length:=by simp at U; omega
      have q3:=(C j u).1;rw [d] at q3;have q3:s=D[j].1:=q.inj _ _ q3
      have:=W5.1 hnd
      rcases Wo i j with E | E
      ·exact this i j (by simpa using hi) (by simpa using u) E (by simp [<- X,<- q3])
      ·exact this j i (by simpa using u) (by simpa using hi) ad (by simp [<- X,<- q3])
     rw [Vu c];simp [r,W,q2]
   ·rw [V5 hi,Wp (show es.size<=i from ad)]
    simp
  ·obtain ⟨G,J,L⟩:=A;refine ⟨?_,by rw [f]; exact J,by rw [n]; exact L⟩;intro x l
   have:x.born∈es.toList.map (·.born):=by rw [<- f]; exact Vy.2 ⟨x,l,rfl⟩
   obtain ⟨y,hy,Q⟩:=Vy.1 this;rw [<- Q]; exact G y hy
def xU (f:α->Option β) (s:α) (v:β):α->Option β:=fun t=>if t=s then some v else f t
def zk (kv:α->XB) (en:β->XB) (h:Hp) (g:Nat) (f:α->Option β) (n:Nat):Prop:=∃ D:List (α × β),om kv h g (D.map fun p=>(p.1,en p.2))/\(∀ s,ep D s=f s)/\D.length=n
variable {en:β->XB}
def zk.af {ws:List Nat} {h':Hp} {g:Nat} {f:α->Option β} {n:Nat} (m:zk kv en h g f n) (k:Ch ws h h') (d:g∉ws):zk kv en h' g f n:=by
 obtain ⟨D,a,b,c⟩:=m;exact ⟨D,a.af k d,b,c⟩
def we (D:List (α × β)) (s:α):ep (D.map fun p=>(p.1,en p.2)) s=(ep D s).map en:=by
 unfold ep;rw [List.find?_map];simp only [Option.map_map] <;> rfl
def JJ (D:List (α × β)) (s:α) (v:β):yb (D.map fun p=>(p.1,en p.2)) s (en v)=(yb D s v).map fun p=>(p.1,en p.2):=by
 unfold yb;rw [we,Option.isSome_map];split
 ·rw [VN,VN];apply V4;intro p _;simp only [Function.comp_apply];split <;> rfl
 ·simp
def I1 (D:List (α × β)) (s:α) (v:β) (t:α):ep (D++[(s,v)]) t=(ep D t).or (if t=s then some v else none):=by
 unfold ep;rw [List.find?_append];cases b:D.find? (fun p=>decide (t=p.1)) with
 | none =>
  by_cases a:t=s
  ·simp [a]
  ·simp [a]
 | some p=>simp
def zb {s t:α} (v:β) (e:¬ t=s) (l:List (α × β)):(List.find? (fun p=>decide (t=p.1)) (List.map (fun p=>if s=p.1 then (p.1,v) else p) l)).map (·.2)=(List.find? (fun p=>decide (t=p.1)) l).map (·.2):=by
 induction l with
 | nil=>rfl
 | cons q l a =>
  by_cases b:s=q.1
  ·have:¬ t=q.1:=fun k=>e (k.trans b.symm)
   simp only [List.map_cons,List.find?_cons,if_pos b,decide_eq_false this];exact a
  ·simp only [List.map_cons,List.find?_cons,if_neg b]
   by_cases c:t=q.1
   ·simp [c]
   ·simp only [decide_eq_false c];exact a
def Aq {s:α} (v:β) (D:List (α × β)) (b:(ep D s).isSome):ep (D.map fun p=>if s=p.1 then (p.1,v) else p) s=some v:=by
 unfold ep at *
 induction D with
 | nil=>simp at b
 | cons p D c =>
  by_cases h:s=p.1
  ·simp [h]
  ·have a:(Option.map (fun x=>x.2) (List.find? (fun p=>decide (s=p.1)) D)).isSome:=by
    simpa [List.find?_cons,decide_eq_false h] using b
   simp only [List.map_cons,List.find?_cons,if_neg h,decide_eq_false h];exact c a
def IR (D:List (α × β)) (s:α) (v:β) (t:α):ep (yb D s v) t=xU (ep D) s v t:=by
 unfold yb xU;split
 ·rename_i a
  by_cases e:t=s
  ·rw [VE e,e]; exact Aq v D a
  ·rw [Vu e]; exact zb v e D
 ·rename_i a;rw [I1]
  by_cases e:t=s
  ·subst e
   have:ep D t=none:=by simpa using a
   rw [this]; simp
  ·simp [e]
def Ns (D:List (α × β)) (s:α) (v:β):(yb D s v).length=if (ep D s).isSome then D.length else D.length+1:=by
 unfold yb;split <;> simp
section rules
variable {L:Lp} {K:XB->Hp->Prop}
def KD {t:TypeId} {k:Option Nat->T} (hk:∀ h',zk kv en h' h.size (fun _=>none) 0->Ext h h'->h'.size=h.size+1->k (some h.size) L K h'):T.eK P (Instr.makeMap t none) false [(false,[.map 0 0])] k L K h:=by
 show aI P _ h _;refine wh (kv:=kv) _ ?_;intro h' m e z;exact ⟨(some h.size,()),rfl,hk h' ⟨[],m,fun s=>rfl,rfl⟩ e z⟩
def TJ (q:As P kt kv) {t e:TypeId} (d:P.underlying t=some (.map kt e)) {g n:Nat} {f:α->Option β} (m:zk kv en h g f n) (s:α) (v:β) {k:T}
  (hk:∀ h',zk kv en h' g (xU f s v) (if (f s).isSome then n else n+1)->Ch [g] h h'->h'.size=h.size->k L K h'):T.ek P (Instr.mapUpdate t (.map (some g)) (kv s) (en v)) k L K h:=by
 obtain ⟨D,m,a,hn⟩:=m;show aI P _ h _;refine qV q d m s _ _ ?_;intro h' b c z;rw [JJ] at b;refine hk h' ⟨_,b,fun t=>?_,?_⟩ c z
 ·rw [IR];unfold xU;split
  ·rfl
  ·exact a t
 ·rw [Ns,a,hn]
end rules
end
end Go.Sx
