/- Part of the framework. No condition. -/
import Derived.Test.YthbffkdafjboiaaGreatDoorSxG
set_option linter.all false
set_option maxHeartbeats 4000000
namespace Go.Sx
open Go.MapKept
section
variable {α β:Type} [DecidableEq α] {P:Program}
structure Bs (P:Program) (kt:TypeId) (kv:α->Xab):Prop where
 check:∀ (b:Bool) (a:α) (h:Hp) (K:Unit->Hp->Prop),K () h->aU P (Instr.checkKey b 10000 kt (kv a)) h K
 kind:∃ d,P.underlying kt=some d/\∀ a b,Instr.sameNow d (kv a) (kv b)=none
 eqv:∀ (a b:α) (h:Hp) (K:Bool->Hp->Prop),K (decide (a=b)) h->aU P (Op.equal kt (kv a) (kv b)) h K
 bits:∀ a,Instr.sameBits 10000 (kv a) (kv a)=true
 inj:∀ a b,kv a=kv b->a=b
def pt (kv:α->Xab) (h:Hp) (g:Nat) (D:List (α × Xab)):Prop :=
 ∃ (es:Array MapEntry) (clock:Nat),h[g]?=some (.map es clock)/\es.toList.map (fun e=>(e.key,e.val))=D.map (fun p=>(kv p.1,p.2))/\Stamped es clock
def eD (D:List (α × β)) (s:α):Option β:=(D.find? fun p=>decide (s=p.1)).map (·.2)
def yQ (D:List (α × β)) (s:α) (v:β):List (α × β) :=
 if (eD D s).isSome then D.map fun p=>if s=p.1 then (p.1,v) else p else D++[(s,v)]
variable {h:Hp} {kt:TypeId} {kv:α->Xab}
def pt.lt {g:Nat} {D:List (α × Xab)} (m:pt kv h g D):g<h.size:=by
 obtain ⟨_,_,d,_⟩:=m;exact fc d
def pt.an {ws:List Nat} {h':Hp} {g:Nat} {D:List (α × Xab)} (m:pt kv h g D) (k:Ch ws h h') (hw:g∉ws):pt kv h' g D:=by
 obtain ⟨es,clock,d,r⟩:=m;exact ⟨es,clock,k.get d hw,r⟩
def pt.nodup (d:Bs P kt kv) {g:Nat} {D:List (α × Xab)} (m:pt kv h g D):(D.map (·.1)).Nodup:=by
 obtain ⟨es,clock,u,j,hs⟩:=m;have h1:es.toList.map (·.key)=D.map (fun p=>kv p.1):=by
  have:=YJ (List.map (·.1)) j
  simpa [List.map_map,Function.comp_def] using this
 have h2:=hs.2.2;rw [h1] at h2;rw [show D.map (fun p=>kv p.1)=(D.map (·.1)).map kv by simp [List.map_map,Function.comp_def]] at h2;exact (Zw.1 h2).imp (fun h e=>h (by rw [e]))
theorem BK (q:Bs P kt kv) (s:α):∀ (es:List MapEntry) (D:List (α × Xab)) (i:Nat) (K:Option (Nat × Xab)->Hp->Prop),es.map (fun e=>(e.key,e.val))=D.map (fun p=>(kv p.1,p.2)) ->
  (eD D s=none->K none h)->(∀ j v,j<es.length->eD D s=some v->(es[j]?).map (·.key)=some (kv s)->K (some (i+j,v)) h)->aU P (Instr.findAsking kt (kv s) es i) h K
 | [],D,i,K,d,h0,h1=>by
  cases D with
  | nil=>exact h0 rfl
  | cons p D=>simp at d
 | e::es,D,i,K,d,h0,h1=>by
  cases D with
  | nil=>simp at d
  | cons p D =>
   simp only [List.map_cons,List.cons.injEq,Prod.mk.injEq] at d;obtain ⟨⟨G,J⟩,O⟩:=d;unfold Instr.findAsking;rw [ao,G];refine q.eqv s p.1 h _ ?_
   by_cases u:s=p.1
   ·rw [YA u];simp only [if_true]
    have:=h1 0 p.2 aj (by simp [eD,u]) (by simp [G,u])
    rw [J];exact this
   ·rw [YB u];simp only [Bool.false_eq_true,if_false];have hl:eD (p::D) s=eD D s:=by simp [eD,u]
    rw [hl] at h0;refine BK q s es D (i+1) K O h0 (fun j v U F hk=>?_)
    have:=h1 (j+1) v (by simp; omega) (by rw [hl]; exact F) (by simpa using hk)
    rw [show i+1+j=i+(j+1) from ad];exact this
def Cv (q:Bs P kt kv) (s:α) {es:List MapEntry} {D:List (α × Xab)} (u:es.map (fun e=>(e.key,e.val))=D.map (fun p=>(kv p.1,p.2))) (K:Option (Nat × Xab)->Hp->Prop)
  (h0:eD D s=none->K none h) (h1:∀ j v,j<es.length->eD D s=some v->(es[j]?).map (·.key)=some (kv s)->K (some (j,v)) h):aU P (Instr.findKey kt (kv s) es) h K:=by
 obtain ⟨d,F,hs⟩:=q.kind;unfold Instr.findKey;rw [ao,aF F];cases es with
 | nil =>
  cases D with
  | nil=>exact h0 rfl
  | cons p D=>simp at u
 | cons e es =>
  have hn:Instr.findNow d (kv s) (e::es) 0=none:=by
   cases D with
   | nil=>simp at u
   | cons p D =>
    simp only [List.map_cons,List.cons.injEq,Prod.mk.injEq] at u;unfold Instr.findNow;rw [u.1.1,hs]
  rw [hn];refine BK q s (e::es) D 0 K u h0 (fun j v G hl hk=>?_);rw [Y7];exact h1 j v G hl hk
def wT {t:TypeId} (K:Xab->Hp->Prop) (hk:∀ h',pt kv h' h.size []->Ext h h'->h'.size=h.size+1->K (.map (some h.size)) h'):aU P (Instr.makeMap t none) h K:=by
 unfold Instr.makeMap;refine hk (h.push (.map #[] 0)) ⟨#[],0,by rw [Array.getElem?_push_size],rfl,⟨aj,aj,aj⟩⟩ (Ext.push h _) aj
def vG (q:Bs P kt kv) {t e:TypeId} (u:P.underlying t=some (.map kt e)) {z:Xab} (F:(P.info? e).bind (·.zero)=some z) {g:Nat} {D:List (α × Xab)} (m:pt kv h g D) (s:α) (c:Bool)
  (K:Xab->Hp->Prop) (d:K (if c then .tuple #[(eD D s).getD z,.bool (eD D s).isSome] else (eD D s).getD z) h):aU P (Instr.lookup t (.map (some g)) (kv s) c) h K:=by
 obtain ⟨es,clock,G,J,hs⟩:=m;unfold Instr.lookup;rw [ao,aF u];simp only;rw [ao];refine fW G aj _ ?_;simp only [pure_bind];rw [ao];refine q.check _ s h _ ?_;rw [ao];refine Cv q s J _ (fun hl=>?_) (fun j v O hl hv=>?_)
 ·rw [hl] at d;simp only;rw [ao,dr F]
  try simp only [pure_bind]
  cases c <;> exact d
 ·rw [hl] at d;simp only [pure_bind];cases c <;> exact d
def AG (q:Bs P kt kv) (s:α) (K:Xab->Hp->Prop) (d:K (kv s) h):aU P (Instr.keyThatStays (kv s) (kv s)) h K:=by
 unfold Instr.keyThatStays;rw [YC (q.bits s)];exact d
def rZ (q:Bs P kt kv) {t e:TypeId} (ht:P.underlying t=some (.map kt e)) {g:Nat} {D:List (α × Xab)} (m:pt kv h g D) (s:α) (v:Xab)
  (K:Unit->Hp->Prop) (hK:∀ h',pt kv h' g (yQ D s v)->Ch [g] h h'->h'.size=h.size->K () h'):aU P (Instr.mapUpdate t (.map (some g)) (kv s) v) h K:=by
 have hnd:=pt.nodup q m;obtain ⟨es,clock,hg,Y,Z⟩:=m;have hlt:=fc hg;have la:∀ o:Obj,Ch [g] h (h.setIfInBounds g o)/\(h.setIfInBounds g o).size=h.size/\(h.setIfInBounds g o)[g]?=some o:=by
  intro o;refine ⟨⟨aj,fun i hi hw=>?_⟩,aj,?_⟩
  ·rw [ZI,Yx (by simp at hw; exact fun e=>hw e.symm)]
  ·rw [ZI,YC rfl,YC hlt]
 unfold Instr.mapUpdate;rw [ao,aF ht];simp only;rw [ao];refine fW hg aj _ ?_;show aU P _ h _;rw [ao];refine q.check _ s h _ ?_;rw [ao];refine Cv q s Y _ (fun hl=>?_) (fun j v' hj hl hv=>?_)
 ·refine nr hg aj _ ?_;obtain ⟨c1,c2,c3⟩:=la (.map (es.push { key:=kv s,val:=v,born:=clock }) (clock+1));refine hK _ ⟨_,_,c3,?_,?_⟩ c1 c2
  ·rw [yQ,hl];simp [Y]
  ·have hnew:(kv s)∉es.toList.map (·.key):=by
    intro hm;have h1:es.toList.map (·.key)=D.map (fun p=>kv p.1):=by
     have:=YJ (List.map (·.1)) Y
     simpa [List.map_map,Function.comp_def] using this
    rw [h1] at hm;obtain ⟨p,hp,J⟩:=YF.1 hm;have J:=q.inj _ _ J;simp only [eD,Option.map_eq_none_iff,List.find?_eq_none,decide_eq_true_eq] at hl;exact hl p hp J.symm
   obtain ⟨s1,s2,s3⟩:=Z;refine ⟨?_,?_,?_⟩
   ·intro x hx;simp only [Array.toList_push,List.mem_append,List.mem_singleton] at hx;rcases hx with hx | rfl
    ·have:=s1 x hx; omega
    ·simp
   ·rw [Array.toList_push,YH];refine Zr.2 ⟨s2,aj,?_⟩;intro a ha b X;have X:b=clock:=by simpa using X
    obtain ⟨x,hx,rfl⟩:=YF.1 ha
    have:=s1 x hx
    omega
   ·rw [Array.toList_push,YH];refine Zr.2 ⟨s3,aj,?_⟩;intro a ha b X;have X:b=kv s:=by simpa using X
    rw [X];exact fun hab=>hnew (hab▸ha)
 ·have G:es[j]?=some es[j]:=ZG (by simpa using hj);have u:es[j].key=kv s:=by
   have h1:es.toList[j]?=some es[j]:=by rw [ZO]; exact G
   rw [h1] at hv;simpa using hv
  show aU P _ h _;rw [ao];have hk2:((es[j]?).map (·.key)).getD (kv s)=kv s:=by rw [G]; simp [u]
  rw [hk2];refine AG q s _ ?_;refine nr hg aj _ ?_;obtain ⟨c1,c2,c3⟩:=la (.map (es.modify j fun e=>{ e with key:=kv s,val:=v }) clock);have O:(es.modify j fun e=>{ e with key:=kv s,val:=v }).toList.map (·.key)=es.toList.map (·.key):=by
   apply ZF;intro i;simp only [List.getElem?_map,Array.getElem?_toList,Array.getElem?_modify]
   by_cases d:j=i
   ·subst d;rw [YC rfl,G];simp [u]
   ·rw [Yx d]
  have F:(es.modify j fun e=>{ e with key:=kv s,val:=v }).toList.map (·.born)=es.toList.map (·.born):=by
   apply ZF;intro i;simp only [List.getElem?_map,Array.getElem?_toList,Array.getElem?_modify]
   by_cases d:j=i
   ·subst d;rw [YC rfl,G]
    simp
   ·rw [Yx d]
  have hDl:D.length=es.size:=by
   have:=YJ List.length Y
   simpa using this.symm
  have hDk:∀ i,(hi:i<D.length)->(es[i]'ad).key=kv D[i].1/\(es[i]'ad).val=D[i].2:=by
   intro i hi;have h1:(es.toList.map (fun e=>(e.key,e.val)))[i]?=(D.map (fun p=>(kv p.1,p.2)))[i]?:=by rw [Y]
   simp only [List.getElem?_map,Array.getElem?_toList,List.getElem?_eq_getElem hi,Array.getElem?_eq_getElem (show i<es.size from ad),Option.map_some,Option.some.injEq,Prod.mk.injEq] at h1;exact h1
  refine hK _ ⟨_,_,c3,?_,?_⟩ c1 c2
  ·rw [yQ,hl];simp only [Option.isSome_some,if_true];apply ZF;intro i;simp only [List.getElem?_map,Array.getElem?_toList,Array.getElem?_modify];rcases Zn i D.length with hi | hi
   ·obtain ⟨q1,q2⟩:=hDk i hi;rw [Yv hi,ZG (show i<es.size from ad)]
    by_cases d:j=i
    ·subst d;have U:s=D[j].1:=q.inj _ _ (by rw [<- q1,u]);simp [<- U]
    ·have U:s≠D[i].1:=by
      intro hh;have V:j<D.length:=by simp at hj; omega
      have q3:=(hDk j V).1;rw [u] at q3;have q3:s=D[j].1:=q.inj _ _ q3
      have:=am9.1 hnd
      rcases Zn i j with hl' | hl'
      ·exact this i j (by simpa using hi) (by simpa using V) hl' (by simp [<- hh,<- q3])
      ·exact this j i (by simpa using V) (by simpa using hi) ad (by simp [<- hh,<- q3])
     rw [Yx d];simp [U,q1,q2]
   ·rw [Y9 hi,Zt (show es.size<=i from ad)]
    simp
  ·obtain ⟨s1,s2,s3⟩:=Z;refine ⟨?_,by rw [F]; exact s2,by rw [O]; exact s3⟩;intro x hx
   have:x.born∈es.toList.map (·.born):=by rw [<- F]; exact YF.2 ⟨x,hx,rfl⟩
   obtain ⟨y,hy,hyb⟩:=YF.1 this;rw [<- hyb]; exact s1 y hy
def yD (f:α->Option β) (s:α) (v:β):α->Option β:=fun t=>if t=s then some v else f t
def Ab (kv:α->Xab) (en:β->Xab) (h:Hp) (g:Nat) (f:α->Option β) (n:Nat):Prop:=∃ D:List (α × β),pt kv h g (D.map fun p=>(p.1,en p.2))/\(∀ s,eD D s=f s)/\D.length=n
variable {en:β->Xab}
def Ab.an {ws:List Nat} {h':Hp} {g:Nat} {f:α->Option β} {n:Nat} (m:Ab kv en h g f n) (k:Ch ws h h') (hw:g∉ws):Ab kv en h' g f n:=by
 obtain ⟨D,a,b,c⟩:=m;exact ⟨D,a.an k hw,b,c⟩
def wQ (D:List (α × β)) (s:α):eD (D.map fun p=>(p.1,en p.2)) s=(eD D s).map en:=by
 unfold eD;rw [List.find?_map];simp only [Option.map_map] <;> rfl
def Lo (D:List (α × β)) (s:α) (v:β):yQ (D.map fun p=>(p.1,en p.2)) s (en v)=(yQ D s v).map fun p=>(p.1,en p.2):=by
 unfold yQ;rw [wQ,Option.isSome_map];split
 ·rw [YY,YY];apply Zm;intro p _;simp only [Function.comp_apply];split <;> rfl
 ·simp
def KC (D:List (α × β)) (s:α) (v:β) (t:α):eD (D++[(s,v)]) t=(eD D t).or (if t=s then some v else none):=by
 unfold eD;rw [Z9];cases j:D.find? (fun p=>decide (t=p.1)) with
 | none =>
  by_cases d:t=s
  ·simp [d]
  ·simp [d]
 | some p=>simp
def zR {s t:α} (v:β) (e:¬ t=s) (l:List (α × β)):(List.find? (fun p=>decide (t=p.1)) (List.map (fun p=>if s=p.1 then (p.1,v) else p) l)).map (·.2)=(List.find? (fun p=>decide (t=p.1)) l).map (·.2):=by
 induction l with
 | nil=>rfl
 | cons q l d =>
  by_cases j:s=q.1
  ·have:¬ t=q.1:=fun k=>e (k.trans j.symm)
   simp only [List.map_cons,List.find?_cons,if_pos j,decide_eq_false this];exact d
  ·simp only [List.map_cons,List.find?_cons,if_neg j]
   by_cases u:t=q.1
   ·simp [u]
   ·simp only [decide_eq_false u];exact d
def Br {s:α} (v:β) (D:List (α × β)) (hs:(eD D s).isSome):eD (D.map fun p=>if s=p.1 then (p.1,v) else p) s=some v:=by
 unfold eD at *
 induction D with
 | nil=>simp at hs
 | cons p D j =>
  by_cases h:s=p.1
  ·simp [h]
  ·have d:(Option.map (fun x=>x.2) (List.find? (fun p=>decide (s=p.1)) D)).isSome:=by
    simpa [List.find?_cons,decide_eq_false h] using hs
   simp only [List.map_cons,List.find?_cons,if_neg h,decide_eq_false h];exact j d
def Km (D:List (α × β)) (s:α) (v:β) (t:α):eD (yQ D s v) t=yD (eD D) s v t:=by
 unfold yQ yD;split
 ·rename_i hs
  by_cases e:t=s
  ·rw [YC e,e]; exact Br v D hs
  ·rw [Yx e]; exact zR v e D
 ·rename_i hs;rw [KC]
  by_cases e:t=s
  ·subst e
   have:eD D t=none:=by simpa using hs
   rw [this]; simp
  ·simp [e]
def Pq (D:List (α × β)) (s:α) (v:β):(yQ D s v).length=if (eD D s).isSome then D.length else D.length+1:=by
 unfold yQ;split <;> simp
section rules
variable {L:Lp} {K:Xab->Hp->Prop}
def Mq {t:TypeId} {k:Option Nat->T} (hk:∀ h',Ab kv en h' h.size (fun _=>none) 0->Ext h h'->h'.size=h.size+1->k (some h.size) L K h'):T.ek P (Instr.makeMap t none) false [(false,[.map 0 0])] k L K h:=by
 show aU P _ h _;refine wT (kv:=kv) _ ?_;intro h' m e z;exact ⟨(some h.size,()),rfl,hk h' ⟨[],m,fun s=>rfl,rfl⟩ e z⟩
def WH (q:Bs P kt kv) {t e:TypeId} (j:P.underlying t=some (.map kt e)) {g n:Nat} {f:α->Option β} (m:Ab kv en h g f n) (s:α) (v:β) {k:T}
  (hk:∀ h',Ab kv en h' g (yD f s v) (if (f s).isSome then n else n+1)->Ch [g] h h'->h'.size=h.size->k L K h'):T.ey P (Instr.mapUpdate t (.map (some g)) (kv s) (en v)) k L K h:=by
 obtain ⟨D,m,d,hn⟩:=m;show aU P _ h _;refine rZ q j m s _ _ ?_;intro h' m' c z;rw [Lo] at m';refine hk h' ⟨_,m',fun t=>?_,?_⟩ c z
 ·rw [Km];unfold yD;split
  ·rfl
  ·exact d t
 ·rw [Pq,d,hn]
end rules
end
end Go.Sx
