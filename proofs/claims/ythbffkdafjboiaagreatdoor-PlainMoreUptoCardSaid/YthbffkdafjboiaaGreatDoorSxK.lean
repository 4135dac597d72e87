/- Part of the framework. No condition. -/
import Derived.Test.YthbffkdafjboiaaGreatDoorSxG
set_option linter.all false
set_option maxHeartbeats 4000000
namespace Go.Sx
open Go.MapKept
section
variable {α β:Type} [DecidableEq α] {P:Program}
structure A9 (P:Program) (kt:TypeId) (kv:α->Xab):Prop where
 check:∀ (b:Bool) (a:α) (h:Hp) (K:Unit->Hp->Prop),K () h->aS P (Instr.checkKey b 10000 kt (kv a)) h K
 kind:∃ d,P.underlying kt=some d/\∀ a b,Instr.sameNow d (kv a) (kv b)=none
 eqv:∀ (a b:α) (h:Hp) (K:Bool->Hp->Prop),K (decide (a=b)) h->aS P (Op.equal kt (kv a) (kv b)) h K
 bits:∀ a,Instr.sameBits 10000 (kv a) (kv a)=true
 inj:∀ a b,kv a=kv b->a=b
def oR (kv:α->Xab) (h:Hp) (g:Nat) (D:List (α × Xab)):Prop :=
 ∃ (es:Array MapEntry) (clock:Nat),h[g]?=some (.map es clock)/\es.toList.map (fun e=>(e.key,e.val))=D.map (fun p=>(kv p.1,p.2))/\Stamped es clock
def eE (D:List (α × β)) (s:α):Option β:=(D.find? fun p=>decide (s=p.1)).map (·.2)
def yC (D:List (α × β)) (s:α) (v:β):List (α × β) :=
 if (eE D s).isSome then D.map fun p=>if s=p.1 then (p.1,v) else p else D++[(s,v)]
variable {h:Hp} {kt:TypeId} {kv:α->Xab}
def oR.lt {g:Nat} {D:List (α × Xab)} (m:oR kv h g D):g<h.size:=by
 obtain ⟨_,_,j,_⟩:=m;exact fj j
def oR.ak {ws:List Nat} {h':Hp} {g:Nat} {D:List (α × Xab)} (m:oR kv h g D) (k:Ch ws h h') (hw:g∉ws):oR kv h' g D:=by
 obtain ⟨es,clock,j,r⟩:=m;exact ⟨es,clock,k.get j hw,r⟩
def oR.nodup (j:A9 P kt kv) {g:Nat} {D:List (α × Xab)} (m:oR kv h g D):(D.map (·.1)).Nodup:=by
 obtain ⟨es,clock,G,u,hs⟩:=m;have h1:es.toList.map (·.key)=D.map (fun p=>kv p.1):=by
  have:=Zl (List.map (·.1)) u
  simpa [List.map_map,Function.comp_def] using this
 have h2:=hs.2.2;rw [h1] at h2;rw [show D.map (fun p=>kv p.1)=(D.map (·.1)).map kv by simp [List.map_map,Function.comp_def]] at h2;exact (Z3.1 h2).imp (fun h e=>h (by rw [e]))
theorem Bl (q:A9 P kt kv) (s:α):∀ (es:List MapEntry) (D:List (α × Xab)) (i:Nat) (K:Option (Nat × Xab)->Hp->Prop),es.map (fun e=>(e.key,e.val))=D.map (fun p=>(kv p.1,p.2)) ->
  (eE D s=none->K none h)->(∀ j v,j<es.length->eE D s=some v->(es[j]?).map (·.key)=some (kv s)->K (some (i+j,v)) h)->aS P (Instr.findAsking kt (kv s) es i) h K
 | [],D,i,K,u,h0,h1=>by
  cases D with
  | nil=>exact h0 rfl
  | cons p D=>simp at u
 | e::es,D,i,K,u,h0,h1=>by
  cases D with
  | nil=>simp at u
  | cons p D =>
   simp only [List.map_cons,List.cons.injEq,Prod.mk.injEq] at u;obtain ⟨⟨O,U⟩,V⟩:=u;unfold Instr.findAsking;rw [ao,O];refine q.eqv s p.1 h _ ?_
   by_cases G:s=p.1
   ·rw [Y6 G];simp only [if_true]
    have:=h1 0 p.2 aj (by simp [eE,G]) (by simp [O,G])
    rw [U];exact this
   ·rw [Y7 G];simp only [Bool.false_eq_true,if_false];have hl:eE (p::D) s=eE D s:=by simp [eE,G]
    rw [hl] at h0;refine Bl q s es D (i+1) K V h0 (fun j v X J hk=>?_)
    have:=h1 (j+1) v (by simp; omega) (by rw [hl]; exact J) (by simpa using hk)
    rw [show i+1+j=i+(j+1) from ad];exact this
def Ca (q:A9 P kt kv) (s:α) {es:List MapEntry} {D:List (α × Xab)} (u:es.map (fun e=>(e.key,e.val))=D.map (fun p=>(kv p.1,p.2))) (K:Option (Nat × Xab)->Hp->Prop)
  (h0:eE D s=none->K none h) (h1:∀ j v,j<es.length->eE D s=some v->(es[j]?).map (·.key)=some (kv s)->K (some (j,v)) h):aS P (Instr.findKey kt (kv s) es) h K:=by
 obtain ⟨d,G,hs⟩:=q.kind;unfold Instr.findKey;rw [ao,aF G];cases es with
 | nil =>
  cases D with
  | nil=>exact h0 rfl
  | cons p D=>simp at u
 | cons e es =>
  have hn:Instr.findNow d (kv s) (e::es) 0=none:=by
   cases D with
   | nil=>simp at u
   | cons p D =>
    simp only [List.map_cons,List.cons.injEq,Prod.mk.injEq] at u;unfold Instr.findNow;rw [u.1.1,hs]
  rw [hn];refine Bl q s (e::es) D 0 K u h0 (fun j v J hl hk=>?_);rw [ZJ];exact h1 j v J hl hk
def wF {t:TypeId} (K:Xab->Hp->Prop) (hk:∀ h',oR kv h' h.size []->Ext h h'->h'.size=h.size+1->K (.map (some h.size)) h'):aS P (Instr.makeMap t none) h K:=by
 unfold Instr.makeMap;refine hk (h.push (.map #[] 0)) ⟨#[],0,by rw [Array.getElem?_push_size],rfl,⟨aj,aj,aj⟩⟩ (Ext.push h _) aj
def vh (q:A9 P kt kv) {t e:TypeId} (G:P.underlying t=some (.map kt e)) {z:Xab} (J:(P.info? e).bind (·.zero)=some z) {g:Nat} {D:List (α × Xab)} (m:oR kv h g D) (s:α) (c:Bool)
  (K:Xab->Hp->Prop) (u:K (if c then .tuple #[(eE D s).getD z,.bool (eE D s).isSome] else (eE D s).getD z) h):aS P (Instr.lookup t (.map (some g)) (kv s) c) h K:=by
 obtain ⟨es,clock,O,U,hs⟩:=m;unfold Instr.lookup;rw [ao,aF G];simp only;rw [ao];refine fY O aj _ ?_;simp only [pure_bind];rw [ao];refine q.check _ s h _ ?_;rw [ao];refine Ca q s U _ (fun hl=>?_) (fun j v V hl hv=>?_)
 ·rw [hl] at u;simp only;rw [ao,dt J]
  try simp only [pure_bind]
  cases c <;> exact u
 ·rw [hl] at u;simp only [pure_bind];cases c <;> exact u
def Ao (q:A9 P kt kv) (s:α) (K:Xab->Hp->Prop) (j:K (kv s) h):aS P (Instr.keyThatStays (kv s) (kv s)) h K:=by
 unfold Instr.keyThatStays;rw [Y8 (q.bits s)];exact j
def rM (q:A9 P kt kv) {t e:TypeId} (ht:P.underlying t=some (.map kt e)) {g:Nat} {D:List (α × Xab)} (m:oR kv h g D) (s:α) (v:Xab)
  (K:Unit->Hp->Prop) (hK:∀ h',oR kv h' g (yC D s v)->Ch [g] h h'->h'.size=h.size->K () h'):aS P (Instr.mapUpdate t (.map (some g)) (kv s) v) h K:=by
 have hnd:=oR.nodup q m;obtain ⟨es,clock,hg,Z,hst⟩:=m;have hlt:=fj hg;have kR:∀ o:Obj,Ch [g] h (h.setIfInBounds g o)/\(h.setIfInBounds g o).size=h.size/\(h.setIfInBounds g o)[g]?=some o:=by
  intro o;refine ⟨⟨aj,fun i hi hw=>?_⟩,aj,?_⟩
  ·rw [ak9,Y2 (by simp at hw; exact fun e=>hw e.symm)]
  ·rw [ak9,Y8 rfl,Y8 hlt]
 unfold Instr.mapUpdate;rw [ao,aF ht];simp only;rw [ao];refine fY hg aj _ ?_;show aS P _ h _;rw [ao];refine q.check _ s h _ ?_;rw [ao];refine Ca q s Z _ (fun hl=>?_) (fun j v' hj hl hv=>?_)
 ·refine mQ hg aj _ ?_;obtain ⟨c1,c2,c3⟩:=kR (.map (es.push { key:=kv s,val:=v,born:=clock }) (clock+1));refine hK _ ⟨_,_,c3,?_,?_⟩ c1 c2
  ·rw [yC,hl];simp [Z]
  ·have hnew:(kv s)∉es.toList.map (·.key):=by
    intro hm;have h1:es.toList.map (·.key)=D.map (fun p=>kv p.1):=by
     have:=Zl (List.map (·.1)) Z
     simpa [List.map_map,Function.comp_def] using this
    rw [h1] at hm;obtain ⟨p,hp,U⟩:=Za.1 hm;have U:=q.inj _ _ U;simp only [eE,Option.map_eq_none_iff,List.find?_eq_none,decide_eq_true_eq] at hl;exact hl p hp U.symm
   obtain ⟨s1,s2,s3⟩:=hst;refine ⟨?_,?_,?_⟩
   ·intro x hx;simp only [Array.toList_push,List.mem_append,List.mem_singleton] at hx;rcases hx with hx | rfl
    ·have:=s1 x hx; omega
    ·simp
   ·rw [Array.toList_push,Ze];refine ZX.2 ⟨s2,aj,?_⟩;intro a ha b hb;have hb:b=clock:=by simpa using hb
    obtain ⟨x,hx,rfl⟩:=Za.1 ha
    have:=s1 x hx
    omega
   ·rw [Array.toList_push,Ze];refine ZX.2 ⟨s3,aj,?_⟩;intro a ha b hb;have hb:b=kv s:=by simpa using hb
    rw [hb];exact fun hab=>hnew (hab▸ha)
 ·have O:es[j]?=some es[j]:=ah9 (by simpa using hj);have G:es[j].key=kv s:=by
   have h1:es.toList[j]?=some es[j]:=by rw [an9]; exact O
   rw [h1] at hv;simpa using hv
  show aS P _ h _;rw [ao];have hk2:((es[j]?).map (·.key)).getD (kv s)=kv s:=by rw [O]; simp [G]
  rw [hk2];refine Ao q s _ ?_;refine mQ hg aj _ ?_;obtain ⟨c1,c2,c3⟩:=kR (.map (es.modify j fun e=>{ e with key:=kv s,val:=v }) clock);have V:(es.modify j fun e=>{ e with key:=kv s,val:=v }).toList.map (·.key)=es.toList.map (·.key):=by
   apply ae9;intro i;simp only [List.getElem?_map,Array.getElem?_toList,Array.getElem?_modify]
   by_cases u:j=i
   ·subst u;rw [Y8 rfl,O];simp [G]
   ·rw [Y2 u]
  have J:(es.modify j fun e=>{ e with key:=kv s,val:=v }).toList.map (·.born)=es.toList.map (·.born):=by
   apply ae9;intro i;simp only [List.getElem?_map,Array.getElem?_toList,Array.getElem?_modify]
   by_cases u:j=i
   ·subst u;rw [Y8 rfl,O]
    simp
   ·rw [Y2 u]
  have hDl:D.length=es.size:=by
   have:=Zl List.length Z
   simpa using this.symm
  have hDk:∀ i,(hi:i<D.length)->(es[i]'ad).key=kv D[i].1/\(es[i]'ad).val=D[i].2:=by
   intro i hi;have h1:(es.toList.map (fun e=>(e.key,e.val)))[i]?=(D.map (fun p=>(kv p.1,p.2)))[i]?:=by rw [Z]
   simp only [List.getElem?_map,Array.getElem?_toList,List.getElem?_eq_getElem hi,Array.getElem?_eq_getElem (show i<es.size from ad),Option.map_some,Option.some.injEq,Prod.mk.injEq] at h1;exact h1
  refine hK _ ⟨_,_,c3,?_,?_⟩ c1 c2
  ·rw [yC,hl];simp only [Option.isSome_some,if_true];apply ae9;intro i;simp only [List.getElem?_map,Array.getElem?_toList,Array.getElem?_modify];rcases ZS i D.length with hi | hi
   ·obtain ⟨q1,q2⟩:=hDk i hi;rw [Y1 hi,ah9 (show i<es.size from ad)]
    by_cases u:j=i
    ·subst u;have X:s=D[j].1:=q.inj _ _ (by rw [<- q1,G]);simp [<- X]
    ·have X:s≠D[i].1:=by
      intro hh;have Y:j<D.length:=by simp at hj; omega
      have q3:=(hDk j Y).1;rw [G] at q3;have q3:s=D[j].1:=q.inj _ _ q3
      have:=bs9.1 hnd
      rcases ZS i j with hl' | hl'
      ·exact this i j (by simpa using hi) (by simpa using Y) hl' (by simp [<- hh,<- q3])
      ·exact this j i (by simpa using Y) (by simpa using hi) ad (by simp [<- hh,<- q3])
     rw [Y2 u];simp [X,q1,q2]
   ·rw [ZI hi,ZT (show es.size<=i from ad)]
    simp
  ·obtain ⟨s1,s2,s3⟩:=hst;refine ⟨?_,by rw [J]; exact s2,by rw [V]; exact s3⟩;intro x hx
   have:x.born∈es.toList.map (·.born):=by rw [<- J]; exact Za.2 ⟨x,hx,rfl⟩
   obtain ⟨y,hy,hyb⟩:=Za.1 this;rw [<- hyb]; exact s1 y hy
def yj (f:α->Option β) (s:α) (v:β):α->Option β:=fun t=>if t=s then some v else f t
def zS (kv:α->Xab) (en:β->Xab) (h:Hp) (g:Nat) (f:α->Option β) (n:Nat):Prop:=∃ D:List (α × β),oR kv h g (D.map fun p=>(p.1,en p.2))/\(∀ s,eE D s=f s)/\D.length=n
variable {en:β->Xab}
def zS.ak {ws:List Nat} {h':Hp} {g:Nat} {f:α->Option β} {n:Nat} (m:zS kv en h g f n) (k:Ch ws h h') (hw:g∉ws):zS kv en h' g f n:=by
 obtain ⟨D,a,b,c⟩:=m;exact ⟨D,a.ak k hw,b,c⟩
def wC (D:List (α × β)) (s:α):eE (D.map fun p=>(p.1,en p.2)) s=(eE D s).map en:=by
 unfold eE;rw [List.find?_map];simp only [Option.map_map] <;> rfl
def KX (D:List (α × β)) (s:α) (v:β):yC (D.map fun p=>(p.1,en p.2)) s (en v)=(yC D s v).map fun p=>(p.1,en p.2):=by
 unfold yC;rw [wC,Option.isSome_map];split
 ·rw [Zv,Zv];apply ZM;intro p _;simp only [Function.comp_apply];split <;> rfl
 ·simp
def Ki (D:List (α × β)) (s:α) (v:β) (t:α):eE (D++[(s,v)]) t=(eE D t).or (if t=s then some v else none):=by
 unfold eE;rw [bh9];cases u:D.find? (fun p=>decide (t=p.1)) with
 | none =>
  by_cases j:t=s
  ·simp [j]
  ·simp [j]
 | some p=>simp
def zM {s t:α} (v:β) (e:¬ t=s) (l:List (α × β)):(List.find? (fun p=>decide (t=p.1)) (List.map (fun p=>if s=p.1 then (p.1,v) else p) l)).map (·.2)=(List.find? (fun p=>decide (t=p.1)) l).map (·.2):=by
 induction l with
 | nil=>rfl
 | cons q l j =>
  by_cases u:s=q.1
  ·have:¬ t=q.1:=fun k=>e (k.trans u.symm)
   simp only [List.map_cons,List.find?_cons,if_pos u,decide_eq_false this];exact j
  ·simp only [List.map_cons,List.find?_cons,if_neg u]
   by_cases G:t=q.1
   ·simp [G]
   ·simp only [decide_eq_false G];exact j
def A8 {s:α} (v:β) (D:List (α × β)) (hs:(eE D s).isSome):eE (D.map fun p=>if s=p.1 then (p.1,v) else p) s=some v:=by
 unfold eE at *
 induction D with
 | nil=>simp at hs
 | cons p D u =>
  by_cases h:s=p.1
  ·simp [h]
  ·have j:(Option.map (fun x=>x.2) (List.find? (fun p=>decide (s=p.1)) D)).isSome:=by
    simpa [List.find?_cons,decide_eq_false h] using hs
   simp only [List.map_cons,List.find?_cons,if_neg h,decide_eq_false h];exact u j
def J2 (D:List (α × β)) (s:α) (v:β) (t:α):eE (yC D s v) t=yj (eE D) s v t:=by
 unfold yC yj;split
 ·rename_i hs
  by_cases e:t=s
  ·rw [Y8 e,e]; exact A8 v D hs
  ·rw [Y2 e]; exact zM v e D
 ·rename_i hs;rw [Ki]
  by_cases e:t=s
  ·subst e
   have:eE D t=none:=by simpa using hs
   rw [this]; simp
  ·simp [e]
def OX (D:List (α × β)) (s:α) (v:β):(yC D s v).length=if (eE D s).isSome then D.length else D.length+1:=by
 unfold yC;split <;> simp
section rules
variable {L:Lp} {K:Xab->Hp->Prop}
def LY {t:TypeId} {k:Option Nat->T} (hk:∀ h',zS kv en h' h.size (fun _=>none) 0->Ext h h'->h'.size=h.size+1->k (some h.size) L K h'):T.eh P (Instr.makeMap t none) false [(false,[.map 0 0])] k L K h:=by
 show aS P _ h _;refine wF (kv:=kv) _ ?_;intro h' m e z;exact ⟨(some h.size,()),rfl,hk h' ⟨[],m,fun s=>rfl,rfl⟩ e z⟩
def WR (q:A9 P kt kv) {t e:TypeId} (u:P.underlying t=some (.map kt e)) {g n:Nat} {f:α->Option β} (m:zS kv en h g f n) (s:α) (v:β) {k:T}
  (hk:∀ h',zS kv en h' g (yj f s v) (if (f s).isSome then n else n+1)->Ch [g] h h'->h'.size=h.size->k L K h'):T.et P (Instr.mapUpdate t (.map (some g)) (kv s) (en v)) k L K h:=by
 obtain ⟨D,m,j,hn⟩:=m;show aS P _ h _;refine rM q u m s _ _ ?_;intro h' m' c z;rw [KX] at m';refine hk h' ⟨_,m',fun t=>?_,?_⟩ c z
 ·rw [J2];unfold yj;split
  ·rfl
  ·exact j t
 ·rw [OX,j,hn]
end rules
end
end Go.Sx
