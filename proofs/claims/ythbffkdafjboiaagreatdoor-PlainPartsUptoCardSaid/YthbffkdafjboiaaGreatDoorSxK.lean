/- Part of the framework. No condition. -/
import Derived.Test.YthbffkdafjboiaaGreatDoorSxG
set_option linter.all false
set_option maxHeartbeats 4000000
namespace Go.Sx
open Go.MapKept
section
variable {α β:Type} [DecidableEq α] {P:Program}
structure AE (P:Program) (kt:TypeId) (kv:α->ZB):Prop where
 check:∀ (b:Bool) (a:α) (h:Hp) (K:Unit->Hp->Prop),K () h->aS P (Instr.checkKey b 10000 kt (kv a)) h K
 kind:∃ d,P.underlying kt=some d/\∀ a b,Instr.sameNow d (kv a) (kv b)=none
 eqv:∀ (a b:α) (h:Hp) (K:Bool->Hp->Prop),K (decide (a=b)) h->aS P (Op.equal kt (kv a) (kv b)) h K
 bits:∀ a,Instr.sameBits 10000 (kv a) (kv a)=true
 inj:∀ a b,kv a=kv b->a=b
def oA (kv:α->ZB) (h:Hp) (g:Nat) (D:List (α × ZB)):Prop :=
 ∃ (es:Array MapEntry) (clock:Nat),h[g]?=some (.map es clock)/\es.toList.map (fun e=>(e.key,e.val))=D.map (fun p=>(kv p.1,p.2))/\Stamped es clock
def ey (D:List (α × β)) (s:α):Option β:=(D.find? fun p=>decide (s=p.1)).map (·.2)
def yd (D:List (α × β)) (s:α) (v:β):List (α × β) :=
 if (ey D s).isSome then D.map fun p=>if s=p.1 then (p.1,v) else p else D++[(s,v)]
variable {h:Hp} {kt:TypeId} {kv:α->ZB}
def oA.lt {g:Nat} {D:List (α × ZB)} (m:oA kv h g D):g<h.size:=by
 obtain ⟨_,_,hg,_⟩:=m;exact eX hg
def oA.an {ws:List Nat} {h':Hp} {g:Nat} {D:List (α × ZB)} (m:oA kv h g D) (k:Ch ws h h') (hw:g∉ws):oA kv h' g D:=by
 obtain ⟨es,clock,hg,r⟩:=m;exact ⟨es,clock,k.get hg hw,r⟩
def oA.nodup (kt_:AE P kt kv) {g:Nat} {D:List (α × ZB)} (m:oA kv h g D):(D.map (·.1)).Nodup:=by
 obtain ⟨es,clock,hg,he,hs⟩:=m;have h1:es.toList.map (·.key)=D.map (fun p=>kv p.1):=by
  have:=Xj (List.map (·.1)) he
  simpa [List.map_map,Function.comp_def] using this
 have h2:=hs.2.2;rw [h1] at h2;rw [show D.map (fun p=>kv p.1)=(D.map (·.1)).map kv by simp [List.map_map,Function.comp_def]] at h2;exact (X5.1 h2).imp (fun h e=>h (by rw [e]))
theorem AT (q:AE P kt kv) (s:α):∀ (es:List MapEntry) (D:List (α × ZB)) (i:Nat) (K:Option (Nat × ZB)->Hp->Prop),es.map (fun e=>(e.key,e.val))=D.map (fun p=>(kv p.1,p.2)) ->
  (ey D s=none->K none h)->(∀ j v,j<es.length->ey D s=some v->(es[j]?).map (·.key)=some (kv s)->K (some (i+j,v)) h)->aS P (Instr.findAsking kt (kv s) es i) h K
 | [],D,i,K,he,h0,h1=>by
  cases D with
  | nil=>exact h0 rfl
  | cons p D=>simp at he
 | e::es,D,i,K,he,h0,h1=>by
  cases D with
  | nil=>simp at he
  | cons p D =>
   simp only [List.map_cons,List.cons.injEq,Prod.mk.injEq] at he;obtain ⟨⟨k1,k2⟩,k3⟩:=he;unfold Instr.findAsking;rw [ar,k1];refine q.eqv s p.1 h _ ?_
   by_cases hh:s=p.1
   ·rw [W9 hh];simp only [if_true]
    have:=h1 0 p.2 aj (by simp [ey,hh]) (by simp [k1,hh])
    rw [k2];exact this
   ·rw [Xa hh];simp only [Bool.false_eq_true,if_false];have hl:ey (p::D) s=ey D s:=by simp [ey,hh]
    rw [hl] at h0;refine AT q s es D (i+1) K k3 h0 (fun j v hj hl2 hk=>?_)
    have:=h1 (j+1) v (by simp; omega) (by rw [hl]; exact hl2) (by simpa using hk)
    rw [show i+1+j=i+(j+1) from ad];exact this
def BC (q:AE P kt kv) (s:α) {es:List MapEntry} {D:List (α × ZB)} (he:es.map (fun e=>(e.key,e.val))=D.map (fun p=>(kv p.1,p.2))) (K:Option (Nat × ZB)->Hp->Prop)
  (h0:ey D s=none->K none h) (h1:∀ j v,j<es.length->ey D s=some v->(es[j]?).map (·.key)=some (kv s)->K (some (j,v)) h):aS P (Instr.findKey kt (kv s) es) h K:=by
 obtain ⟨d,hd,hs⟩:=q.kind;unfold Instr.findKey;rw [ar,aF hd];cases es with
 | nil =>
  cases D with
  | nil=>exact h0 rfl
  | cons p D=>simp at he
 | cons e es =>
  have hn:Instr.findNow d (kv s) (e::es) 0=none:=by
   cases D with
   | nil=>simp at he
   | cons p D =>
    simp only [List.map_cons,List.cons.injEq,Prod.mk.injEq] at he;unfold Instr.findNow;rw [he.1.1,hs]
  rw [hn];refine AT q s (e::es) D 0 K he h0 (fun j v hj hl hk=>?_);rw [XK];exact h1 j v hj hl hk
def vV {t:TypeId} (K:ZB->Hp->Prop) (hk:∀ h',oA kv h' h.size []->Ext h h'->h'.size=h.size+1->K (.map (some h.size)) h'):aS P (Instr.makeMap t none) h K:=by
 unfold Instr.makeMap;refine hk (h.push (.map #[] 0)) ⟨#[],0,by rw [Array.getElem?_push_size],rfl,⟨aj,aj,aj⟩⟩ (Ext.push h _) aj
def uE (q:AE P kt kv) {t e:TypeId} (ht:P.underlying t=some (.map kt e)) {z:ZB} (hz:(P.info? e).bind (·.zero)=some z) {g:Nat} {D:List (α × ZB)} (m:oA kv h g D) (s:α) (c:Bool)
  (K:ZB->Hp->Prop) (hK:K (if c then .tuple #[(ey D s).getD z,.bool (ey D s).isSome] else (ey D s).getD z) h):aS P (Instr.lookup t (.map (some g)) (kv s) c) h K:=by
 obtain ⟨es,clock,hg,he,hs⟩:=m;unfold Instr.lookup;rw [ar,aF ht];simp only;rw [ar];refine fT hg aj _ ?_;simp only [pure_bind];rw [ar];refine q.check _ s h _ ?_;rw [ar];refine BC q s he _ (fun hl=>?_) (fun j v hj hl hv=>?_)
 ·rw [hl] at hK;simp only;rw [ar,dp hz]
  try simp only [pure_bind]
  cases c <;> exact hK
 ·rw [hl] at hK;simp only [pure_bind];cases c <;> exact hK
def zO (q:AE P kt kv) (s:α) (K:ZB->Hp->Prop) (hK:K (kv s) h):aS P (Instr.keyThatStays (kv s) (kv s)) h K:=by
 unfold Instr.keyThatStays;rw [Xb (q.bits s)];exact hK
def rn (q:AE P kt kv) {t e:TypeId} (ht:P.underlying t=some (.map kt e)) {g:Nat} {D:List (α × ZB)} (m:oA kv h g D) (s:α) (v:ZB)
  (K:Unit->Hp->Prop) (hK:∀ h',oA kv h' g (yd D s v)->Ch [g] h h'->h'.size=h.size->K () h'):aS P (Instr.mapUpdate t (.map (some g)) (kv s) v) h K:=by
 have hnd:=oA.nodup q m;obtain ⟨es,clock,hg,he,hst⟩:=m;have hlt:=eX hg;have kG:∀ o:Obj,Ch [g] h (h.setIfInBounds g o)/\(h.setIfInBounds g o).size=h.size/\(h.setIfInBounds g o)[g]?=some o:=by
  intro o;refine ⟨⟨aj,fun i hi hw=>?_⟩,aj,?_⟩
  ·rw [Yh,W6 (by simp at hw; exact fun e=>hw e.symm)]
  ·rw [Yh,Xb rfl,Xb hlt]
 unfold Instr.mapUpdate;rw [ar,aF ht];simp only;rw [ar];refine fT hg aj _ ?_;show aS P _ h _;rw [ar];refine q.check _ s h _ ?_;rw [ar];refine BC q s he _ (fun hl=>?_) (fun j v' hj hl hv=>?_)
 ·refine mD hg aj _ ?_;obtain ⟨c1,c2,c3⟩:=kG (.map (es.push { key:=kv s,val:=v,born:=clock }) (clock+1));refine hK _ ⟨_,_,c3,?_,?_⟩ c1 c2
  ·rw [yd,hl];simp [he]
  ·have hnew:(kv s)∉es.toList.map (·.key):=by
    intro hm;have h1:es.toList.map (·.key)=D.map (fun p=>kv p.1):=by
     have:=Xj (List.map (·.1)) he
     simpa [List.map_map,Function.comp_def] using this
    rw [h1] at hm;obtain ⟨p,hp,hps⟩:=Xd.1 hm;have hps:=q.inj _ _ hps;simp only [ey,Option.map_eq_none_iff,List.find?_eq_none,decide_eq_true_eq] at hl;exact hl p hp hps.symm
   obtain ⟨s1,s2,s3⟩:=hst;refine ⟨?_,?_,?_⟩
   ·intro x hx;simp only [Array.toList_push,List.mem_append,List.mem_singleton] at hx;rcases hx with hx | rfl
    ·have:=s1 x hx; omega
    ·simp
   ·rw [Array.toList_push,Xf];refine XW.2 ⟨s2,aj,?_⟩;intro a ha b hb;have hb:b=clock:=by simpa using hb
    obtain ⟨x,hx,rfl⟩:=Xd.1 ha
    have:=s1 x hx
    omega
   ·rw [Array.toList_push,Xf];refine XW.2 ⟨s3,aj,?_⟩;intro a ha b hb;have hb:b=kv s:=by simpa using hb
    rw [hb];exact fun hab=>hnew (hab▸ha)
 ·have hje:es[j]?=some es[j]:=Yf (by simpa using hj);have hkey:es[j].key=kv s:=by
   have h1:es.toList[j]?=some es[j]:=by rw [Yn]; exact hje
   rw [h1] at hv;simpa using hv
  show aS P _ h _;rw [ar];have hk2:((es[j]?).map (·.key)).getD (kv s)=kv s:=by rw [hje]; simp [hkey]
  rw [hk2];refine zO q s _ ?_;refine mD hg aj _ ?_;obtain ⟨c1,c2,c3⟩:=kG (.map (es.modify j fun e=>{ e with key:=kv s,val:=v }) clock);have hkeys:(es.modify j fun e=>{ e with key:=kv s,val:=v }).toList.map (·.key)=es.toList.map (·.key):=by
   apply Yd;intro i;simp only [List.getElem?_map,Array.getElem?_toList,Array.getElem?_modify]
   by_cases hij:j=i
   ·subst hij;rw [Xb rfl,hje];simp [hkey]
   ·rw [W6 hij]
  have hborn:(es.modify j fun e=>{ e with key:=kv s,val:=v }).toList.map (·.born)=es.toList.map (·.born):=by
   apply Yd;intro i;simp only [List.getElem?_map,Array.getElem?_toList,Array.getElem?_modify]
   by_cases hij:j=i
   ·subst hij;rw [Xb rfl,hje]
    simp
   ·rw [W6 hij]
  have hDl:D.length=es.size:=by
   have:=Xj List.length he
   simpa using this.symm
  have hDk:∀ i,(hi:i<D.length)->(es[i]'ad).key=kv D[i].1/\(es[i]'ad).val=D[i].2:=by
   intro i hi;have h1:(es.toList.map (fun e=>(e.key,e.val)))[i]?=(D.map (fun p=>(kv p.1,p.2)))[i]?:=by rw [he]
   simp only [List.getElem?_map,Array.getElem?_toList,List.getElem?_eq_getElem hi,Array.getElem?_eq_getElem (show i<es.size from ad),Option.map_some,Option.some.injEq,Prod.mk.injEq] at h1;exact h1
  refine hK _ ⟨_,_,c3,?_,?_⟩ c1 c2
  ·rw [yd,hl];simp only [Option.isSome_some,if_true];apply Yd;intro i;simp only [List.getElem?_map,Array.getElem?_toList,Array.getElem?_modify];rcases XR i D.length with hi | hi
   ·obtain ⟨q1,q2⟩:=hDk i hi;rw [W5 hi,Yf (show i<es.size from ad)]
    by_cases hij:j=i
    ·subst hij;have hs1:s=D[j].1:=q.inj _ _ (by rw [<- q1,hkey]);simp [<- hs1]
    ·have hs1:s≠D[i].1:=by
      intro hh;have hj':j<D.length:=by simp at hj; omega
      have q3:=(hDk j hj').1;rw [hkey] at q3;have q3:s=D[j].1:=q.inj _ _ q3
      have:=YQ.1 hnd
      rcases XR i j with hl' | hl'
      ·exact this i j (by simpa using hi) (by simpa using hj') hl' (by simp [<- hh,<- q3])
      ·exact this j i (by simpa using hj') (by simpa using hi) ad (by simp [<- hh,<- q3])
     rw [W6 hij];simp [hs1,q1,q2]
   ·rw [XI hi,XY (show es.size<=i from ad)]
    simp
  ·obtain ⟨s1,s2,s3⟩:=hst;refine ⟨?_,by rw [hborn]; exact s2,by rw [hkeys]; exact s3⟩;intro x hx
   have:x.born∈es.toList.map (·.born):=by rw [<- hborn]; exact Xd.2 ⟨x,hx,rfl⟩
   obtain ⟨y,hy,hyb⟩:=Xd.1 this;rw [<- hyb]; exact s1 y hy
def xU (f:α->Option β) (s:α) (v:β):α->Option β:=fun t=>if t=s then some v else f t
def zo (kv:α->ZB) (en:β->ZB) (h:Hp) (g:Nat) (f:α->Option β) (n:Nat):Prop:=∃ D:List (α × β),oA kv h g (D.map fun p=>(p.1,en p.2))/\(∀ s,ey D s=f s)/\D.length=n
variable {en:β->ZB}
def zo.an {ws:List Nat} {h':Hp} {g:Nat} {f:α->Option β} {n:Nat} (m:zo kv en h g f n) (k:Ch ws h h') (hw:g∉ws):zo kv en h' g f n:=by
 obtain ⟨D,a,b,c⟩:=m;exact ⟨D,a.an k hw,b,c⟩
def vT (D:List (α × β)) (s:α):ey (D.map fun p=>(p.1,en p.2)) s=(ey D s).map en:=by
 unfold ey;rw [List.find?_map];simp only [Option.map_map] <;> rfl
def Kg (D:List (α × β)) (s:α) (v:β):yd (D.map fun p=>(p.1,en p.2)) s (en v)=(yd D s v).map fun p=>(p.1,en p.2):=by
 unfold yd;rw [vT,Option.isSome_map];split
 ·rw [Xv,Xv];apply XQ;intro p _;simp only [Function.comp_apply];split <;> rfl
 ·simp
def JC (D:List (α × β)) (s:α) (v:β) (t:α):ey (D++[(s,v)]) t=(ey D t).or (if t=s then some v else none):=by
 unfold ey;rw [YT];cases hD:D.find? (fun p=>decide (t=p.1)) with
 | none =>
  by_cases ht:t=s
  ·simp [ht]
  ·simp [ht]
 | some p=>simp
def zg {s t:α} (v:β) (e:¬ t=s) (l:List (α × β)):(List.find? (fun p=>decide (t=p.1)) (List.map (fun p=>if s=p.1 then (p.1,v) else p) l)).map (·.2)=(List.find? (fun p=>decide (t=p.1)) l).map (·.2):=by
 induction l with
 | nil=>rfl
 | cons q l ihl =>
  by_cases hq:s=q.1
  ·have:¬ t=q.1:=fun k=>e (k.trans hq.symm)
   simp only [List.map_cons,List.find?_cons,if_pos hq,decide_eq_false this];exact ihl
  ·simp only [List.map_cons,List.find?_cons,if_neg hq]
   by_cases ht:t=q.1
   ·simp [ht]
   ·simp only [decide_eq_false ht];exact ihl
def AD {s:α} (v:β) (D:List (α × β)) (hs:(ey D s).isSome):ey (D.map fun p=>if s=p.1 then (p.1,v) else p) s=some v:=by
 unfold ey at *
 induction D with
 | nil=>simp at hs
 | cons p D ih =>
  by_cases h:s=p.1
  ·simp [h]
  ·have hs2:(Option.map (fun x=>x.2) (List.find? (fun p=>decide (s=p.1)) D)).isSome:=by
    simpa [List.find?_cons,decide_eq_false h] using hs
   simp only [List.map_cons,List.find?_cons,if_neg h,decide_eq_false h];exact ih hs2
def Jm (D:List (α × β)) (s:α) (v:β) (t:α):ey (yd D s v) t=xU (ey D) s v t:=by
 unfold yd xU;split
 ·rename_i hs
  by_cases e:t=s
  ·rw [Xb e,e]; exact AD v D hs
  ·rw [W6 e]; exact zg v e D
 ·rename_i hs;rw [JC]
  by_cases e:t=s
  ·subst e
   have:ey D t=none:=by simpa using hs
   rw [this]; simp
  ·simp [e]
def N2 (D:List (α × β)) (s:α) (v:β):(yd D s v).length=if (ey D s).isSome then D.length else D.length+1:=by
 unfold yd;split <;> simp
section rules
variable {L:Lp} {K:ZB->Hp->Prop}
def K5 {t:TypeId} {k:Option Nat->T} (hk:∀ h',zo kv en h' h.size (fun _=>none) 0->Ext h h'->h'.size=h.size+1->k (some h.size) L K h'):T.ek P (Instr.makeMap t none) false [(false,[.map 0 0])] k L K h:=by
 show aS P _ h _;refine vV (kv:=kv) _ ?_;intro h' m e z;exact ⟨(some h.size,()),rfl,hk h' ⟨[],m,fun s=>rfl,rfl⟩ e z⟩
def Vg (q:AE P kt kv) {t e:TypeId} (ht:P.underlying t=some (.map kt e)) {g n:Nat} {f:α->Option β} (m:zo kv en h g f n) (s:α) (v:β) {k:T}
  (hk:∀ h',zo kv en h' g (xU f s v) (if (f s).isSome then n else n+1)->Ch [g] h h'->h'.size=h.size->k L K h'):T.ei P (Instr.mapUpdate t (.map (some g)) (kv s) (en v)) k L K h:=by
 obtain ⟨D,m,hD,hn⟩:=m;show aS P _ h _;refine rn q ht m s _ _ ?_;intro h' m' c z;rw [Kg] at m';refine hk h' ⟨_,m',fun t=>?_,?_⟩ c z
 ·rw [Jm];unfold xU;split
  ·rfl
  ·exact hD t
 ·rw [N2,hD,hn]
end rules
end
end Go.Sx
