/- Part of the framework. No condition. -/
import Derived.Test.YthbffkdafjboiaaGreatDoorSxH
import Derived.MapKept
set_option linter.all false
set_option maxHeartbeats 4000000
namespace Go.Sx
open Go.MapKept
def wh (a b:ZA):(a==b)=decide (a=b):=by
 cases a with | mk x=>cases b with | mk y =>
 have h1:((ByteArray.mk x==ByteArray.mk y):Bool)=(x==y):=rfl;rw [h1]
 by_cases h:x=y
 ·subst h; simp
 ·simp [h]
def dT (h:Hp) (g:Nat) (D:List (ZA × ZB)):Prop :=
 ∃ (es:Array MapEntry) (clock:Nat),h[g]?=some (.map es clock)/\es.toList.map (fun e=>(e.key,e.val))=D.map (fun p=>(Value.string p.1,p.2))/\Stamped es clock/\∀ p,p∈D->p.1.size<=maxLen
def dT.lt {h:Hp} {g:Nat} {D:List (ZA × ZB)} (m:dT h g D):g<h.size:=by
 obtain ⟨_,_,hg,_⟩:=m;exact eX hg
def dT.an {ws:List Nat} {h h':Hp} {g:Nat} {D:List (ZA × ZB)} (m:dT h g D) (k:Ch ws h h') (hw:g∉ws):dT h' g D:=by
 obtain ⟨es,clock,hg,r⟩:=m;exact ⟨es,clock,k.get hg hw,r⟩
def look (D:List (ZA × ZB)) (s:ZA):Option ZB:=(D.find? fun p=>decide (s=p.1)).map (·.2)
def je (D:List (ZA × ZB)) (s:ZA) (v:ZB):List (ZA × ZB) :=
 if (look D s).isSome then D.map fun p=>if s=p.1 then (p.1,v) else p else D++[(s,v)]
def dT.nodup {h:Hp} {g:Nat} {D:List (ZA × ZB)} (m:dT h g D):(D.map (·.1)).Nodup:=by
 obtain ⟨es,clock,hg,he,hs,_⟩:=m;have h1:es.toList.map (·.key)=D.map (fun p=>Value.string p.1):=by
  have:=Xj (List.map (·.1)) he
  simpa [List.map_map,Function.comp_def] using this
 have h2:=hs.2.2;rw [h1] at h2;rw [show D.map (fun p=>Value.string p.1)=(D.map (·.1)).map Value.string by simp [List.map_map,Function.comp_def]] at h2;exact (X5.1 h2).imp (fun h e=>h (by rw [e]))
section
variable {P:Program} {h:Hp}
def fT {r:Nat} {o:Obj} (hg:h[r]?=some o) (hc:∀ c e f,o≠.cells c e f) (K:Obj->Hp->Prop) (hk:K o h):aS P (getObj r) h K:=⟨o,hg,hc,hk⟩
def mD {r:Nat} {o o':Obj} (hg:h[r]?=some o) (hc:∀ c e f,o≠.cells c e f) (K:Unit->Hp->Prop) (hk:K () (h.setIfInBounds r o')):aS P (setObj r o') h K:=⟨⟨o,hg,hc⟩,hk⟩
def oL {b:Bool} {n:Nat} {k:TypeId} (hk:P.underlying k=some .string) {s:ZA} (K:Unit->Hp->Prop) (hK:K () h):aS P (Instr.checkKey b (n+1) k (.string s)) h K:=by
 unfold Instr.checkKey;rw [ar,aF hk];exact hK
theorem xg (s:ZA):∀ (es:List MapEntry) (D:List (ZA × ZB)) (i:Nat),es.map (fun e=>(e.key,e.val))=D.map (fun p=>(Value.string p.1,p.2)) ->
  ((look D s=none/\Instr.findNow .string (.string s) es i=some none)\/∃ j v,j<es.length/\look D s=some v/\Instr.findNow .string (.string s) es i=some (some (i+j,v))/\(es[j]?).map (·.key)=some (.string s))
 | [],D,i,he=>by
  cases D with
  | nil=>exact .inl ⟨rfl,rfl⟩
  | cons p D=>simp at he
 | e::es,D,i,he=>by
  cases D with
  | nil=>simp at he
  | cons p D =>
   simp only [List.map_cons,List.cons.injEq,Prod.mk.injEq] at he;obtain ⟨⟨h1,h2⟩,h3⟩:=he;have hs:Instr.sameNow .string (.string s) e.key=some (s==p.1):=by rw [h1]; rfl
   by_cases hh:s=p.1
   ·refine .inr ⟨0,p.2,aj,?_,?_,?_⟩
    ·simp [look,hh]
    ·unfold Instr.findNow;rw [hs,wh,W9 hh];simp [h2]
    ·simp [h1,hh]
   ·have hl:look (p::D) s=look D s:=by simp [look,hh]
    have hf:Instr.findNow .string (.string s) (e::es) i=Instr.findNow .string (.string s) es (i+1):=by
     conv=>lhs; unfold Instr.findNow
     rw [hs,wh,Xa hh]
    rcases xg s es D (i+1) h3 with ⟨h4,h5⟩ | ⟨j,v,h4,h5,h6,h7⟩
    ·exact .inl ⟨by rw [hl]; exact h4,by rw [hf]; exact h5⟩
    ·refine .inr ⟨j+1,v,by simp; omega,by rw [hl]; exact h5,?_,by simpa using h7⟩;rw [hf,h6]
     congr 2
     congr 1
     omega
def qW {k:TypeId} (hk:P.underlying k=some .string) {s:ZA} {es:List MapEntry} {D:List (ZA × ZB)} (he:es.map (fun e=>(e.key,e.val))=D.map (fun p=>(Value.string p.1,p.2))) (K:Option (Nat × ZB)->Hp->Prop)
  (h0:look D s=none->K none h) (h1:∀ j v,j<es.length->look D s=some v->(es[j]?).map (·.key)=some (.string s)->K (some (j,v)) h):aS P (Instr.findKey k (.string s) es) h K:=by
 unfold Instr.findKey;rw [ar,aF hk];rcases xg s es D 0 he with ⟨h4,h5⟩ | ⟨j,v,h4,h5,h6,h7⟩
 ·rw [h5]; exact h0 h4
 ·rw [h6];rw [XK];exact h1 j v h4 h5 h7
def jx {t:TypeId} (K:ZB->Hp->Prop) (hk:∀ h',dT h' h.size []->Ext h h'->h'.size=h.size+1->K (.map (some h.size)) h'):aS P (Instr.makeMap t none) h K:=by
 unfold Instr.makeMap;refine hk (h.push (.map #[] 0)) ⟨#[],0,by rw [Array.getElem?_push_size],rfl,⟨aj,aj,aj⟩,aj⟩ (Ext.push h _) aj
def hZ {t k e:TypeId} (ht:P.underlying t=some (.map k e)) (hk:P.underlying k=some .string) {z:ZB} (hz:(P.info? e).bind (·.zero)=some z) {g:Nat} {D:List (ZA × ZB)} (m:dT h g D) (s:ZA) (c:Bool)
  (K:ZB->Hp->Prop) (hK:K (if c then .tuple #[(look D s).getD z,.bool (look D s).isSome] else (look D s).getD z) h):aS P (Instr.lookup t (.map (some g)) (.string s) c) h K:=by
 obtain ⟨es,clock,hg,he,hs,hd⟩:=m;unfold Instr.lookup;rw [ar,aF ht];simp only;rw [ar];refine fT hg aj _ ?_;simp only [pure_bind];rw [ar];refine oL (n:=9999) hk _ ?_;rw [ar];refine qW hk he _ (fun hl=>?_) (fun j v hj hl hv=>?_)
 ·rw [hl] at hK;simp only;rw [ar,dp hz]
  try simp only [pure_bind]
  cases c <;> exact hK
 ·rw [hl] at hK;simp only [pure_bind];cases c <;> exact hK
def lookup_nil {t k e:TypeId} (ht:P.underlying t=some (.map k e)) (hk:P.underlying k=some .string) {z:ZB} (hz:(P.info? e).bind (·.zero)=some z) (s:ZA) (c:Bool)
  (K:ZB->Hp->Prop) (hK:K (if c then .tuple #[z,.bool false] else z) h):aS P (Instr.lookup t (.map none) (.string s) c) h K:=by
 unfold Instr.lookup;rw [ar,aF ht];simp only [pure_bind];rw [ar];refine oL (n:=9999) hk _ ?_;rw [ar];refine qW (D:=[]) hk rfl _ (fun hl=>?_) (fun j v hj hl hv=>by simp at hj);simp only;rw [ar,dp hz]
 try simp only [pure_bind]
 cases c <;> exact hK
def w8 {s:ZA} (K:ZB->Hp->Prop) (hK:K (.string s) h):aS P (Instr.keyThatStays (.string s) (.string s)) h K:=by
 unfold Instr.keyThatStays
 have:Instr.sameBits 10000 (.string s) (.string s)=true:=by
  show (s==s)=true;rw [wh]; simp
 rw [Xb this];exact hK
def fg {t k e:TypeId} (ht:P.underlying t=some (.map k e)) (hk:P.underlying k=some .string) {g:Nat} {D:List (ZA × ZB)} (m:dT h g D) {s:ZA} (hs:s.size<=maxLen) (v:ZB)
  (K:Unit->Hp->Prop) (hK:∀ h',dT h' g (je D s v)->Ch [g] h h'->h'.size=h.size->K () h'):aS P (Instr.mapUpdate t (.map (some g)) (.string s) v) h K:=by
 obtain ⟨es,clock,hg,he,hst,hd⟩:=m;have hlt:=eX hg;have kG:∀ o:Obj,Ch [g] h (h.setIfInBounds g o)/\(h.setIfInBounds g o).size=h.size/\(h.setIfInBounds g o)[g]?=some o:=by
  intro o;refine ⟨⟨aj,fun i hi hw=>?_⟩,aj,?_⟩
  ·rw [Yh,W6 (by simp at hw; exact fun e=>hw e.symm)]
  ·rw [Yh,Xb rfl,Xb hlt]
 unfold Instr.mapUpdate;rw [ar,aF ht];simp only;rw [ar];refine fT hg aj _ ?_;show aS P _ h _;rw [ar];refine oL (n:=9999) hk _ ?_;rw [ar];refine qW hk he _ (fun hl=>?_) (fun j v' hj hl hv=>?_)
 ·refine mD hg aj _ ?_;obtain ⟨c1,c2,c3⟩:=kG (.map (es.push { key:=.string s,val:=v,born:=clock }) (clock+1));refine hK _ ⟨_,_,c3,?_,?_,?_⟩ c1 c2
  ·rw [je,hl];simp [he]
  ·have hnew:(Value.string s)∉es.toList.map (·.key):=by
    intro hm;have h1:es.toList.map (·.key)=D.map (fun p=>Value.string p.1):=by
     have:=Xj (List.map (·.1)) he
     simpa [List.map_map,Function.comp_def] using this
    rw [h1] at hm;obtain ⟨p,hp,hps⟩:=Xd.1 hm;have hps:p.1=s:=by simpa using hps
    simp only [look,Option.map_eq_none_iff,List.find?_eq_none,decide_eq_true_eq] at hl;exact hl p hp hps.symm
   obtain ⟨s1,s2,s3⟩:=hst;refine ⟨?_,?_,?_⟩
   ·intro x hx;simp only [Array.toList_push,List.mem_append,List.mem_singleton] at hx;rcases hx with hx | rfl
    ·have:=s1 x hx; omega
    ·simp
   ·rw [Array.toList_push,Xf];refine XW.2 ⟨s2,aj,?_⟩;intro a ha b hb;have hb:b=clock:=by simpa using hb
    obtain ⟨x,hx,rfl⟩:=Xd.1 ha
    have:=s1 x hx
    omega
   ·rw [Array.toList_push,Xf];refine XW.2 ⟨s3,aj,?_⟩;intro a ha b hb;have hb:b=.string s:=by simpa using hb
    rw [hb];exact fun hab=>hnew (hab▸ha)
  ·intro p hp;rw [je,hl] at hp;simp only [Option.isSome_none,Bool.false_eq_true,if_false,List.mem_append,List.mem_singleton] at hp;rcases hp with hp | rfl
   ·exact hd p hp
   ·exact hs
 ·have hje:es[j]?=some es[j]:=Yf (by simpa using hj);have hkey:es[j].key=.string s:=by
   have h1:es.toList[j]?=some es[j]:=by rw [Yn]; exact hje
   rw [h1] at hv;simpa using hv
  show aS P _ h _;rw [ar];have hk2:((es[j]?).map (·.key)).getD (Value.string s)=.string s:=by rw [hje]; simp [hkey]
  rw [hk2];refine w8 _ ?_;refine mD hg aj _ ?_;obtain ⟨c1,c2,c3⟩:=kG (.map (es.modify j fun e=>{ e with key:=.string s,val:=v }) clock);have hkeys:(es.modify j fun e=>{ e with key:=.string s,val:=v }).toList.map (·.key)=es.toList.map (·.key):=by
   apply Yd;intro i;simp only [List.getElem?_map,Array.getElem?_toList,Array.getElem?_modify]
   by_cases hij:j=i
   ·subst hij;rw [Xb rfl,hje];simp [hkey]
   ·rw [W6 hij]
  have hborn:(es.modify j fun e=>{ e with key:=.string s,val:=v }).toList.map (·.born)=es.toList.map (·.born):=by
   apply Yd;intro i;simp only [List.getElem?_map,Array.getElem?_toList,Array.getElem?_modify]
   by_cases hij:j=i
   ·subst hij;rw [Xb rfl,hje]
    simp
   ·rw [W6 hij]
  have hDl:D.length=es.size:=by
   have:=Xj List.length he
   simpa using this.symm
  have hDk:∀ i,(hi:i<D.length)->(es[i]'ad).key=Value.string D[i].1/\(es[i]'ad).val=D[i].2:=by
   intro i hi;have h1:(es.toList.map (fun e=>(e.key,e.val)))[i]?=(D.map (fun p=>(Value.string p.1,p.2)))[i]?:=by rw [he]
   simp only [List.getElem?_map,Array.getElem?_toList,List.getElem?_eq_getElem hi,Array.getElem?_eq_getElem (show i<es.size from ad),Option.map_some,Option.some.injEq,Prod.mk.injEq] at h1;exact h1
  have hnd:=dT.nodup (h:=h) (g:=g) ⟨es,clock,hg,he,hst,hd⟩;refine hK _ ⟨_,_,c3,?_,?_,?_⟩ c1 c2
  ·rw [je,hl];simp only [Option.isSome_some,if_true];apply Yd;intro i;simp only [List.getElem?_map,Array.getElem?_toList,Array.getElem?_modify];rcases XR i D.length with hi | hi
   ·obtain ⟨q1,q2⟩:=hDk i hi;rw [W5 hi,Yf (show i<es.size from ad)]
    by_cases hij:j=i
    ·subst hij;have hs1:s=D[j].1:=by rw [hkey] at q1; simpa using q1
     simp [<- hs1]
    ·have hs1:s≠D[i].1:=by
      intro hh;have hj':j<D.length:=by simp at hj; omega
      have q3:=(hDk j hj').1;rw [hkey] at q3;have q3:s=D[j].1:=by simpa using q3
      have:=YQ.1 hnd
      rcases XR i j with hl' | hl'
      ·exact this i j (by simpa using hi) (by simpa using hj') hl' (by simp [<- hh,<- q3])
      ·exact this j i (by simpa using hj') (by simpa using hi) ad (by simp [<- hh,<- q3])
     rw [W6 hij];simp [hs1,q1,q2]
   ·rw [XI hi,XY (show es.size<=i from ad)]
    simp
  ·obtain ⟨s1,s2,s3⟩:=hst;refine ⟨?_,by rw [hborn]; exact s2,by rw [hkeys]; exact s3⟩;intro x hx
   have:x.born∈es.toList.map (·.born):=by rw [<- hborn]; exact Xd.2 ⟨x,hx,rfl⟩
   obtain ⟨y,hy,hyb⟩:=Xd.1 this;rw [<- hyb]; exact s1 y hy
  ·intro p hp;rw [je,hl] at hp;simp only [Option.isSome_some,if_true,List.mem_map] at hp;obtain ⟨q,hq,rfl⟩:=hp;split
   ·exact hd q hq
   ·exact hd q hq
end
end Go.Sx
