/- Part of the framework. No condition. -/
import Derived.Test.YtfkjiiapldkoeaaGreatDoorSxH
import Derived.MapKept
set_option linter.all false
set_option maxHeartbeats 4000000
namespace Go.Sx
open Go.MapKept
def DO (a b:XA):(a==b)=decide (a=b):=by
 cases a with | mk x=>cases b with | mk y =>
 have h1:((ByteArray.mk x==ByteArray.mk y):Bool)=(x==y):=rfl;rw [h1]
 by_cases h:x=y
 ·subst h; simp
 ·simp [h]
def fZ (h:Hp) (g:Nat) (D:List (XA × XB)):Prop :=
 ∃ (es:Array MapEntry) (clock:Nat),h[g]?=some (.map es clock)/\es.toList.map (fun e=>(e.key,e.val))=D.map (fun p=>(Value.string p.1,p.2))/\Stamped es clock/\∀ p,p∈D->p.1.size<=maxLen
def fZ.lt {h:Hp} {g:Nat} {D:List (XA × XB)} (m:fZ h g D):g<h.size:=by
 obtain ⟨_,_,hg,_⟩:=m;exact q9 hg
def fZ.an {ws:List Nat} {h h':Hp} {g:Nat} {D:List (XA × XB)} (m:fZ h g D) (k:Ch ws h h') (hw:g∉ws):fZ h' g D:=by
 obtain ⟨es,clock,hg,r⟩:=m;exact ⟨es,clock,k.get hg hw,r⟩
def look (D:List (XA × XB)) (s:XA):Option XB:=(D.find? fun p=>decide (s=p.1)).map (·.2)
def GG (D:List (XA × XB)) (s:XA) (v:XB):List (XA × XB) :=
 if (look D s).isSome then D.map fun p=>if s=p.1 then (p.1,v) else p else D++[(s,v)]
def fZ.nodup {h:Hp} {g:Nat} {D:List (XA × XB)} (m:fZ h g D):(D.map (·.1)).Nodup:=by
 obtain ⟨es,clock,hg,he,hs,_⟩:=m;have h1:es.toList.map (·.key)=D.map (fun p=>Value.string p.1):=by
  have:=O7 (List.map (·.1)) he
  simpa [List.map_map,Function.comp_def] using this
 have h2:=hs.2.2;rw [h1] at h2;rw [show D.map (fun p=>Value.string p.1)=(D.map (·.1)).map Value.string by simp [List.map_map,Function.comp_def]] at h2;exact (List.pairwise_map.1 h2).imp (fun h e=>h (by rw [e]))
section
variable {P:Program} {h:Hp}
def wb {r:Nat} {o:Obj} (hg:h[r]?=some o) (hc:∀ c e f,o≠.cells c e f) (K:Obj->Hp->Prop) (hk:K o h):aV P (getObj r) h K:=⟨o,hg,hc,hk⟩
def wu {r:Nat} {o o':Obj} (hg:h[r]?=some o) (hc:∀ c e f,o≠.cells c e f) (K:Unit->Hp->Prop) (hk:K () (h.setIfInBounds r o')):aV P (setObj r o') h K:=⟨⟨o,hg,hc⟩,hk⟩
def tU {b:Bool} {n:Nat} {k:TypeId} (hk:P.underlying k=some .string) {s:XA} (K:Unit->Hp->Prop) (hK:K () h):aV P (Instr.checkKey b (n+1) k (.string s)) h K:=by
 unfold Instr.checkKey;rw [aD,aL hk];exact hK
theorem vM (s:XA):∀ (es:List MapEntry) (D:List (XA × XB)) (i:Nat),es.map (fun e=>(e.key,e.val))=D.map (fun p=>(Value.string p.1,p.2)) ->
  ((look D s=none/\Instr.findNow .string (.string s) es i=some none)\/∃ j v,j<es.length/\look D s=some v/\Instr.findNow .string (.string s) es i=some (some (i+j,v))/\(es[j]?).map (·.key)=some (.string s))
 | [],D,i,he=>by
  cases D with
  | nil=>exact .inl ⟨rfl,rfl⟩
  | cons p D=>simp at he
 | e::es,D,i,he=>by
  cases D with
  | nil=>simp at he
  | cons p D =>
   simp only [List.map_cons,List.cons.injEq,Prod.mk.injEq] at he;obtain ⟨⟨h1,h2⟩,h3⟩:=he;have hs:Instr.sameNow .string (.string s) e.key=some (s==p.1):=by rw [h1]; rfl
   by_cases hh:s=p.1
   ·refine .inr ⟨0,p.2,aj,?_,?_,?_⟩
    ·simp [look,hh]
    ·unfold Instr.findNow;rw [hs,DO,OK hh];simp [h2]
    ·simp [h1,hh]
   ·have hl:look (p::D) s=look D s:=by simp [look,hh]
    have hf:Instr.findNow .string (.string s) (e::es) i=Instr.findNow .string (.string s) es (i+1):=by
     conv=>lhs; unfold Instr.findNow
     rw [hs,DO,OL hh]
    rcases vM s es D (i+1) h3 with ⟨h4,h5⟩ | ⟨j,v,h4,h5,h6,h7⟩
    ·exact .inl ⟨by rw [hl]; exact h4,by rw [hf]; exact h5⟩
    ·refine .inr ⟨j+1,v,by simp; omega,by rw [hl]; exact h5,?_,by simpa using h7⟩;rw [hf,h6]
     congr 2
     congr 1
     omega
def wk {k:TypeId} (hk:P.underlying k=some .string) {s:XA} {es:List MapEntry} {D:List (XA × XB)} (he:es.map (fun e=>(e.key,e.val))=D.map (fun p=>(Value.string p.1,p.2))) (K:Option (Nat × XB)->Hp->Prop)
  (h0:look D s=none->K none h) (h1:∀ j v,j<es.length->look D s=some v->(es[j]?).map (·.key)=some (.string s)->K (some (j,v)) h):aV P (Instr.findKey k (.string s) es) h K:=by
 unfold Instr.findKey;rw [aD,aL hk];rcases vM s es D 0 he with ⟨h4,h5⟩ | ⟨j,v,h4,h5,h6,h7⟩
 ·rw [h5]; exact h0 h4
 ·rw [h6];rw [PQ];exact h1 j v h4 h5 h7
def th {t:TypeId} (K:XB->Hp->Prop) (hk:∀ h',fZ h' h.size []->Ext h h'->h'.size=h.size+1->K (.map (some h.size)) h'):aV P (Instr.makeMap t none) h K:=by
 unfold Instr.makeMap;refine hk (h.push (.map #[] 0)) ⟨#[],0,by rw [PS],rfl,⟨aj,aj,aj⟩,aj⟩ (Ext.push h _) aj
def AG {t k e:TypeId} (ht:P.underlying t=some (.map k e)) (hk:P.underlying k=some .string) {z:XB} (hz:(P.info? e).bind (·.zero)=some z) {g:Nat} {D:List (XA × XB)} (m:fZ h g D) (s:XA) (c:Bool)
  (K:XB->Hp->Prop) (hK:K (if c then .tuple #[(look D s).getD z,.bool (look D s).isSome] else (look D s).getD z) h):aV P (Instr.lookup t (.map (some g)) (.string s) c) h K:=by
 obtain ⟨es,clock,hg,he,hs,hd⟩:=m;unfold Instr.lookup;rw [aD,aL ht];simp only;rw [aD];refine wb hg aj _ ?_;simp only [pure_bind];rw [aD];refine tU (n:=9999) hk _ ?_;rw [aD];refine wk hk he _ (fun hl=>?_) (fun j v hj hl hv=>?_)
 ·rw [hl] at hK;simp only;rw [aD,eO hz]
  try simp only [pure_bind]
  cases c <;> exact hK
 ·rw [hl] at hK;simp only [pure_bind];cases c <;> exact hK
def vC {s:XA} (K:XB->Hp->Prop) (hK:K (.string s) h):aV P (Instr.keyThatStays (.string s) (.string s)) h K:=by
 unfold Instr.keyThatStays
 have:Instr.sameBits 10000 (.string s) (.string s)=true:=by
  show (s==s)=true;rw [DO]; simp
 rw [OH this];exact hK
def uh {t k e:TypeId} (ht:P.underlying t=some (.map k e)) (hk:P.underlying k=some .string) {g:Nat} {D:List (XA × XB)} (m:fZ h g D) {s:XA} (hs:s.size<=maxLen) (v:XB)
  (K:Unit->Hp->Prop) (hK:∀ h',fZ h' g (GG D s v)->Ch [g] h h'->h'.size=h.size->K () h'):aV P (Instr.mapUpdate t (.map (some g)) (.string s) v) h K:=by
 obtain ⟨es,clock,hg,he,hst,hd⟩:=m;have hlt:=q9 hg;have kl:∀ o:Obj,Ch [g] h (h.setIfInBounds g o)/\(h.setIfInBounds g o).size=h.size/\(h.setIfInBounds g o)[g]?=some o:=by
  intro o;refine ⟨⟨aj,fun i hi hw=>?_⟩,aj,?_⟩
  ·rw [PL,OG (by simp at hw; exact fun e=>hw e.symm)]
  ·rw [PL,OH rfl,OH hlt]
 unfold Instr.mapUpdate;rw [aD,aL ht];simp only;rw [aD];refine wb hg aj _ ?_;show aV P _ h _;rw [aD];refine tU (n:=9999) hk _ ?_;rw [aD];refine wk hk he _ (fun hl=>?_) (fun j v' hj hl hv=>?_)
 ·refine wu hg aj _ ?_;obtain ⟨c1,c2,c3⟩:=kl (.map (es.push { key:=.string s,val:=v,born:=clock }) (clock+1));refine hK _ ⟨_,_,c3,?_,?_,?_⟩ c1 c2
  ·rw [GG,hl];simp [he]
  ·have hnew:(Value.string s)∉es.toList.map (·.key):=by
    intro hm;have h1:es.toList.map (·.key)=D.map (fun p=>Value.string p.1):=by
     have:=O7 (List.map (·.1)) he
     simpa [List.map_map,Function.comp_def] using this
    rw [h1] at hm;obtain ⟨p,hp,hps⟩:=Pa.1 hm;have hps:p.1=s:=by simpa using hps
    simp only [look,Option.map_eq_none_iff,List.find?_eq_none,decide_eq_true_eq] at hl;exact hl p hp hps.symm
   obtain ⟨s1,s2,s3⟩:=hst;refine ⟨?_,?_,?_⟩
   ·intro x hx;simp only [Array.toList_push,List.mem_append,List.mem_singleton] at hx;rcases hx with hx | rfl
    ·have:=s1 x hx; omega
    ·simp
   ·rw [Array.toList_push,OU];refine List.nodup_append.2 ⟨s2,aj,?_⟩;intro a ha b hb;have hb:b=clock:=by simpa using hb
    obtain ⟨x,hx,rfl⟩:=Pa.1 ha
    have:=s1 x hx
    omega
   ·rw [Array.toList_push,OU];refine List.nodup_append.2 ⟨s3,aj,?_⟩;intro a ha b hb;have hb:b=.string s:=by simpa using hb
    rw [hb];exact fun hab=>hnew (hab▸ha)
  ·intro p hp;rw [GG,hl] at hp;simp only [Option.isSome_none,Bool.false_eq_true,if_false,List.mem_append,List.mem_singleton] at hp;rcases hp with hp | rfl
   ·exact hd p hp
   ·exact hs
 ·have hje:es[j]?=some es[j]:=Pn (by simpa using hj);have hkey:es[j].key=.string s:=by
   have h1:es.toList[j]?=some es[j]:=by rw [PC]; exact hje
   rw [h1] at hv;simpa using hv
  show aV P _ h _;rw [aD];have hk2:((es[j]?).map (·.key)).getD (Value.string s)=.string s:=by rw [hje]; simp [hkey]
  rw [hk2];refine vC _ ?_;refine wu hg aj _ ?_;obtain ⟨c1,c2,c3⟩:=kl (.map (es.modify j fun e=>{ e with key:=.string s,val:=v }) clock);have hkeys:(es.modify j fun e=>{ e with key:=.string s,val:=v }).toList.map (·.key)=es.toList.map (·.key):=by
   apply PK;intro i;simp only [List.getElem?_map,Array.getElem?_toList,Array.getElem?_modify]
   by_cases hij:j=i
   ·subst hij;rw [OH rfl,hje];simp [hkey]
   ·rw [OG hij]
  have hborn:(es.modify j fun e=>{ e with key:=.string s,val:=v }).toList.map (·.born)=es.toList.map (·.born):=by
   apply PK;intro i;simp only [List.getElem?_map,Array.getElem?_toList,Array.getElem?_modify]
   by_cases hij:j=i
   ·subst hij;rw [OH rfl,hje]
    simp
   ·rw [OG hij]
  have hDl:D.length=es.size:=by
   have:=O7 List.length he
   simpa using this.symm
  have hDk:∀ i,(hi:i<D.length)->(es[i]'ae).key=Value.string D[i].1/\(es[i]'ae).val=D[i].2:=by
   intro i hi;have h1:(es.toList.map (fun e=>(e.key,e.val)))[i]?=(D.map (fun p=>(Value.string p.1,p.2)))[i]?:=by rw [he]
   simp only [List.getElem?_map,Array.getElem?_toList,List.getElem?_eq_getElem hi,Array.getElem?_eq_getElem (show i<es.size from ae),Option.map_some,Option.some.injEq,Prod.mk.injEq] at h1;exact h1
  have hnd:=fZ.nodup (h:=h) (g:=g) ⟨es,clock,hg,he,hst,hd⟩;refine hK _ ⟨_,_,c3,?_,?_,?_⟩ c1 c2
  ·rw [GG,hl];simp only [Option.isSome_some,if_true];apply PK;intro i;simp only [List.getElem?_map,Array.getElem?_toList,Array.getElem?_modify];rcases Po i D.length with hi | hi
   ·obtain ⟨q1,q2⟩:=hDk i hi;rw [OO hi,Pn (show i<es.size from ae)]
    by_cases hij:j=i
    ·subst hij;have hs1:s=D[j].1:=by rw [hkey] at q1; simpa using q1
     simp [<- hs1]
    ·have hs1:s≠D[i].1:=by
      intro hh;have hj':j<D.length:=by simp at hj; omega
      have q3:=(hDk j hj').1;rw [hkey] at q3;have q3:s=D[j].1:=by simpa using q3
      have:=List.pairwise_iff_getElem.1 hnd
      rcases Po i j with hl' | hl'
      ·exact this i j (by simpa using hi) (by simpa using hj') hl' (by simp [<- hh,<- q3])
      ·exact this j i (by simpa using hj') (by simpa using hi) ae (by simp [<- hh,<- q3])
     rw [OG hij];simp [hs1,q1,q2]
   ·rw [Pf hi,Pv (show es.size<=i from ae)]
    simp
  ·obtain ⟨s1,s2,s3⟩:=hst;refine ⟨?_,by rw [hborn]; exact s2,by rw [hkeys]; exact s3⟩;intro x hx
   have:x.born∈es.toList.map (·.born):=by rw [<- hborn]; exact Pa.2 ⟨x,hx,rfl⟩
   obtain ⟨y,hy,hyb⟩:=Pa.1 this;rw [<- hyb]; exact s1 y hy
  ·intro p hp;rw [GG,hl] at hp;simp only [Option.isSome_some,if_true,List.mem_map] at hp;obtain ⟨q,hq,rfl⟩:=hp;split
   ·exact hd q hq
   ·exact hd q hq
end
end Go.Sx
