/- Part of the framework. No condition. -/
import Derived.Test.YthbffkdafjboiaaGreatDoorSxH
import Derived.MapKept
set_option linter.all false
set_option maxHeartbeats 4000000
namespace Go.Sx
open Go.MapKept
def xc (a b:Xaa):(a==b)=decide (a=b):=by
 cases a with | mk x=>cases b with | mk y =>
 have h1:((ByteArray.mk x==ByteArray.mk y):Bool)=(x==y):=rfl;rw [h1]
 by_cases h:x=y
 ·subst h; simp
 ·simp [h]
def dV (h:Hp) (g:Nat) (D:List (Xaa × Xab)):Prop :=
 ∃ (es:Array MapEntry) (clock:Nat),h[g]?=some (.map es clock)/\es.toList.map (fun e=>(e.key,e.val))=D.map (fun p=>(Value.string p.1,p.2))/\Stamped es clock/\∀ p,p∈D->p.1.size<=maxLen
def dV.lt {h:Hp} {g:Nat} {D:List (Xaa × Xab)} (m:dV h g D):g<h.size:=by
 obtain ⟨_,_,d,_⟩:=m;exact fc d
def dV.an {ws:List Nat} {h h':Hp} {g:Nat} {D:List (Xaa × Xab)} (m:dV h g D) (k:Ch ws h h') (hw:g∉ws):dV h' g D:=by
 obtain ⟨es,clock,d,r⟩:=m;exact ⟨es,clock,k.get d hw,r⟩
def look (D:List (Xaa × Xab)) (s:Xaa):Option Xab:=(D.find? fun p=>decide (s=p.1)).map (·.2)
def iR (D:List (Xaa × Xab)) (s:Xaa) (v:Xab):List (Xaa × Xab) :=
 if (look D s).isSome then D.map fun p=>if s=p.1 then (p.1,v) else p else D++[(s,v)]
def dV.nodup {h:Hp} {g:Nat} {D:List (Xaa × Xab)} (m:dV h g D):(D.map (·.1)).Nodup:=by
 obtain ⟨es,clock,j,d,hs,_⟩:=m;have h1:es.toList.map (·.key)=D.map (fun p=>Value.string p.1):=by
  have:=YJ (List.map (·.1)) d
  simpa [List.map_map,Function.comp_def] using this
 have h2:=hs.2.2;rw [h1] at h2;rw [show D.map (fun p=>Value.string p.1)=(D.map (·.1)).map Value.string by simp [List.map_map,Function.comp_def]] at h2;exact (Zw.1 h2).imp (fun h e=>h (by rw [e]))
section
variable {P:Program} {h:Hp}
def fW {r:Nat} {o:Obj} (d:h[r]?=some o) (hc:∀ c e f,o≠.cells c e f) (K:Obj->Hp->Prop) (hk:K o h):aU P (getObj r) h K:=⟨o,d,hc,hk⟩
def nr {r:Nat} {o o':Obj} (d:h[r]?=some o) (hc:∀ c e f,o≠.cells c e f) (K:Unit->Hp->Prop) (hk:K () (h.setIfInBounds r o')):aU P (setObj r o') h K:=⟨⟨o,d,hc⟩,hk⟩
def pG {b:Bool} {n:Nat} {k:TypeId} (hk:P.underlying k=some .string) {s:Xaa} (K:Unit->Hp->Prop) (d:K () h):aU P (Instr.checkKey b (n+1) k (.string s)) h K:=by
 unfold Instr.checkKey;rw [ao,aF hk];exact d
theorem xP (s:Xaa):∀ (es:List MapEntry) (D:List (Xaa × Xab)) (i:Nat),es.map (fun e=>(e.key,e.val))=D.map (fun p=>(Value.string p.1,p.2)) ->
  ((look D s=none/\Instr.findNow .string (.string s) es i=some none)\/∃ j v,j<es.length/\look D s=some v/\Instr.findNow .string (.string s) es i=some (some (i+j,v))/\(es[j]?).map (·.key)=some (.string s))
 | [],D,i,d=>by
  cases D with
  | nil=>exact .inl ⟨rfl,rfl⟩
  | cons p D=>simp at d
 | e::es,D,i,d=>by
  cases D with
  | nil=>simp at d
  | cons p D =>
   simp only [List.map_cons,List.cons.injEq,Prod.mk.injEq] at d;obtain ⟨⟨h1,h2⟩,h3⟩:=d;have hs:Instr.sameNow .string (.string s) e.key=some (s==p.1):=by rw [h1]; rfl
   by_cases u:s=p.1
   ·refine .inr ⟨0,p.2,aj,?_,?_,?_⟩
    ·simp [look,u]
    ·unfold Instr.findNow;rw [hs,xc,YA u];simp [h2]
    ·simp [h1,u]
   ·have hl:look (p::D) s=look D s:=by simp [look,u]
    have F:Instr.findNow .string (.string s) (e::es) i=Instr.findNow .string (.string s) es (i+1):=by
     conv=>lhs; unfold Instr.findNow
     rw [hs,xc,YB u]
    rcases xP s es D (i+1) h3 with ⟨h4,h5⟩ | ⟨j,v,h4,h5,h6,h7⟩
    ·exact .inl ⟨by rw [hl]; exact h4,by rw [F]; exact h5⟩
    ·refine .inr ⟨j+1,v,by simp; omega,by rw [hl]; exact h5,?_,by simpa using h7⟩;rw [F,h6]
     congr 2
     congr 1
     omega
def rN {k:TypeId} (hk:P.underlying k=some .string) {s:Xaa} {es:List MapEntry} {D:List (Xaa × Xab)} (d:es.map (fun e=>(e.key,e.val))=D.map (fun p=>(Value.string p.1,p.2))) (K:Option (Nat × Xab)->Hp->Prop)
  (h0:look D s=none->K none h) (h1:∀ j v,j<es.length->look D s=some v->(es[j]?).map (·.key)=some (.string s)->K (some (j,v)) h):aU P (Instr.findKey k (.string s) es) h K:=by
 unfold Instr.findKey;rw [ao,aF hk];rcases xP s es D 0 d with ⟨h4,h5⟩ | ⟨j,v,h4,h5,h6,h7⟩
 ·rw [h5]; exact h0 h4
 ·rw [h6];rw [Y7];exact h1 j v h4 h5 h7
def jM {t:TypeId} (K:Xab->Hp->Prop) (hk:∀ h',dV h' h.size []->Ext h h'->h'.size=h.size+1->K (.map (some h.size)) h'):aU P (Instr.makeMap t none) h K:=by
 unfold Instr.makeMap;refine hk (h.push (.map #[] 0)) ⟨#[],0,by rw [Array.getElem?_push_size],rfl,⟨aj,aj,aj⟩,aj⟩ (Ext.push h _) aj
def ix {t k e:TypeId} (u:P.underlying t=some (.map k e)) (hk:P.underlying k=some .string) {z:Xab} (F:(P.info? e).bind (·.zero)=some z) {g:Nat} {D:List (Xaa × Xab)} (m:dV h g D) (s:Xaa) (c:Bool)
  (K:Xab->Hp->Prop) (d:K (if c then .tuple #[(look D s).getD z,.bool (look D s).isSome] else (look D s).getD z) h):aU P (Instr.lookup t (.map (some g)) (.string s) c) h K:=by
 obtain ⟨es,clock,G,J,hs,O⟩:=m;unfold Instr.lookup;rw [ao,aF u];simp only;rw [ao];refine fW G aj _ ?_;simp only [pure_bind];rw [ao];refine pG (n:=9999) hk _ ?_;rw [ao];refine rN hk J _ (fun hl=>?_) (fun j v U hl hv=>?_)
 ·rw [hl] at d;simp only;rw [ao,dr F]
  try simp only [pure_bind]
  cases c <;> exact d
 ·rw [hl] at d;simp only [pure_bind];cases c <;> exact d
def lookup_nil {t k e:TypeId} (d:P.underlying t=some (.map k e)) (hk:P.underlying k=some .string) {z:Xab} (u:(P.info? e).bind (·.zero)=some z) (s:Xaa) (c:Bool)
  (K:Xab->Hp->Prop) (F:K (if c then .tuple #[z,.bool false] else z) h):aU P (Instr.lookup t (.map none) (.string s) c) h K:=by
 unfold Instr.lookup;rw [ao,aF d];simp only [pure_bind];rw [ao];refine pG (n:=9999) hk _ ?_;rw [ao];refine rN (D:=[]) hk rfl _ (fun hl=>?_) (fun j v G hl hv=>by simp at G);simp only;rw [ao,dr u]
 try simp only [pure_bind]
 cases c <;> exact F
def xJ {s:Xaa} (K:Xab->Hp->Prop) (d:K (.string s) h):aU P (Instr.keyThatStays (.string s) (.string s)) h K:=by
 unfold Instr.keyThatStays
 have:Instr.sameBits 10000 (.string s) (.string s)=true:=by
  show (s==s)=true;rw [xc]; simp
 rw [YC this];exact d
def fm {t k e:TypeId} (ht:P.underlying t=some (.map k e)) (hk:P.underlying k=some .string) {g:Nat} {D:List (Xaa × Xab)} (m:dV h g D) {s:Xaa} (hs:s.size<=maxLen) (v:Xab)
  (K:Unit->Hp->Prop) (hK:∀ h',dV h' g (iR D s v)->Ch [g] h h'->h'.size=h.size->K () h'):aU P (Instr.mapUpdate t (.map (some g)) (.string s) v) h K:=by
 obtain ⟨es,clock,hg,Z,O,hd⟩:=m;have hlt:=fc hg;have la:∀ o:Obj,Ch [g] h (h.setIfInBounds g o)/\(h.setIfInBounds g o).size=h.size/\(h.setIfInBounds g o)[g]?=some o:=by
  intro o;refine ⟨⟨aj,fun i hi hw=>?_⟩,aj,?_⟩
  ·rw [ZI,Yx (by simp at hw; exact fun e=>hw e.symm)]
  ·rw [ZI,YC rfl,YC hlt]
 unfold Instr.mapUpdate;rw [ao,aF ht];simp only;rw [ao];refine fW hg aj _ ?_;show aU P _ h _;rw [ao];refine pG (n:=9999) hk _ ?_;rw [ao];refine rN hk Z _ (fun hl=>?_) (fun j v' hj hl hv=>?_)
 ·refine nr hg aj _ ?_;obtain ⟨c1,c2,c3⟩:=la (.map (es.push { key:=.string s,val:=v,born:=clock }) (clock+1));refine hK _ ⟨_,_,c3,?_,?_,?_⟩ c1 c2
  ·rw [iR,hl];simp [Z]
  ·have hnew:(Value.string s)∉es.toList.map (·.key):=by
    intro hm;have h1:es.toList.map (·.key)=D.map (fun p=>Value.string p.1):=by
     have:=YJ (List.map (·.1)) Z
     simpa [List.map_map,Function.comp_def] using this
    rw [h1] at hm;obtain ⟨p,F,U⟩:=YF.1 hm;have U:p.1=s:=by simpa using U
    simp only [look,Option.map_eq_none_iff,List.find?_eq_none,decide_eq_true_eq] at hl;exact hl p F U.symm
   obtain ⟨s1,s2,s3⟩:=O;refine ⟨?_,?_,?_⟩
   ·intro x hx;simp only [Array.toList_push,List.mem_append,List.mem_singleton] at hx;rcases hx with hx | rfl
    ·have:=s1 x hx; omega
    ·simp
   ·rw [Array.toList_push,YH];refine Zr.2 ⟨s2,aj,?_⟩;intro a ha b hb;have hb:b=clock:=by simpa using hb
    obtain ⟨x,hx,rfl⟩:=YF.1 ha
    have:=s1 x hx
    omega
   ·rw [Array.toList_push,YH];refine Zr.2 ⟨s3,aj,?_⟩;intro a ha b hb;have hb:b=.string s:=by simpa using hb
    rw [hb];exact fun hab=>hnew (hab▸ha)
  ·intro p F;rw [iR,hl] at F;simp only [Option.isSome_none,Bool.false_eq_true,if_false,List.mem_append,List.mem_singleton] at F;rcases F with F | rfl
   ·exact hd p F
   ·exact hs
 ·have J:es[j]?=some es[j]:=ZG (by simpa using hj);have u:es[j].key=.string s:=by
   have h1:es.toList[j]?=some es[j]:=by rw [ZO]; exact J
   rw [h1] at hv;simpa using hv
  show aU P _ h _;rw [ao];have hk2:((es[j]?).map (·.key)).getD (Value.string s)=.string s:=by rw [J]; simp [u]
  rw [hk2];refine xJ _ ?_;refine nr hg aj _ ?_;obtain ⟨c1,c2,c3⟩:=la (.map (es.modify j fun e=>{ e with key:=.string s,val:=v }) clock);have V:(es.modify j fun e=>{ e with key:=.string s,val:=v }).toList.map (·.key)=es.toList.map (·.key):=by
   apply ZF;intro i;simp only [List.getElem?_map,Array.getElem?_toList,Array.getElem?_modify]
   by_cases d:j=i
   ·subst d;rw [YC rfl,J];simp [u]
   ·rw [Yx d]
  have G:(es.modify j fun e=>{ e with key:=.string s,val:=v }).toList.map (·.born)=es.toList.map (·.born):=by
   apply ZF;intro i;simp only [List.getElem?_map,Array.getElem?_toList,Array.getElem?_modify]
   by_cases d:j=i
   ·subst d;rw [YC rfl,J]
    simp
   ·rw [Yx d]
  have hDl:D.length=es.size:=by
   have:=YJ List.length Z
   simpa using this.symm
  have hDk:∀ i,(hi:i<D.length)->(es[i]'ad).key=Value.string D[i].1/\(es[i]'ad).val=D[i].2:=by
   intro i hi;have h1:(es.toList.map (fun e=>(e.key,e.val)))[i]?=(D.map (fun p=>(Value.string p.1,p.2)))[i]?:=by rw [Z]
   simp only [List.getElem?_map,Array.getElem?_toList,List.getElem?_eq_getElem hi,Array.getElem?_eq_getElem (show i<es.size from ad),Option.map_some,Option.some.injEq,Prod.mk.injEq] at h1;exact h1
  have hnd:=dV.nodup (h:=h) (g:=g) ⟨es,clock,hg,Z,O,hd⟩;refine hK _ ⟨_,_,c3,?_,?_,?_⟩ c1 c2
  ·rw [iR,hl];simp only [Option.isSome_some,if_true];apply ZF;intro i;simp only [List.getElem?_map,Array.getElem?_toList,Array.getElem?_modify];rcases Zn i D.length with hi | hi
   ·obtain ⟨q1,q2⟩:=hDk i hi;rw [Yv hi,ZG (show i<es.size from ad)]
    by_cases d:j=i
    ·subst d;have X:s=D[j].1:=by rw [u] at q1; simpa using q1
     simp [<- X]
    ·have X:s≠D[i].1:=by
      intro hh;have Y:j<D.length:=by simp at hj; omega
      have q3:=(hDk j Y).1;rw [u] at q3;have q3:s=D[j].1:=by simpa using q3
      have:=am9.1 hnd
      rcases Zn i j with hl' | hl'
      ·exact this i j (by simpa using hi) (by simpa using Y) hl' (by simp [<- hh,<- q3])
      ·exact this j i (by simpa using Y) (by simpa using hi) ad (by simp [<- hh,<- q3])
     rw [Yx d];simp [X,q1,q2]
   ·rw [Y9 hi,Zt (show es.size<=i from ad)]
    simp
  ·obtain ⟨s1,s2,s3⟩:=O;refine ⟨?_,by rw [G]; exact s2,by rw [V]; exact s3⟩;intro x hx
   have:x.born∈es.toList.map (·.born):=by rw [<- G]; exact YF.2 ⟨x,hx,rfl⟩
   obtain ⟨y,hy,hyb⟩:=YF.1 this;rw [<- hyb]; exact s1 y hy
  ·intro p F;rw [iR,hl] at F;simp only [Option.isSome_some,if_true,List.mem_map] at F;obtain ⟨q,hq,rfl⟩:=F;split
   ·exact hd q hq
   ·exact hd q hq
end
end Go.Sx
