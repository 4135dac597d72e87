/- Part of the framework. No condition. -/
import Derived.Test.YthbffkdafjboiaaGreatDoorSxH
import Derived.MapKept
set_option linter.all false
set_option maxHeartbeats 4000000
namespace Go.Sx
open Go.MapKept
def wQ (a b:Xaa):(a==b)=decide (a=b):=by
 cases a with | mk x=>cases b with | mk y =>
 have h1:((ByteArray.mk x==ByteArray.mk y):Bool)=(x==y):=rfl;rw [h1]
 by_cases h:x=y
 ·subst h; simp
 ·simp [h]
def dW (h:Hp) (g:Nat) (D:List (Xaa × Xab)):Prop :=
 ∃ (es:Array MapEntry) (clock:Nat),h[g]?=some (.map es clock)/\es.toList.map (fun e=>(e.key,e.val))=D.map (fun p=>(Value.string p.1,p.2))/\Stamped es clock/\∀ p,p∈D->p.1.size<=maxLen
def dW.lt {h:Hp} {g:Nat} {D:List (Xaa × Xab)} (m:dW h g D):g<h.size:=by
 obtain ⟨_,_,j,_⟩:=m;exact fj j
def dW.ak {ws:List Nat} {h h':Hp} {g:Nat} {D:List (Xaa × Xab)} (m:dW h g D) (k:Ch ws h h') (hw:g∉ws):dW h' g D:=by
 obtain ⟨es,clock,j,r⟩:=m;exact ⟨es,clock,k.get j hw,r⟩
def look (D:List (Xaa × Xab)) (s:Xaa):Option Xab:=(D.find? fun p=>decide (s=p.1)).map (·.2)
def jn (D:List (Xaa × Xab)) (s:Xaa) (v:Xab):List (Xaa × Xab) :=
 if (look D s).isSome then D.map fun p=>if s=p.1 then (p.1,v) else p else D++[(s,v)]
def dW.nodup {h:Hp} {g:Nat} {D:List (Xaa × Xab)} (m:dW h g D):(D.map (·.1)).Nodup:=by
 obtain ⟨es,clock,u,j,hs,_⟩:=m;have h1:es.toList.map (·.key)=D.map (fun p=>Value.string p.1):=by
  have:=Zl (List.map (·.1)) j
  simpa [List.map_map,Function.comp_def] using this
 have h2:=hs.2.2;rw [h1] at h2;rw [show D.map (fun p=>Value.string p.1)=(D.map (·.1)).map Value.string by simp [List.map_map,Function.comp_def]] at h2;exact (Z3.1 h2).imp (fun h e=>h (by rw [e]))
section
variable {P:Program} {h:Hp}
def fY {r:Nat} {o:Obj} (j:h[r]?=some o) (hc:∀ c e f,o≠.cells c e f) (K:Obj->Hp->Prop) (hk:K o h):aS P (getObj r) h K:=⟨o,j,hc,hk⟩
def mQ {r:Nat} {o o':Obj} (j:h[r]?=some o) (hc:∀ c e f,o≠.cells c e f) (K:Unit->Hp->Prop) (hk:K () (h.setIfInBounds r o')):aS P (setObj r o') h K:=⟨⟨o,j,hc⟩,hk⟩
def pe {b:Bool} {n:Nat} {k:TypeId} (hk:P.underlying k=some .string) {s:Xaa} (K:Unit->Hp->Prop) (j:K () h):aS P (Instr.checkKey b (n+1) k (.string s)) h K:=by
 unfold Instr.checkKey;rw [ao,aF hk];exact j
theorem xE (s:Xaa):∀ (es:List MapEntry) (D:List (Xaa × Xab)) (i:Nat),es.map (fun e=>(e.key,e.val))=D.map (fun p=>(Value.string p.1,p.2)) ->
  ((look D s=none/\Instr.findNow .string (.string s) es i=some none)\/∃ j v,j<es.length/\look D s=some v/\Instr.findNow .string (.string s) es i=some (some (i+j,v))/\(es[j]?).map (·.key)=some (.string s))
 | [],D,i,u=>by
  cases D with
  | nil=>exact .inl ⟨rfl,rfl⟩
  | cons p D=>simp at u
 | e::es,D,i,u=>by
  cases D with
  | nil=>simp at u
  | cons p D =>
   simp only [List.map_cons,List.cons.injEq,Prod.mk.injEq] at u;obtain ⟨⟨h1,h2⟩,h3⟩:=u;have hs:Instr.sameNow .string (.string s) e.key=some (s==p.1):=by rw [h1]; rfl
   by_cases G:s=p.1
   ·refine .inr ⟨0,p.2,aj,?_,?_,?_⟩
    ·simp [look,G]
    ·unfold Instr.findNow;rw [hs,wQ,Y6 G];simp [h2]
    ·simp [h1,G]
   ·have hl:look (p::D) s=look D s:=by simp [look,G]
    have J:Instr.findNow .string (.string s) (e::es) i=Instr.findNow .string (.string s) es (i+1):=by
     conv=>lhs; unfold Instr.findNow
     rw [hs,wQ,Y7 G]
    rcases xE s es D (i+1) h3 with ⟨h4,h5⟩ | ⟨j,v,h4,h5,h6,h7⟩
    ·exact .inl ⟨by rw [hl]; exact h4,by rw [J]; exact h5⟩
    ·refine .inr ⟨j+1,v,by simp; omega,by rw [hl]; exact h5,?_,by simpa using h7⟩;rw [J,h6]
     congr 2
     congr 1
     omega
def rq {k:TypeId} (hk:P.underlying k=some .string) {s:Xaa} {es:List MapEntry} {D:List (Xaa × Xab)} (u:es.map (fun e=>(e.key,e.val))=D.map (fun p=>(Value.string p.1,p.2))) (K:Option (Nat × Xab)->Hp->Prop)
  (h0:look D s=none->K none h) (h1:∀ j v,j<es.length->look D s=some v->(es[j]?).map (·.key)=some (.string s)->K (some (j,v)) h):aS P (Instr.findKey k (.string s) es) h K:=by
 unfold Instr.findKey;rw [ao,aF hk];rcases xE s es D 0 u with ⟨h4,h5⟩ | ⟨j,v,h4,h5,h6,h7⟩
 ·rw [h5]; exact h0 h4
 ·rw [h6];rw [ZJ];exact h1 j v h4 h5 h7
def jJ {t:TypeId} (K:Xab->Hp->Prop) (hk:∀ h',dW h' h.size []->Ext h h'->h'.size=h.size+1->K (.map (some h.size)) h'):aS P (Instr.makeMap t none) h K:=by
 unfold Instr.makeMap;refine hk (h.push (.map #[] 0)) ⟨#[],0,by rw [Array.getElem?_push_size],rfl,⟨aj,aj,aj⟩,aj⟩ (Ext.push h _) aj
def iB {t k e:TypeId} (G:P.underlying t=some (.map k e)) (hk:P.underlying k=some .string) {z:Xab} (J:(P.info? e).bind (·.zero)=some z) {g:Nat} {D:List (Xaa × Xab)} (m:dW h g D) (s:Xaa) (c:Bool)
  (K:Xab->Hp->Prop) (u:K (if c then .tuple #[(look D s).getD z,.bool (look D s).isSome] else (look D s).getD z) h):aS P (Instr.lookup t (.map (some g)) (.string s) c) h K:=by
 obtain ⟨es,clock,O,U,hs,V⟩:=m;unfold Instr.lookup;rw [ao,aF G];simp only;rw [ao];refine fY O aj _ ?_;simp only [pure_bind];rw [ao];refine pe (n:=9999) hk _ ?_;rw [ao];refine rq hk U _ (fun hl=>?_) (fun j v X hl hv=>?_)
 ·rw [hl] at u;simp only;rw [ao,dt J]
  try simp only [pure_bind]
  cases c <;> exact u
 ·rw [hl] at u;simp only [pure_bind];cases c <;> exact u
def lookup_nil {t k e:TypeId} (u:P.underlying t=some (.map k e)) (hk:P.underlying k=some .string) {z:Xab} (G:(P.info? e).bind (·.zero)=some z) (s:Xaa) (c:Bool)
  (K:Xab->Hp->Prop) (J:K (if c then .tuple #[z,.bool false] else z) h):aS P (Instr.lookup t (.map none) (.string s) c) h K:=by
 unfold Instr.lookup;rw [ao,aF u];simp only [pure_bind];rw [ao];refine pe (n:=9999) hk _ ?_;rw [ao];refine rq (D:=[]) hk rfl _ (fun hl=>?_) (fun j v O hl hv=>by simp at O);simp only;rw [ao,dt G]
 try simp only [pure_bind]
 cases c <;> exact J
def xy {s:Xaa} (K:Xab->Hp->Prop) (j:K (.string s) h):aS P (Instr.keyThatStays (.string s) (.string s)) h K:=by
 unfold Instr.keyThatStays
 have:Instr.sameBits 10000 (.string s) (.string s)=true:=by
  show (s==s)=true;rw [wQ]; simp
 rw [Y8 this];exact j
def fp {t k e:TypeId} (ht:P.underlying t=some (.map k e)) (hk:P.underlying k=some .string) {g:Nat} {D:List (Xaa × Xab)} (m:dW h g D) {s:Xaa} (hs:s.size<=maxLen) (v:Xab)
  (K:Unit->Hp->Prop) (hK:∀ h',dW h' g (jn D s v)->Ch [g] h h'->h'.size=h.size->K () h'):aS P (Instr.mapUpdate t (.map (some g)) (.string s) v) h K:=by
 obtain ⟨es,clock,hg,he,V,hd⟩:=m;have hlt:=fj hg;have kR:∀ o:Obj,Ch [g] h (h.setIfInBounds g o)/\(h.setIfInBounds g o).size=h.size/\(h.setIfInBounds g o)[g]?=some o:=by
  intro o;refine ⟨⟨aj,fun i hi hw=>?_⟩,aj,?_⟩
  ·rw [ak9,Y2 (by simp at hw; exact fun e=>hw e.symm)]
  ·rw [ak9,Y8 rfl,Y8 hlt]
 unfold Instr.mapUpdate;rw [ao,aF ht];simp only;rw [ao];refine fY hg aj _ ?_;show aS P _ h _;rw [ao];refine pe (n:=9999) hk _ ?_;rw [ao];refine rq hk he _ (fun hl=>?_) (fun j v' hj hl hv=>?_)
 ·refine mQ hg aj _ ?_;obtain ⟨c1,c2,c3⟩:=kR (.map (es.push { key:=.string s,val:=v,born:=clock }) (clock+1));refine hK _ ⟨_,_,c3,?_,?_,?_⟩ c1 c2
  ·rw [jn,hl];simp [he]
  ·have hnew:(Value.string s)∉es.toList.map (·.key):=by
    intro hm;have h1:es.toList.map (·.key)=D.map (fun p=>Value.string p.1):=by
     have:=Zl (List.map (·.1)) he
     simpa [List.map_map,Function.comp_def] using this
    rw [h1] at hm;obtain ⟨p,J,X⟩:=Za.1 hm;have X:p.1=s:=by simpa using X
    simp only [look,Option.map_eq_none_iff,List.find?_eq_none,decide_eq_true_eq] at hl;exact hl p J X.symm
   obtain ⟨s1,s2,s3⟩:=V;refine ⟨?_,?_,?_⟩
   ·intro x hx;simp only [Array.toList_push,List.mem_append,List.mem_singleton] at hx;rcases hx with hx | rfl
    ·have:=s1 x hx; omega
    ·simp
   ·rw [Array.toList_push,Ze];refine ZX.2 ⟨s2,aj,?_⟩;intro a ha b hb;have hb:b=clock:=by simpa using hb
    obtain ⟨x,hx,rfl⟩:=Za.1 ha
    have:=s1 x hx
    omega
   ·rw [Array.toList_push,Ze];refine ZX.2 ⟨s3,aj,?_⟩;intro a ha b hb;have hb:b=.string s:=by simpa using hb
    rw [hb];exact fun hab=>hnew (hab▸ha)
  ·intro p J;rw [jn,hl] at J;simp only [Option.isSome_none,Bool.false_eq_true,if_false,List.mem_append,List.mem_singleton] at J;rcases J with J | rfl
   ·exact hd p J
   ·exact hs
 ·have U:es[j]?=some es[j]:=ah9 (by simpa using hj);have G:es[j].key=.string s:=by
   have h1:es.toList[j]?=some es[j]:=by rw [an9]; exact U
   rw [h1] at hv;simpa using hv
  show aS P _ h _;rw [ao];have hk2:((es[j]?).map (·.key)).getD (Value.string s)=.string s:=by rw [U]; simp [G]
  rw [hk2];refine xy _ ?_;refine mQ hg aj _ ?_;obtain ⟨c1,c2,c3⟩:=kR (.map (es.modify j fun e=>{ e with key:=.string s,val:=v }) clock);have Y:(es.modify j fun e=>{ e with key:=.string s,val:=v }).toList.map (·.key)=es.toList.map (·.key):=by
   apply ae9;intro i;simp only [List.getElem?_map,Array.getElem?_toList,Array.getElem?_modify]
   by_cases u:j=i
   ·subst u;rw [Y8 rfl,U];simp [G]
   ·rw [Y2 u]
  have O:(es.modify j fun e=>{ e with key:=.string s,val:=v }).toList.map (·.born)=es.toList.map (·.born):=by
   apply ae9;intro i;simp only [List.getElem?_map,Array.getElem?_toList,Array.getElem?_modify]
   by_cases u:j=i
   ·subst u;rw [Y8 rfl,U]
    simp
   ·rw [Y2 u]
  have hDl:D.length=es.size:=by
   have:=Zl List.length he
   simpa using this.symm
  have hDk:∀ i,(hi:i<D.length)->(es[i]'ad).key=Value.string D[i].1/\(es[i]'ad).val=D[i].2:=by
   intro i hi;have h1:(es.toList.map (fun e=>(e.key,e.val)))[i]?=(D.map (fun p=>(Value.string p.1,p.2)))[i]?:=by rw [he]
   simp only [List.getElem?_map,Array.getElem?_toList,List.getElem?_eq_getElem hi,Array.getElem?_eq_getElem (show i<es.size from ad),Option.map_some,Option.some.injEq,Prod.mk.injEq] at h1;exact h1
  have hnd:=dW.nodup (h:=h) (g:=g) ⟨es,clock,hg,he,V,hd⟩;refine hK _ ⟨_,_,c3,?_,?_,?_⟩ c1 c2
  ·rw [jn,hl];simp only [Option.isSome_some,if_true];apply ae9;intro i;simp only [List.getElem?_map,Array.getElem?_toList,Array.getElem?_modify];rcases ZS i D.length with hi | hi
   ·obtain ⟨q1,q2⟩:=hDk i hi;rw [Y1 hi,ah9 (show i<es.size from ad)]
    by_cases u:j=i
    ·subst u;have Z:s=D[j].1:=by rw [G] at q1; simpa using q1
     simp [<- Z]
    ·have Z:s≠D[i].1:=by
      intro hh;have hj':j<D.length:=by simp at hj; omega
      have q3:=(hDk j hj').1;rw [G] at q3;have q3:s=D[j].1:=by simpa using q3
      have:=bs9.1 hnd
      rcases ZS i j with hl' | hl'
      ·exact this i j (by simpa using hi) (by simpa using hj') hl' (by simp [<- hh,<- q3])
      ·exact this j i (by simpa using hj') (by simpa using hi) ad (by simp [<- hh,<- q3])
     rw [Y2 u];simp [Z,q1,q2]
   ·rw [ZI hi,ZT (show es.size<=i from ad)]
    simp
  ·obtain ⟨s1,s2,s3⟩:=V;refine ⟨?_,by rw [O]; exact s2,by rw [Y]; exact s3⟩;intro x hx
   have:x.born∈es.toList.map (·.born):=by rw [<- O]; exact Za.2 ⟨x,hx,rfl⟩
   obtain ⟨y,hy,hyb⟩:=Za.1 this;rw [<- hyb]; exact s1 y hy
  ·intro p J;rw [jn,hl] at J;simp only [Option.isSome_some,if_true,List.mem_map] at J;obtain ⟨q,hq,rfl⟩:=J;split
   ·exact hd q hq
   ·exact hd q hq
end
end Go.Sx
