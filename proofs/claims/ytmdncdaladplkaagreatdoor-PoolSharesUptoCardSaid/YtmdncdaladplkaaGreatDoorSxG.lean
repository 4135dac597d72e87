/- Part of the framework. No condition. -/
import Derived.Test.YtmdncdaladplkaaGreatDoorSxH
import Derived.MapKept
set_option linter.all false
set_option maxHeartbeats 4000000
namespace Go.Sx
open Go.MapKept
def sg (a b:Xaa):(a==b)=decide (a=b):=by
 cases a with | mk x=>cases b with | mk y =>
 have h1:((ByteArray.mk x==ByteArray.mk y):Bool)=(x==y):=rfl;rw [h1]
 by_cases h:x=y
 ·subst h; simp
 ·simp [h]
def fl (h:Hp) (g:Nat) (D:List (Xaa × Xab)):Prop :=
 ∃ (es:Array MapEntry) (clock:Nat),h[g]?=some (.map es clock)/\es.toList.map (fun e=>(e.key,e.val))=D.map (fun p=>(Value.string p.1,p.2))/\Stamped es clock/\∀ p,p∈D->p.1.size<=maxLen
variable {H:Hp} {O:Nat} {U:List (Xaa × Xab)}
def fl.lt (m:fl H O U):O<H.size:=by
 obtain ⟨_,_,a,_⟩:=m;exact eV a
def fl.an {ws:List Nat} {h':Hp} {D:List (Xaa × Xab)} (m:fl H O D) (k:Ch ws H h') (a:O∉ws):fl h' O D:=by
 obtain ⟨es,clock,b,r⟩:=m;exact ⟨es,clock,k.get b a,r⟩
def look (D:List (Xaa × Xab)) (s:Xaa):Option Xab:=(D.find? fun p=>decide (s=p.1)).map (·.2)
def kO (D:List (Xaa × Xab)) (s:Xaa) (v:Xab):List (Xaa × Xab) :=
 if (look D s).isSome then D.map fun p=>if s=p.1 then (p.1,v) else p else D++[(s,v)]
def fl.nodup {h:Hp} {g:Nat} (m:fl h g U):(U.map (·.1)).Nodup:=by
 obtain ⟨es,clock,c,a,b,_⟩:=m;have h1:es.toList.map (·.key)=U.map (fun p=>Value.string p.1):=by
  have:=as9 (List.map (·.1)) a
  simpa [List.map_map,Function.comp_def] using this
 have h2:=b.2.2;rw [h1] at h2;rw [show U.map (fun p=>Value.string p.1)=(U.map (·.1)).map Value.string by simp [List.map_map,Function.comp_def]] at h2;exact (cr9.1 h2).imp (fun h e=>h (by rw [e]))
section
variable {P:Program} {h:Hp}
variable {O:Nat} {Z:Obj}
def fF (a:h[O]?=some Z) (hc:∀ c e f,Z≠.cells c e f) (K:Obj->Hp->Prop) (hk:K Z h):aS P (getObj O) h K:=⟨Z,a,hc,hk⟩
def nO {o':Obj} (a:h[O]?=some Z) (hc:∀ c e f,Z≠.cells c e f) (K:Unit->Hp->Prop) (hk:K () (h.setIfInBounds O o')):aS P (setObj O o') h K:=⟨⟨Z,a,hc⟩,hk⟩
variable {H V Y:TypeId} {U:Xaa}
def qj {b:Bool} {n:Nat} (hk:P.underlying H=some .string) (K:Unit->Hp->Prop) (a:K () h):aS P (Instr.checkKey b (n+1) H (.string U)) h K:=by
 unfold Instr.checkKey;rw [av,aC hk];exact a
theorem yV (s:Xaa):∀ (es:List MapEntry) (D:List (Xaa × Xab)) (i:Nat),es.map (fun e=>(e.key,e.val))=D.map (fun p=>(Value.string p.1,p.2)) ->
  ((look D s=none/\Instr.findNow .string (.string s) es i=some none)\/∃ j v,j<es.length/\look D s=some v/\Instr.findNow .string (.string s) es i=some (some (i+j,v))/\(es[j]?).map (·.key)=some (.string s))
 | [],D,i,a=>by
  cases D with
  | nil=>exact .inl ⟨rfl,rfl⟩
  | cons p D=>simp at a
 | e::es,D,i,a=>by
  cases D with
  | nil=>simp at a
  | cons p D =>
   simp only [List.map_cons,List.cons.injEq,Prod.mk.injEq] at a;obtain ⟨⟨h1,h2⟩,k⟩:=a;have d:Instr.sameNow .string (.string s) e.key=some (s==p.1):=by rw [h1]; rfl
   by_cases b:s=p.1
   ·refine .inr ⟨0,p.2,aj,?_,?_,?_⟩
    ·simp [look,b]
    ·unfold Instr.findNow;rw [d,sg,aj9 b];simp [h2]
    ·simp [h1,b]
   ·have hl:look (p::D) s=look D s:=by simp [look,b]
    have f:Instr.findNow .string (.string s) (e::es) i=Instr.findNow .string (.string s) es (i+1):=by
     conv=>lhs; unfold Instr.findNow
     rw [d,sg,ak9 b]
    rcases yV s es D (i+1) k with ⟨g,c⟩ | ⟨j,v,g,c,l,m⟩
    ·exact .inl ⟨by rw [hl]; exact g,by rw [f]; exact c⟩
    ·refine .inr ⟨j+1,v,by simp; omega,by rw [hl]; exact c,?_,by simpa using m⟩;rw [f,l]
     congr 2
     congr 1
     omega
def sR (hk:P.underlying H=some .string) {es:List MapEntry} {D:List (Xaa × Xab)} (c:es.map (fun e=>(e.key,e.val))=D.map (fun p=>(Value.string p.1,p.2))) (K:Option (Nat × Xab)->Hp->Prop)
  (h0:look D U=none->K none h) (h1:∀ j v,j<es.length->look D U=some v->(es[j]?).map (·.key)=some (.string U)->K (some (j,v)) h):aS P (Instr.findKey H (.string U) es) h K:=by
 unfold Instr.findKey;rw [av,aC hk];rcases yV U es D 0 c with ⟨a,b⟩ | ⟨j,v,a,b,d,f⟩
 ·rw [b]; exact h0 a
 ·rw [d];rw [bu9];exact h1 j v a b f
def nj (K:Xab->Hp->Prop) (hk:∀ h',fl h' h.size []->Ext h h'->h'.size=h.size+1->K (.map (some h.size)) h'):aS P (Instr.makeMap H none) h K:=by
 unfold Instr.makeMap;refine hk (h.push (.map #[] 0)) ⟨#[],0,by rw [Array.getElem?_push_size],rfl,⟨aj,aj,aj⟩,aj⟩ (Ext.push h _) aj
variable {a:Xab} {b:List (Xaa × Xab)}
def j6 (ht:P.underlying H=some (.map V Y)) (hk:P.underlying V=some .string) (f:(P.info? Y).bind (·.zero)=some a) (m:fl h O b) (s:Xaa) (c:Bool)
  (K:Xab->Hp->Prop) (d:K (if c then .tuple #[(look b s).getD a,.bool (look b s).isSome] else (look b s).getD a) h):aS P (Instr.lookup H (.map (some O)) (.string s) c) h K:=by
 obtain ⟨es,clock,i,l,o,p⟩:=m;unfold Instr.lookup;rw [av,aC ht];simp only;rw [av];refine fF i aj _ ?_;simp only [pure_bind];rw [av];refine qj (n:=9999) hk _ ?_;rw [av];refine sR hk l _ (fun hl=>?_) (fun j v q hl hv=>?_)
 ·rw [hl] at d;simp only;rw [av,dH f]
  try simp only [pure_bind]
  cases c <;> exact d
 ·rw [hl] at d;simp only [pure_bind];cases c <;> exact d
def lookup_nil (ht:P.underlying H=some (.map V Y)) (hk:P.underlying V=some .string) (b:(P.info? Y).bind (·.zero)=some a) (s:Xaa) (c:Bool)
  (K:Xab->Hp->Prop) (d:K (if c then .tuple #[a,.bool false] else a) h):aS P (Instr.lookup H (.map none) (.string s) c) h K:=by
 unfold Instr.lookup;rw [av,aC ht];simp only [pure_bind];rw [av];refine qj (n:=9999) hk _ ?_;rw [av];refine sR (D:=[]) hk rfl _ (fun hl=>?_) (fun j v f hl hv=>by simp at f);simp only;rw [av,dH b]
 try simp only [pure_bind]
 cases c <;> exact d
def yM (K:Xab->Hp->Prop) (a:K (.string U) h):aS P (Instr.keyThatStays (.string U) (.string U)) h K:=by
 unfold Instr.keyThatStays
 have:Instr.sameBits 10000 (.string U) (.string U)=true:=by
  show (U==U)=true;rw [sg]; simp
 rw [ag9 this];exact a
def gV (ht:P.underlying H=some (.map V Y)) (hk:P.underlying V=some .string) (m:fl h O b) {s:Xaa} (hs:s.size<=maxLen) (v:Xab)
  (K:Unit->Hp->Prop) (hK:∀ h',fl h' O (kO b s v)->Ch [O] h h'->h'.size=h.size->K () h'):aS P (Instr.mapUpdate H (.map (some O)) (.string s) v) h K:=by
 obtain ⟨es,clock,I,F,z,N⟩:=m;have hlt:=eV I;have lG:∀ o:Obj,Ch [O] h (h.setIfInBounds O o)/\(h.setIfInBounds O o).size=h.size/\(h.setIfInBounds O o)[O]?=some o:=by
  intro o;refine ⟨⟨aj,fun i hi hw=>?_⟩,aj,?_⟩
  ·rw [di9,ac9 (by simp at hw; exact fun Y=>hw Y.symm)]
  ·rw [di9,ag9 rfl,ag9 hlt]
 unfold Instr.mapUpdate;rw [av,aC ht];simp only;rw [av];refine fF I aj _ ?_;show aS P _ h _;rw [av];refine qj (n:=9999) hk _ ?_;rw [av];refine sR hk F _ (fun hl=>?_) (fun j v' hj hl hv=>?_)
 ·refine nO I aj _ ?_;obtain ⟨R,S,c3⟩:=lG (.map (es.push { key:=.string s,val:=v,born:=clock }) (clock+1));refine hK _ ⟨_,_,c3,?_,?_,?_⟩ R S
  ·rw [kO,hl];simp [F]
  ·have J:(Value.string s)∉es.toList.map (·.key):=by
    intro hm;have h1:es.toList.map (·.key)=b.map (fun p=>Value.string p.1):=by
     have:=as9 (List.map (·.1)) F
     simpa [List.map_map,Function.comp_def] using this
    rw [h1] at hm;obtain ⟨p,l,A⟩:=an9.1 hm;have A:p.1=s:=by simpa using A
    simp only [look,Option.map_eq_none_iff,List.find?_eq_none,decide_eq_true_eq] at hl;exact hl p l A.symm
   obtain ⟨Q,U,W⟩:=z;refine ⟨?_,?_,?_⟩
   ·intro x w;simp only [Array.toList_push,List.mem_append,List.mem_singleton] at w;rcases w with w | rfl
    ·have:=Q x w; omega
    ·simp
   ·rw [Array.toList_push,ao9];refine cs9.2 ⟨U,aj,?_⟩;intro a X c G;have G:c=clock:=by simpa using G
    obtain ⟨x,w,rfl⟩:=an9.1 X
    have:=Q x w
    omega
   ·rw [Array.toList_push,ao9];refine cs9.2 ⟨W,aj,?_⟩;intro a X c G;have G:c=.string s:=by simpa using G
    rw [G];exact fun Z=>J (Z▸X)
  ·intro p l;rw [kO,hl] at l;simp only [Option.isSome_none,Bool.false_eq_true,if_false,List.mem_append,List.mem_singleton] at l;rcases l with l | rfl
   ·exact N p l
   ·exact hs
 ·have u:es[j]?=some es[j]:=dg9 (by simpa using hj);have f:es[j].key=.string s:=by
   have h1:es.toList[j]?=some es[j]:=by rw [dm9]; exact u
   rw [h1] at hv;simpa using hv
  show aS P _ h _;rw [av];have hk2:((es[j]?).map (·.key)).getD (Value.string s)=.string s:=by rw [u]; simp [f]
  rw [hk2];refine yM _ ?_;refine nO I aj _ ?_;obtain ⟨R,S,c3⟩:=lG (.map (es.modify j fun Y=>{ Y with key:=.string s,val:=v }) clock);have B:(es.modify j fun Y=>{ Y with key:=.string s,val:=v }).toList.map (·.key)=es.toList.map (·.key):=by
   apply df9;intro i;simp only [List.getElem?_map,Array.getElem?_toList,Array.getElem?_modify]
   by_cases d:j=i
   ·subst d;rw [ag9 rfl,u];simp [f]
   ·rw [ac9 d]
  have r:(es.modify j fun Y=>{ Y with key:=.string s,val:=v }).toList.map (·.born)=es.toList.map (·.born):=by
   apply df9;intro i;simp only [List.getElem?_map,Array.getElem?_toList,Array.getElem?_modify]
   by_cases d:j=i
   ·subst d;rw [ag9 rfl,u]
    simp
   ·rw [ac9 d]
  have hDl:b.length=es.size:=by
   have:=as9 List.length F
   simpa using this.symm
  have L:∀ i,(hi:i<b.length)->(es[i]'ad).key=Value.string b[i].1/\(es[i]'ad).val=b[i].2:=by
   intro i hi;have h1:(es.toList.map (fun Y=>(Y.key,Y.val)))[i]?=(b.map (fun p=>(Value.string p.1,p.2)))[i]?:=by rw [F]
   simp only [List.getElem?_map,Array.getElem?_toList,List.getElem?_eq_getElem hi,Array.getElem?_eq_getElem (show i<es.size from ad),Option.map_some,Option.some.injEq,Prod.mk.injEq] at h1;exact h1
  have hnd:=fl.nodup (h:=h) (g:=O) ⟨es,clock,I,F,z,N⟩;refine hK _ ⟨_,_,c3,?_,?_,?_⟩ R S
  ·rw [kO,hl];simp only [Option.isSome_some,if_true];apply df9;intro i;simp only [List.getElem?_map,Array.getElem?_toList,Array.getElem?_modify];rcases cm9 i b.length with hi | hi
   ·obtain ⟨q1,q2⟩:=L i hi;rw [ad9 hi,dg9 (show i<es.size from ad)]
    by_cases d:j=i
    ·subst d;have C:s=b[j].1:=by rw [f] at q1; simpa using q1
     simp [<- C]
    ·have C:s≠b[i].1:=by
      intro hh;have E:j<b.length:=by simp at hj; omega
      have q3:=(L j E).1;rw [f] at q3;have q3:s=b[j].1:=by simpa using q3
      have:=ev9.1 hnd
      rcases cm9 i j with M | M
      ·exact this i j (by simpa using hi) (by simpa using E) M (by simp [<- hh,<- q3])
      ·exact this j i (by simpa using E) (by simpa using hi) ad (by simp [<- hh,<- q3])
     rw [ac9 d];simp [C,q1,q2]
   ·rw [bs9 hi,cu9 (show es.size<=i from ad)]
    simp
  ·obtain ⟨Q,U,W⟩:=z;refine ⟨?_,by rw [r]; exact U,by rw [B]; exact W⟩;intro x w
   have:x.born∈es.toList.map (·.born):=by rw [<- r]; exact an9.2 ⟨x,w,rfl⟩
   obtain ⟨y,hy,hyb⟩:=an9.1 this;rw [<- hyb]; exact Q y hy
  ·intro p l;rw [kO,hl] at l;simp only [Option.isSome_some,if_true,List.mem_map] at l;obtain ⟨q,hq,rfl⟩:=l;split
   ·exact N q hq
   ·exact N q hq
end
end Go.Sx
