/- Part of the framework. No condition. -/
import Derived.Test.YtmdncdaladplkaaGreatDoorSxH
import Derived.MapKept
set_option linter.all false
set_option maxHeartbeats 4000000
namespace Go.Sx
open Go.MapKept
def sV (a b:Xaa):(a==b)=decide (a=b):=by
 cases a with | mk x=>cases b with | mk y =>
 have h1:((ByteArray.mk x==ByteArray.mk y):Bool)=(x==y):=rfl;rw [h1]
 by_cases h:x=y
 ·subst h; simp
 ·simp [h]
def fq (h:Hp) (g:Nat) (D:List (Xaa × Xab)):Prop :=
 ∃ (es:Array MapEntry) (clock:Nat),h[g]?=some (.map es clock)/\es.toList.map (λe=>(e.key,e.val))=D.map (λp=>(Value.string p.1,p.2))/\Stamped es clock/\∀ p,p∈D->p.1.size<=maxLen
variable {H:Hp} {O:Nat} {U:List (Xaa × Xab)}
def fq.lt (m:fq H O U):O<H.size:=by
 obtain ⟨_,_,a,_⟩:=m;exact eY a
def fq.aj {ws:List Nat} {h':Hp} {D:List (Xaa × Xab)} (m:fq H O D) (k:Ch ws H h') (a:O∉ws):fq h' O D:=by
 obtain ⟨es,clock,b,r⟩:=m;exact ⟨es,clock,k.get b a,r⟩
def look (D:List (Xaa × Xab)) (s:Xaa):Option Xab:=(D.find? λp=>decide (s=p.1)).map (·.2)
def lG (D:List (Xaa × Xab)) (s:Xaa) (v:Xab):List (Xaa × Xab) :=
 if (look D s).isSome then D.map λp=>if s=p.1 then (p.1,v) else p else D++[(s,v)]
def fq.nodup {h:Hp} {g:Nat} (m:fq h g U):(U.map (·.1)).Nodup:=by
 obtain ⟨es,clock,c,a,b,_⟩:=m;have h1:es.toList.map (·.key)=U.map (λp=>Value.string p.1):=by
  have:=as9 (List.map (·.1)) a
  simpa [List.map_map,Function.comp_def] using this
 have h2:=b.2.2;rw [h1] at h2;rw [show U.map (λp=>Value.string p.1)=(U.map (·.1)).map Value.string by simp [List.map_map,Function.comp_def]] at h2;exact (cs9.1 h2).imp (λh e=>h (by rw [e]))
section
variable {P:Program} {h:Hp}
variable {O:Nat} {Z:Obj}
def gU (a:h[O]?=some Z) (hc:∀ c e f,Z≠.cells c e f) (K:Obj->Hp->Prop) (hk:K Z h):aQ P (getObj O) h K:=⟨Z,a,hc,hk⟩
def ox {o':Obj} (a:h[O]?=some Z) (hc:∀ c e f,Z≠.cells c e f) (K:Unit->Hp->Prop) (hk:K () (h.setIfInBounds O o')):aQ P (setObj O o') h K:=⟨⟨Z,a,hc⟩,hk⟩
variable {H V Y:TypeId} {U:Xaa}
def qQ {b:Bool} {n:Nat} (hk:P.underlying H=some .string) (K:Unit->Hp->Prop) (a:K () h):aQ P (Instr.checkKey b (n+1) H (.string U)) h K:=by
 unfold Instr.checkKey;rw [an,az hk];exact a
theorem zi (s:Xaa):∀ (es:List MapEntry) (D:List (Xaa × Xab)) (i:Nat),es.map (λe=>(e.key,e.val))=D.map (λp=>(Value.string p.1,p.2)) ->
  ((look D s=none/\Instr.findNow .string (.string s) es i=some none)\/∃ j v,j<es.length/\look D s=some v/\Instr.findNow .string (.string s) es i=some (some (i+j,v))/\(es[j]?).map (·.key)=some (.string s))
 | [],D,i,a=>by
  cases D with
  | nil=>exact .inl ⟨rfl,rfl⟩
  | cons p D=>simp at a
 | e::es,D,i,a=>by
  cases D with
  | nil=>simp at a
  | cons p D =>
   simp only [List.map_cons,List.cons.injEq,Prod.mk.injEq] at a;obtain ⟨⟨h1,h2⟩,k⟩:=a;have d:Instr.sameNow .string (.string s) e.key=some (s==p.1):=by rw [h1]; rfl
   by_cases b:s=p.1
   ·refine .inr ⟨0,p.2,ai,?_,?_,?_⟩
    ·simp [look,b]
    ·unfold Instr.findNow;rw [d,sV,ak9 b];simp [h2]
    ·simp [h1,b]
   ·have hl:look (p::D) s=look D s:=by simp [look,b]
    have f:Instr.findNow .string (.string s) (e::es) i=Instr.findNow .string (.string s) es (i+1):=by
     conv=>lhs; unfold Instr.findNow
     rw [d,sV,al9 b]
    rcases zi s es D (i+1) k with ⟨g,c⟩ | ⟨j,v,g,c,l,m⟩
    ·exact .inl ⟨by rw [hl]; exact g,by rw [f]; exact c⟩
    ·refine .inr ⟨j+1,v,by simp; omega,by rw [hl]; exact c,?_,by simpa using m⟩;rw [f,l]
     congr 2
     congr 1
     omega
def tH (hk:P.underlying H=some .string) {es:List MapEntry} {D:List (Xaa × Xab)} (c:es.map (λe=>(e.key,e.val))=D.map (λp=>(Value.string p.1,p.2))) (K:Option (Nat × Xab)->Hp->Prop)
  (h0:look D U=none->K none h) (h1:∀ j v,j<es.length->look D U=some v->(es[j]?).map (·.key)=some (.string U)->K (some (j,v)) h):aQ P (Instr.findKey H (.string U) es) h K:=by
 unfold Instr.findKey;rw [an,az hk];rcases zi U es D 0 c with ⟨a,b⟩ | ⟨j,v,a,b,d,f⟩
 ·rw [b]; exact h0 a
 ·rw [d];rw [by9];exact h1 j v a b f
def nP (K:Xab->Hp->Prop) (hk:∀ h',fq h' h.size []->Ext h h'->h'.size=h.size+1->K (.map (some h.size)) h'):aQ P (Instr.makeMap H none) h K:=by
 unfold Instr.makeMap;refine hk (h.push (.map #[] 0)) ⟨#[],0,by rw [Array.getElem?_push_size],rfl,⟨ai,ai,ai⟩,ai⟩ (Ext.push h _) ai
variable {a:Xab} {b:List (Xaa × Xab)}
def kD (ht:P.underlying H=some (.map V Y)) (hk:P.underlying V=some .string) (f:(P.info? Y).bind (·.zero)=some a) (m:fq h O b) (s:Xaa) (c:Bool)
  (K:Xab->Hp->Prop) (d:K (if c then .tuple #[(look b s).getD a,.bool (look b s).isSome] else (look b s).getD a) h):aQ P (Instr.lookup H (.map (some O)) (.string s) c) h K:=by
 obtain ⟨es,clock,i,l,o,p⟩:=m;unfold Instr.lookup;rw [an,az ht];simp only;rw [an];refine gU i ai _ ?_;simp only [pure_bind];rw [an];refine qQ (n:=9999) hk _ ?_;rw [an];refine tH hk l _ (λhl=>?_) (λj v q hl hv=>?_)
 ·rw [hl] at d;simp only;rw [an,dI f]
  try simp only [pure_bind]
  cases c <;> exact d
 ·rw [hl] at d;simp only [pure_bind];cases c <;> exact d
def lookup_nil (ht:P.underlying H=some (.map V Y)) (hk:P.underlying V=some .string) (b:(P.info? Y).bind (·.zero)=some a) (s:Xaa) (c:Bool)
  (K:Xab->Hp->Prop) (d:K (if c then .tuple #[a,.bool false] else a) h):aQ P (Instr.lookup H (.map none) (.string s) c) h K:=by
 unfold Instr.lookup;rw [an,az ht];simp only [pure_bind];rw [an];refine qQ (n:=9999) hk _ ?_;rw [an];refine tH (D:=[]) hk rfl _ (λhl=>?_) (λj v f hl hv=>by simp at f);simp only;rw [an,dI b]
 try simp only [pure_bind]
 cases c <;> exact d
def zc (K:Xab->Hp->Prop) (a:K (.string U) h):aQ P (Instr.keyThatStays (.string U) (.string U)) h K:=by
 unfold Instr.keyThatStays
 have:Instr.sameBits 10000 (.string U) (.string U)=true:=by
  show (U==U)=true;rw [sV]; simp
 rw [ag9 this];exact a
def ic (ht:P.underlying H=some (.map V Y)) (hk:P.underlying V=some .string) (m:fq h O b) {s:Xaa} (hs:s.size<=maxLen) (v:Xab)
  (K:Unit->Hp->Prop) (hK:∀ h',fq h' O (lG b s v)->Ch [O] h h'->h'.size=h.size->K () h'):aQ P (Instr.mapUpdate H (.map (some O)) (.string s) v) h K:=by
 obtain ⟨es,clock,I,F,z,N⟩:=m;have hlt:=eY I;have ml:∀ o:Obj,Ch [O] h (h.setIfInBounds O o)/\(h.setIfInBounds O o).size=h.size/\(h.setIfInBounds O o)[O]?=some o:=by
  intro o;refine ⟨⟨ai,λi hi hw=>?_⟩,ai,?_⟩
  ·rw [dm9,ac9 (by simp at hw; exact λY=>hw Y.symm)]
  ·rw [dm9,ag9 rfl,ag9 hlt]
 unfold Instr.mapUpdate;rw [an,az ht];simp only;rw [an];refine gU I ai _ ?_;show aQ P _ h _;rw [an];refine qQ (n:=9999) hk _ ?_;rw [an];refine tH hk F _ (λhl=>?_) (λj v' hj hl hv=>?_)
 ·refine ox I ai _ ?_;obtain ⟨R,S,c3⟩:=ml (.map (es.push { key:=.string s,val:=v,born:=clock }) (clock+1));refine hK _ ⟨_,_,c3,?_,?_,?_⟩ R S
  ·rw [lG,hl];simp [F]
  ·have J:(Value.string s)∉es.toList.map (·.key):=by
    intro hm;have h1:es.toList.map (·.key)=b.map (λp=>Value.string p.1):=by
     have:=as9 (List.map (·.1)) F
     simpa [List.map_map,Function.comp_def] using this
    rw [h1] at hm;obtain ⟨p,l,A⟩:=ap9.1 hm;have A:p.1=s:=by simpa using A
    simp only [look,Option.map_eq_none_iff,List.find?_eq_none,decide_eq_true_eq] at hl;exact hl p l A.symm
   obtain ⟨Q,U,W⟩:=z;refine ⟨?_,?_,?_⟩
   ·intro x w;simp only [Array.toList_push,List.mem_append,List.mem_singleton] at w;rcases w with w | rfl
    ·have:=Q x w; omega
    ·simp
   ·rw [Array.toList_push,ao9];refine ct9.2 ⟨U,ai,?_⟩;intro a X c G;have G:c=clock:=by simpa using G
    obtain ⟨x,w,rfl⟩:=ap9.1 X
    have:=Q x w
    omega
   ·rw [Array.toList_push,ao9];refine ct9.2 ⟨W,ai,?_⟩;intro a X c G;have G:c=.string s:=by simpa using G
    rw [G];exact λZ=>J (Z▸X)
  ·intro p l;rw [lG,hl] at l;simp only [Option.isSome_none,Bool.false_eq_true,if_false,List.mem_append,List.mem_singleton] at l;rcases l with l | rfl
   ·exact N p l
   ·exact hs
 ·have u:es[j]?=some es[j]:=dj9 (by simpa using hj);have f:es[j].key=.string s:=by
   have h1:es.toList[j]?=some es[j]:=by rw [dq9]; exact u
   rw [h1] at hv;simpa using hv
  show aQ P _ h _;rw [an];have hk2:((es[j]?).map (·.key)).getD (Value.string s)=.string s:=by rw [u]; simp [f]
  rw [hk2];refine zc _ ?_;refine ox I ai _ ?_;obtain ⟨R,S,c3⟩:=ml (.map (es.modify j λY=>{ Y with key:=.string s,val:=v }) clock);have B:(es.modify j λY=>{ Y with key:=.string s,val:=v }).toList.map (·.key)=es.toList.map (·.key):=by
   apply dh9;intro i;simp only [List.getElem?_map,Array.getElem?_toList,Array.getElem?_modify]
   by_cases d:j=i
   ·subst d;rw [ag9 rfl,u];simp [f]
   ·rw [ac9 d]
  have r:(es.modify j λY=>{ Y with key:=.string s,val:=v }).toList.map (·.born)=es.toList.map (·.born):=by
   apply dh9;intro i;simp only [List.getElem?_map,Array.getElem?_toList,Array.getElem?_modify]
   by_cases d:j=i
   ·subst d;rw [ag9 rfl,u]
    simp
   ·rw [ac9 d]
  have hDl:b.length=es.size:=by
   have:=as9 List.length F
   simpa using this.symm
  have L:∀ i,(hi:i<b.length)->(es[i]'ad).key=Value.string b[i].1/\(es[i]'ad).val=b[i].2:=by
   intro i hi;have h1:(es.toList.map (λY=>(Y.key,Y.val)))[i]?=(b.map (λp=>(Value.string p.1,p.2)))[i]?:=by rw [F]
   simp only [List.getElem?_map,Array.getElem?_toList,List.getElem?_eq_getElem hi,Array.getElem?_eq_getElem (show i<es.size from ad),Option.map_some,Option.some.injEq,Prod.mk.injEq] at h1;exact h1
  have hnd:=fq.nodup (h:=h) (g:=O) ⟨es,clock,I,F,z,N⟩;refine hK _ ⟨_,_,c3,?_,?_,?_⟩ R S
  ·rw [lG,hl];simp only [Option.isSome_some,if_true];apply dh9;intro i;simp only [List.getElem?_map,Array.getElem?_toList,Array.getElem?_modify];rcases cj9 i b.length with hi | hi
   ·obtain ⟨q1,q2⟩:=L i hi;rw [ad9 hi,dj9 (show i<es.size from ad)]
    by_cases d:j=i
    ·subst d;have C:s=b[j].1:=by rw [f] at q1; simpa using q1
     simp [<- C]
    ·have C:s≠b[i].1:=by
      intro hh;have E:j<b.length:=by simp at hj; omega
      have q3:=(L j E).1;rw [f] at q3;have q3:s=b[j].1:=by simpa using q3
      have:=dv9.1 hnd
      rcases cj9 i j with M | M
      ·exact this i j (by simpa using hi) (by simpa using E) M (by simp [<- hh,<- q3])
      ·exact this j i (by simpa using E) (by simpa using hi) ad (by simp [<- hh,<- q3])
     rw [ac9 d];simp [C,q1,q2]
   ·rw [bv9 hi,cx9 (show es.size<=i from ad)]
    simp
  ·obtain ⟨Q,U,W⟩:=z;refine ⟨?_,by rw [r]; exact U,by rw [B]; exact W⟩;intro x w
   have:x.born∈es.toList.map (·.born):=by rw [<- r]; exact ap9.2 ⟨x,w,rfl⟩
   obtain ⟨y,hy,hyb⟩:=ap9.1 this;rw [<- hyb]; exact Q y hy
  ·intro p l;rw [lG,hl] at l;simp only [Option.isSome_some,if_true,List.mem_map] at l;obtain ⟨q,hq,rfl⟩:=l;split
   ·exact N q hq
   ·exact N q hq
end
end Go.Sx
