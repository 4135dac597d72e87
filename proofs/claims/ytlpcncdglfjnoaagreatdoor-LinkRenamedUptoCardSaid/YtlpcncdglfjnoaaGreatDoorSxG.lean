/- Part of the framework. No condition. -/
import Derived.Test.YtlpcncdglfjnoaaGreatDoorSxH
import Derived.MapKept
set_option linter.all false
set_option maxHeartbeats 4000000
namespace Go.Sx
open Go.MapKept
def wB (a b:XA):(a==b)=decide (a=b):=by
 cases a with | mk x=>cases b with | mk y =>
 have h1:((ByteArray.mk x==ByteArray.mk y):Bool)=(x==y):=rfl;rw [h1]
 by_cases h:x=y
 ·subst h; simp
 ·simp [h]
def eJ (h:Hp) (g:Nat) (D:List (XA × XB)):Prop :=
 ∃ (es:Array MapEntry) (clock:Nat),h[g]?=some (.map es clock)/\es.toList.map (fun e=>(e.key,e.val))=D.map (fun p=>(Value.string p.1,p.2))/\Stamped es clock/\∀ p,p∈D->p.1.size<=maxLen
variable {H:Hp} {I:Nat} {O:List (XA × XB)}
def eJ.lt (m:eJ H I O):I<H.size:=by
 obtain ⟨_,_,a,_⟩:=m;exact fq a
def eJ.af {ws:List Nat} {h':Hp} {D:List (XA × XB)} (m:eJ H I D) (k:Ch ws H h') (a:I∉ws):eJ h' I D:=by
 obtain ⟨es,clock,b,r⟩:=m;exact ⟨es,clock,k.get b a,r⟩
def look (D:List (XA × XB)) (s:XA):Option XB:=(D.find? fun p=>decide (s=p.1)).map (·.2)
def jL (D:List (XA × XB)) (s:XA) (v:XB):List (XA × XB) :=
 if (look D s).isSome then D.map fun p=>if s=p.1 then (p.1,v) else p else D++[(s,v)]
def eJ.nodup {h:Hp} {g:Nat} (m:eJ h g O):(O.map (·.1)).Nodup:=by
 obtain ⟨es,clock,c,a,b,_⟩:=m;have h1:es.toList.map (·.key)=O.map (fun p=>Value.string p.1):=by
  have:=VO (List.map (·.1)) a
  simpa [List.map_map,Function.comp_def] using this
 have h2:=b.2.2;rw [h1] at h2;rw [show O.map (fun p=>Value.string p.1)=(O.map (·.1)).map Value.string by simp [List.map_map,Function.comp_def]] at h2;exact (Wl.1 h2).imp (fun h e=>h (by rw [e]))
section
variable {P:Program} {h:Hp}
variable {I:Nat} {Y:Obj}
def fG (a:h[I]?=some Y) (hc:∀ c e f,Y≠.cells c e f) (K:Obj->Hp->Prop) (hk:K Y h):aI P (getObj I) h K:=⟨Y,a,hc,hk⟩
def mi {o':Obj} (a:h[I]?=some Y) (hc:∀ c e f,Y≠.cells c e f) (K:Unit->Hp->Prop) (hk:K () (h.setIfInBounds I o')):aI P (setObj I o') h K:=⟨⟨Y,a,hc⟩,hk⟩
variable {H U V:TypeId} {O:XA}
def oC {b:Bool} {n:Nat} (hk:P.underlying H=some .string) (K:Unit->Hp->Prop) (a:K () h):aI P (Instr.checkKey b (n+1) H (.string O)) h K:=by
 unfold Instr.checkKey;rw [al,au hk];exact a
theorem xo (s:XA):∀ (es:List MapEntry) (D:List (XA × XB)) (i:Nat),es.map (fun e=>(e.key,e.val))=D.map (fun p=>(Value.string p.1,p.2)) ->
  ((look D s=none/\Instr.findNow .string (.string s) es i=some none)\/∃ j v,j<es.length/\look D s=some v/\Instr.findNow .string (.string s) es i=some (some (i+j,v))/\(es[j]?).map (·.key)=some (.string s))
 | [],D,i,a=>by
  cases D with
  | nil=>exact .inl ⟨rfl,rfl⟩
  | cons p D=>simp at a
 | e::es,D,i,a=>by
  cases D with
  | nil=>simp at a
  | cons p D =>
   simp only [List.map_cons,List.cons.injEq,Prod.mk.injEq] at a;obtain ⟨⟨h1,h2⟩,k⟩:=a;have d:Instr.sameNow .string (.string s) e.key=some (s==p.1):=by rw [h1]; rfl
   by_cases b:s=p.1
   ·refine .inr ⟨0,p.2,ah,?_,?_,?_⟩
    ·simp [look,b]
    ·unfold Instr.findNow;rw [d,wB,Vw b];simp [h2]
    ·simp [h1,b]
   ·have hl:look (p::D) s=look D s:=by simp [look,b]
    have f:Instr.findNow .string (.string s) (e::es) i=Instr.findNow .string (.string s) es (i+1):=by
     conv=>lhs; unfold Instr.findNow
     rw [d,wB,Vx b]
    rcases xo s es D (i+1) k with ⟨g,c⟩ | ⟨j,v,g,c,l,m⟩
    ·exact .inl ⟨by rw [hl]; exact g,by rw [f]; exact c⟩
    ·refine .inr ⟨j+1,v,by simp; omega,by rw [hl]; exact c,?_,by simpa using m⟩;rw [f,l]
     congr 2
     congr 1
     omega
def qJ (hk:P.underlying H=some .string) {es:List MapEntry} {D:List (XA × XB)} (c:es.map (fun e=>(e.key,e.val))=D.map (fun p=>(Value.string p.1,p.2))) (K:Option (Nat × XB)->Hp->Prop)
  (h0:look D O=none->K none h) (h1:∀ j v,j<es.length->look D O=some v->(es[j]?).map (·.key)=some (.string O)->K (some (j,v)) h):aI P (Instr.findKey H (.string O) es) h K:=by
 unfold Instr.findKey;rw [al,au hk];rcases xo O es D 0 c with ⟨a,b⟩ | ⟨j,v,a,b,d,f⟩
 ·rw [b]; exact h0 a
 ·rw [d];rw [V9];exact h1 j v a b f
def lp (K:XB->Hp->Prop) (hk:∀ h',eJ h' h.size []->Ext h h'->h'.size=h.size+1->K (.map (some h.size)) h'):aI P (Instr.makeMap H none) h K:=by
 unfold Instr.makeMap;refine hk (h.push (.map #[] 0)) ⟨#[],0,by rw [Array.getElem?_push_size],rfl,⟨ah,ah,ah⟩,ah⟩ (Ext.push h _) ah
variable {Z:XB} {a:List (XA × XB)}
def jj (d:P.underlying H=some (.map U V)) (hk:P.underlying U=some .string) (f:(P.info? V).bind (·.zero)=some Z) (m:eJ h I a) (s:XA) (c:Bool)
  (K:XB->Hp->Prop) (b:K (if c then .tuple #[(look a s).getD Z,.bool (look a s).isSome] else (look a s).getD Z) h):aI P (Instr.lookup H (.map (some I)) (.string s) c) h K:=by
 obtain ⟨es,clock,i,l,o,p⟩:=m;unfold Instr.lookup;rw [al,au d];simp only;rw [al];refine fG i ah _ ?_;simp only [pure_bind];rw [al];refine oC (n:=9999) hk _ ?_;rw [al];refine qJ hk l _ (fun hl=>?_) (fun j v q hl hv=>?_)
 ·rw [hl] at b;simp only;rw [al,dp f]
  try simp only [pure_bind]
  cases c <;> exact b
 ·rw [hl] at b;simp only [pure_bind];cases c <;> exact b
def lookup_nil (a:P.underlying H=some (.map U V)) (hk:P.underlying U=some .string) (b:(P.info? V).bind (·.zero)=some Z) (s:XA) (c:Bool)
  (K:XB->Hp->Prop) (d:K (if c then .tuple #[Z,.bool false] else Z) h):aI P (Instr.lookup H (.map none) (.string s) c) h K:=by
 unfold Instr.lookup;rw [al,au a];simp only [pure_bind];rw [al];refine oC (n:=9999) hk _ ?_;rw [al];refine qJ (D:=[]) hk rfl _ (fun hl=>?_) (fun j v f hl hv=>by simp at f);simp only;rw [al,dp b]
 try simp only [pure_bind]
 cases c <;> exact d
def xg (K:XB->Hp->Prop) (a:K (.string O) h):aI P (Instr.keyThatStays (.string O) (.string O)) h K:=by
 unfold Instr.keyThatStays
 have:Instr.sameBits 10000 (.string O) (.string O)=true:=by
  show (O==O)=true;rw [wB]; simp
 rw [VE this];exact a
def fP (ht:P.underlying H=some (.map U V)) (hk:P.underlying U=some .string) (m:eJ h I a) {s:XA} (hs:s.size<=maxLen) (v:XB)
  (K:Unit->Hp->Prop) (hK:∀ h',eJ h' I (jL a s v)->Ch [I] h h'->h'.size=h.size->K () h'):aI P (Instr.mapUpdate H (.map (some I)) (.string s) v) h K:=by
 obtain ⟨es,clock,J,F,z,O⟩:=m;have hlt:=fq J;have iC:∀ o:Obj,Ch [I] h (h.setIfInBounds I o)/\(h.setIfInBounds I o).size=h.size/\(h.setIfInBounds I o)[I]?=some o:=by
  intro o;refine ⟨⟨ah,fun i hi hw=>?_⟩,ah,?_⟩
  ·rw [WC,Vu (by simp at hw; exact fun V=>hw V.symm)]
  ·rw [WC,VE rfl,VE hlt]
 unfold Instr.mapUpdate;rw [al,au ht];simp only;rw [al];refine fG J ah _ ?_;show aI P _ h _;rw [al];refine oC (n:=9999) hk _ ?_;rw [al];refine qJ hk F _ (fun hl=>?_) (fun j v' hj hl hv=>?_)
 ·refine mi J ah _ ?_;obtain ⟨c1,R,c3⟩:=iC (.map (es.push { key:=.string s,val:=v,born:=clock }) (clock+1));refine hK _ ⟨_,_,c3,?_,?_,?_⟩ c1 R
  ·rw [jL,hl];simp [F]
  ·have L:(Value.string s)∉es.toList.map (·.key):=by
    intro hm;have h1:es.toList.map (·.key)=a.map (fun p=>Value.string p.1):=by
     have:=VO (List.map (·.1)) F
     simpa [List.map_map,Function.comp_def] using this
    rw [h1] at hm;obtain ⟨p,l,A⟩:=Vy.1 hm;have A:p.1=s:=by simpa using A
    simp only [look,Option.map_eq_none_iff,List.find?_eq_none,decide_eq_true_eq] at hl;exact hl p l A.symm
   obtain ⟨Q,S,W⟩:=z;refine ⟨?_,?_,?_⟩
   ·intro x w;simp only [Array.toList_push,List.mem_append,List.mem_singleton] at w;rcases w with w | rfl
    ·have:=Q x w; omega
    ·simp
   ·rw [Array.toList_push,VB];refine Wm.2 ⟨S,ah,?_⟩;intro c X b G;have G:b=clock:=by simpa using G
    obtain ⟨x,w,rfl⟩:=Vy.1 X
    have:=Q x w
    omega
   ·rw [Array.toList_push,VB];refine Wm.2 ⟨W,ah,?_⟩;intro c X b G;have G:b=.string s:=by simpa using G
    rw [G];exact fun Y=>L (Y▸X)
  ·intro p l;rw [jL,hl] at l;simp only [Option.isSome_none,Bool.false_eq_true,if_false,List.mem_append,List.mem_singleton] at l;rcases l with l | rfl
   ·exact O p l
   ·exact hs
 ·have u:es[j]?=some es[j]:=WB (by simpa using hj);have f:es[j].key=.string s:=by
   have h1:es.toList[j]?=some es[j]:=by rw [WE]; exact u
   rw [h1] at hv;simpa using hv
  show aI P _ h _;rw [al];have Z:((es[j]?).map (·.key)).getD (Value.string s)=.string s:=by rw [u]; simp [f]
  rw [Z];refine xg _ ?_;refine mi J ah _ ?_;obtain ⟨c1,R,c3⟩:=iC (.map (es.modify j fun V=>{ V with key:=.string s,val:=v }) clock);have B:(es.modify j fun V=>{ V with key:=.string s,val:=v }).toList.map (·.key)=es.toList.map (·.key):=by
   apply WA;intro i;simp only [List.getElem?_map,Array.getElem?_toList,Array.getElem?_modify]
   by_cases d:j=i
   ·subst d;rw [VE rfl,u];simp [f]
   ·rw [Vu d]
  have r:(es.modify j fun V=>{ V with key:=.string s,val:=v }).toList.map (·.born)=es.toList.map (·.born):=by
   apply WA;intro i;simp only [List.getElem?_map,Array.getElem?_toList,Array.getElem?_modify]
   by_cases d:j=i
   ·subst d;rw [VE rfl,u]
    simp
   ·rw [Vu d]
  have hDl:a.length=es.size:=by
   have:=VO List.length F
   simpa using this.symm
  have M:∀ i,(hi:i<a.length)->(es[i]'ad).key=Value.string a[i].1/\(es[i]'ad).val=a[i].2:=by
   intro i hi;have h1:(es.toList.map (fun V=>(V.key,V.val)))[i]?=(a.map (fun p=>(Value.string p.1,p.2)))[i]?:=by rw [F]
   simp only [List.getElem?_map,Array.getElem?_toList,List.getElem?_eq_getElem hi,Array.getElem?_eq_getElem (show i<es.size from ad),Option.map_some,Option.some.injEq,Prod.mk.injEq] at h1;exact h1
  have hnd:=eJ.nodup (h:=h) (g:=I) ⟨es,clock,J,F,z,O⟩;refine hK _ ⟨_,_,c3,?_,?_,?_⟩ c1 R
  ·rw [jL,hl];simp only [Option.isSome_some,if_true];apply WA;intro i;simp only [List.getElem?_map,Array.getElem?_toList,Array.getElem?_modify];rcases Wo i a.length with hi | hi
   ·obtain ⟨q1,q2⟩:=M i hi;rw [VC hi,WB (show i<es.size from ad)]
    by_cases d:j=i
    ·subst d;have C:s=a[j].1:=by rw [f] at q1; simpa using q1
     simp [<- C]
    ·have C:s≠a[i].1:=by
      intro hh;have E:j<a.length:=by simp at hj; omega
      have q3:=(M j E).1;rw [f] at q3;have q3:s=a[j].1:=by simpa using q3
      have:=W5.1 hnd
      rcases Wo i j with N | N
      ·exact this i j (by simpa using hi) (by simpa using E) N (by simp [<- hh,<- q3])
      ·exact this j i (by simpa using E) (by simpa using hi) ad (by simp [<- hh,<- q3])
     rw [Vu d];simp [C,q1,q2]
   ·rw [V5 hi,Wp (show es.size<=i from ad)]
    simp
  ·obtain ⟨Q,S,W⟩:=z;refine ⟨?_,by rw [r]; exact S,by rw [B]; exact W⟩;intro x w
   have:x.born∈es.toList.map (·.born):=by rw [<- r]; exact Vy.2 ⟨x,w,rfl⟩
   obtain ⟨y,hy,hyb⟩:=Vy.1 this;rw [<- hyb]; exact Q y hy
  ·intro p l;rw [jL,hl] at l;simp only [Option.isSome_some,if_true,List.mem_map] at l;obtain ⟨q,hq,rfl⟩:=l;split
   ·exact O q hq
   ·exact O q hq
end
end Go.Sx
