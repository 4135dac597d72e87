/- Contracts over heaps, and plain laws, for the functions that the laws of chapter 9 call, part 7: Sources to units, in plain Lean: a line more, the lines of a source, the unit or Condition: as each statement says. -/
import Derived.Test.YtfkjiiapldkoeaaGreatDoorP6
import Derived.Test.YtfkjiiapldkoeaaGreatDoorAtL
import Derived.Test.YtfkjiiapldkoeaaGreatDoorAtM
set_option linter.unusedVariables false
set_option linter.unusedSimpArgs false
set_option maxRecDepth 100000
namespace Go.Sx.Ob
open Go.Proofs
structure ew where
 text:List bD
 data:List bD
 aQ:List lP
 names:List ByteArray
 aF:List (ByteArray × Nat)
 sec:Nat
def fY:ew:=⟨[],[],[],[],[],0⟩
def xj (s:ByteArray):bD:={ cY 1 with name:=s }
def j3 (dH:ByteArray) (t:kD):List bD:=(if dH=bI then [] else [xj dH])++t.items
def jD (w:ew) (n:Nat) (dH:ByteArray) (t:kD):ew :=
 let jW:=j3 dH t
 let nm:=w.names++(if dH=bI then [] else [dH])
 { text:=if w.sec=0 then w.text++jW else w.text,data:=if w.sec=0 then w.data else w.data++jW,aQ:=if t.kind=3 then w.aQ++[(t.name,t.e)] else w.aQ,names:=if t.kind=3 then nm++[t.name] else nm,aF:=if t.kind=4 then w.aF++[(t.name,n)] else w.aF,sec:=if t.kind=5 then t.sec else w.sec }
def uM (w:ew) (dH:ByteArray) (t:kD):Prop:=(dH≠bI∧eb w.names dH=true)∨(t.kind=3∧(eb w.names t.name=true∨t.name=dH))
instance (w:ew) (dH:ByteArray) (t:kD):Decidable (uM w dH t):=by unfold uM; infer_instance
def et (w:ew) (n:Nat) (s:ByteArray):Except Nat ew :=
 if (aL s).2.2≠0 then .error (aL s).2.2
 else if (aL s).1.label≠bI∧bd (aL s).1.label.data.toList=false then .error 21
 else match dG (aL s).1 (decide (w.sec=1)) with
  | .error e=>.error e
  | .ok t=>if uM w (aL s).1.label t then .error 22
   else if 8192<w.text.length+w.data.length+(j3 (aL s).1.label t).length then .error 4
   else .ok (jD w n (aL s).1.label t)
def aW:Nat→List UInt8→List (List UInt8)
 | 0,_=>[]
 | _+1,[]=>[]
 | f+1,s=>(s.takeWhile (·≠10))::aW f ((s.dropWhile (·≠10)).drop 1)
def fV (s:ByteArray):List ByteArray:=(aW (s.size+1) s.data.toList).map fun l=>⟨l.toArray⟩
def fZ:ew→Nat→List ByteArray→Except (Nat × Nat) ew
 | w,_,[]=>.ok w
 | w,n,s::l=>match et w n s with
  | .error e=>.error (n,e)
  | .ok w=>fZ w (n+1) l
def Jo (w:ew):Option (ByteArray × Nat):=w.aF.find? fun g=>!eb w.names g.1
def iI (s:ByteArray):List ByteArray→List ByteArray
 | []=>[s]
 | t::l=>if fE s t then s::t::l else if s=t then t::l else t::iI s l
def bH (l:List ByteArray):List ByteArray:=l.foldl (fun d s=>iI s d) []
def fD (src:ByteArray):Except (Nat × Nat) fS :=
 if 65536<src.size then .error (0,3)
 else if 4096<(fV src).length then .error (4097,4)
 else match fZ fY 1 (fV src) with
  | .error e=>.error e
  | .ok w=>match Jo w with
   | some g=>.error (g.2,23)
   | none=>.ok ⟨w.text,w.data,w.aQ,bH (w.aF.map (·.1))⟩
/-! What is put is right. -/
structure B6 (w:ew):Prop where
 text:∀ x,x∈w.text→bm x 0=true∧Good x.e
 data:∀ x,x∈w.data→bm x 1=true∧Good x.e
 aQ:∀ x,x∈w.aQ→bd x.1.data.toList=true∧Good x.2
 perm:w.names.Perm (cB w.text++cB w.data++w.aQ.map (·.1))
 LV:w.names.Nodup
 aF:∀ g,g∈w.aF→bd g.1.data.toList=true
 sec:w.sec≤1
 many:w.text.length+w.data.length≤8192
theorem B6.z:B6 fY:=⟨by simp [fY],by simp [fY],by simp [fY],by simp [fY,cB],by simp [fY],by simp [fY],by simp [fY],by simp [fY]⟩
/-! No line's own items are labels. -/
theorem EF {x y:bD} {r:DQ} {ts:List Tok} (h:dL x r ts=.ok y):y.kind=x.kind:=by
 unfold dL at h;split at h
 ·split at h
  ·cases h
  ·injection h with h
   subst h;split
   ·rfl
   ·split
    ·rfl
    ·rfl
 ·split at h
  ·cases h
  ·injection h with h
   subst h;rfl
 ·split at h
  ·cases h
  ·injection h with h
   subst h;rfl
theorem wk:∀ (rs:List DQ) (args:List (List Tok)) (x y:bD),dU x rs args=.ok y→y.kind=x.kind
 | [],args,x,y,h=>by
  have h:Except.ok x=(Except.ok y:Except Nat bD):=by cases args <;> exact h
  injection h with h
  rw [h]
 | r::rs,[],x,y,h=>by
  simp only [dU] at h;injection h with h
  rw [h]
 | r::rs,a::args,x,y,h=>by
  simp only [dU] at h;split at h
  ·cases h
  ·rename_i z hz;rw [wk rs args z y h,EF hz]
theorem Cs {op:Int} {args:List (List Tok)} {y:bD} (h:ez op args=.ok y):y.kind=2:=by
 unfold ez at h;split at h
 ·cases h
 ·rw [wk _ _ _ _ h]; rfl
theorem nL {k:Nat} (hk:k=5∨k=6):∀ (args:List (List Tok)) (l:List bD),cO k args=.ok l→∀ x,x∈l→x.kind≠1
 | [],l,h=>by
  simp only [cO] at h;injection h with h
  subst h
  simp
 | a::args,l,h=>by
  simp only [cO] at h;split at h
  ·cases h
  ·rename_i x hx;split at h
   ·cases h
   ·rename_i l' hl;injection h with h
    subst h;intro y hy;rcases List.mem_cons.1 hy with rfl | hy
    ·unfold jQ at hx;rcases hk with rfl | rfl
     ·rw [if_pos rfl] at hx;split at hx
      ·cases hx
      ·injection hx with hx
       subst hx;simp [cY]
     ·rw [if_neg (by decide)] at hx;split at hx
      ·cases hx
      ·injection hx with hx
       subst hx;simp [cY]
    ·exact nL hk args l' hl y hy
theorem CJ {op:ByteArray} {args:List (List Tok)} {t:kD} {w:Nat} (h:ga op args=.ok (t,w)):(∀ x,x∈t.items→x.kind≠1)∧(t.kind=3→t.items=[]):=by
 unfold ga at h;simp only at h;split at h
 ·cases h
 split at h
 ·injection h with h; injection h with h _; subst h
  exact ⟨by simp [eV,cY],by simp [eV]⟩
 split at h
 ·split at h
  ·cases h
  split at h
  ·injection h with h; injection h with h _; subst h
   exact ⟨by simp [eV,cY],by simp [eV]⟩
  ·cases h
 split at h
 ·split at h
  ·cases h
  injection h with h; injection h with h _; subst h
  exact ⟨by simp [eV,cY],by simp [eV]⟩
 split at h
 ·split at h
  ·cases h
  split at h
  ·cases h
  rename_i l hh;injection h with h; injection h with h _; subst h
  exact ⟨nL (.inl rfl) _ _ hh,by simp⟩
 split at h
 ·split at h
  ·cases h
  split at h
  ·cases h
  rename_i l hh;injection h with h; injection h with h _; subst h
  exact ⟨nL (.inr rfl) _ _ hh,by simp⟩
 split at h
 ·split at h
  ·cases h
  split at h
  ·cases h
  injection h with h; injection h with h _; subst h
  exact ⟨by simp [bJ],by simp [bJ]⟩
 split at h
 ·split at h
  ·cases h
  injection h with h; injection h with h _; subst h
  exact ⟨by simp [bJ],by simp [bJ]⟩
 split at h
 ·split at h
  ·injection h with h; injection h with h _; subst h
   exact ⟨by simp [bJ],by simp [bJ]⟩
  split at h
  ·injection h with h; injection h with h _; subst h
   exact ⟨by simp [bJ],by simp [bJ]⟩
  ·cases h
 ·cases h
theorem BL {l:Ln} {data:Bool} {t:kD} (h:dG l data=.ok t):(∀ x,x∈t.items→x.kind≠1)∧(t.kind=3→t.items=[]):=by
 unfold dG at h;split at h
 ·injection h with h
  subst h;exact ⟨by simp [bJ],by simp [bJ]⟩
 split at h
 ·split at h
  ·cases h
  rename_i x hx;split at h
  ·cases h
  injection h with h
  subst h;exact ⟨by simp [eV,Cs hx],by simp [eV]⟩
 split at h
 ·cases h
 rename_i t' w' hd
 by_cases g:w'=2∨w'=(if data then 1 else 0)
 ·rw [if_pos g] at h;injection h with h
  subst h;exact CJ hd
 ·rw [if_neg g] at h;cases h
theorem wZ (a b:List bD):cB (a++b)=cB a++cB b:=by simp [cB]
theorem G' (dH:ByteArray) {t:kD} (h:∀ x,x∈t.items→x.kind≠1):cB (j3 dH t)=if dH=bI then [] else [dH]:=by
 unfold j3;rw [wZ]
 have:cB t.items=[]:=by
  unfold cB;rw [List.map_eq_nil_iff,List.filter_eq_nil_iff];intro x hx;simpa using h x hx
 rw [this,List.append_nil];split
 ·rfl
 ·rfl
theorem Gc {s:ByteArray} (h:bd s.data.toList=true) (k:Nat):bm (xj s) k=true∧Good (xj s).e:=by
 refine ⟨?_,Good.z⟩;unfold bm;rw [if_pos (show (xj s).kind=1 from rfl)];simp [xj,cY,z2,z3,z4,E8,h]
theorem BC {w w':ew} {n:Nat} {s:ByteArray} (hs:s.size≤2^20) (W:B6 w) (h:et w n s=.ok w'):B6 w':=by
 unfold et at h;split at h
 ·cases h
 split at h
 ·cases h
 rename_i hl;split at h
 ·cases h
 rename_i t ht;split at h
 ·cases h
 rename_i hd;split at h
 ·cases h
 rename_i hm;injection h with h
 have f:=gX s hs;have ok:=tV (fun a ha=>(f a ha).1) ht;obtain ⟨nl,n3⟩:=BL ht;generalize (aL s).1.label=dH at *;have hlab:dH≠bI→bd dH.data.toList=true:=by
  intro g
  by_cases q:bd dH.data.toList=true
  ·exact q
  ·exact absurd ⟨g,by simpa using q⟩ hl
 have hits:∀ x,x∈j3 dH t→bm x w.sec=true∧Good x.e:=by
  intro x hx;unfold j3 at hx;rcases List.mem_append.1 hx with hx | hx
  ·split at hx
   ·simp at hx
   ·rename_i g
    have:x=xj dH:=by simpa using hx
    rw [this];exact Gc (hlab g) _
  ·have h1:=ok.items x hx;have hs:=W.sec;rcases (show w.sec=0∨w.sec=1 by omega) with e | e
   ·rw [e] at h1 ⊢; simpa using h1
   ·rw [e] at h1 ⊢; simpa using h1
 have hlb:=G' dH nl;have hsec:=W.sec;subst h;refine ⟨?_,?_,?_,?_,?_,?_,?_,?_⟩
 ·intro x hx;unfold jD at hx;simp only at hx;split at hx
  ·rename_i e;rcases List.mem_append.1 hx with hx | hx
   ·exact W.text x hx
   ·have:=hits x hx
    rwa [e] at this
  ·exact W.text x hx
 ·intro x hx;unfold jD at hx;simp only at hx;split at hx
  ·exact W.data x hx
  ·rename_i e;rcases List.mem_append.1 hx with hx | hx
   ·exact W.data x hx
   ·have:=hits x hx
    rwa [show w.sec=1 by omega] at this
 ·intro x hx;unfold jD at hx;simp only at hx;split at hx
  ·rename_i e;rcases List.mem_append.1 hx with hx | hx
   ·exact W.aQ x hx
   ·have:x=(t.name,t.e):=by simpa using hx
    rw [this];exact ⟨ok.name (.inl e),ok.e⟩
  ·exact W.aQ x hx
 ·unfold jD;simp only;have P:=W.perm;generalize hlw:(if dH=bI then ([]:List ByteArray) else [dH])=lw at *;have base:(w.names++lw).Perm (cB (if w.sec=0 then w.text++j3 dH t else w.text)++cB (if w.sec=0 then w.data else w.data++j3 dH t)++w.aQ.map (·.1)):=by
   refine (P.append_right lw).trans ?_;split
   ·rw [wZ,hlb];simp only [List.append_assoc];refine List.Perm.append_left _ ?_;rw [← List.append_assoc,← List.append_assoc];exact List.perm_append_comm.trans (by simp)
   ·rw [wZ,hlb];simp only [List.append_assoc];refine List.Perm.append_left _ (List.Perm.append_left _ ?_);exact List.perm_append_comm
  by_cases e:t.kind=3
  ·rw [if_pos e,if_pos e,List.map_append,← List.append_assoc];exact base.append_right _
  ·rw [if_neg e,if_neg e];exact base
 ·have hnd:∀ s',(s'∈w.names↔eb w.names s'=true):=fun s'=>eI.symm
  unfold uM at hd;unfold jD;simp only;have h1:(w.names++(if dH=bI then [] else [dH])).Nodup:=by
   split
   ·simpa using W.LV
   ·rename_i g;rw [lV];refine ⟨W.LV,fun hm=>hd (.inl ⟨g,(hnd _).1 hm⟩)⟩
  split
  ·rename_i e;rw [lV];refine ⟨h1,fun hm=>?_⟩;rcases List.mem_append.1 hm with hm | hm
   ·exact hd (.inr ⟨e,.inl ((hnd _).1 hm)⟩)
   ·split at hm
    ·simp at hm
    ·exact hd (.inr ⟨e,.inr (by simpa using hm)⟩)
  ·exact h1
 ·intro g hg;unfold jD at hg;simp only at hg;split at hg
  ·rename_i e;rcases List.mem_append.1 hg with hg | hg
   ·exact W.aF g hg
   ·have:g=(t.name,n):=by simpa using hg
    rw [this];exact ok.name (.inr e)
  ·exact W.aF g hg
 ·unfold jD;simp only;split
  ·exact ok.sec
  ·exact hsec
 ·unfold jD;simp only
  have:=W.many
  split
  ·rw [List.length_append]; omega
  ·rw [List.length_append]; omega
theorem wq (s:ByteArray):∀ (l:List ByteArray) (x:ByteArray),x∈iI s l↔x=s∨x∈l
 | [],x=>by simp [iI]
 | t::l,x=>by
  unfold iI;split
  ·simp
  ·split
   ·rename_i e;subst e
    simp
   ·rw [List.mem_cons,wq s l,List.mem_cons];constructor
    ·rintro (h | h | h)
     ·exact .inr (.inl h)
     ·exact .inl h
     ·exact .inr (.inr h)
    ·rintro (h | h | h)
     ·exact .inr (.inl h)
     ·exact .inl h
     ·exact .inr (.inr h)
theorem yM (s:ByteArray):∀ (l:List ByteArray),l.Pairwise fE→(iI s l).Pairwise fE
 | [],_=>by simp [iI]
 | t::l,h=>by
  obtain ⟨h1,h2⟩:=List.pairwise_cons.1 h;unfold iI;split
  ·rename_i g;refine List.pairwise_cons.2 ⟨fun x hx=>?_,h⟩;rcases List.mem_cons.1 hx with rfl | hx
   ·exact g
   ·exact gS g (h1 x hx)
  ·rename_i g;split
   ·exact h
   ·rename_i e;have g2:fE t s:=by
     by_cases k:fE t s
     ·exact k
     ·exact absurd (oS s t g k) e
    refine List.pairwise_cons.2 ⟨fun x hx=>?_,yM s l h2⟩;rcases (wq s l x).1 hx with rfl | hx
    ·exact g2
    ·exact h1 x hx
theorem xV:∀ (l d:List ByteArray) (x:ByteArray),x∈l.foldl (fun d s=>iI s d) d↔x∈l∨x∈d
 | [],d,x=>by simp
 | s::l,d,x=>by
  rw [List.foldl_cons,xV l,wq,List.mem_cons];constructor
  ·rintro (h | h | h)
   ·exact .inl (.inr h)
   ·exact .inl (.inl h)
   ·exact .inr h
  ·rintro ((h | h) | h)
   ·exact .inr (.inl h)
   ·exact .inl h
   ·exact .inr (.inr h)
theorem gO (l:List ByteArray) (x:ByteArray):x∈bH l↔x∈l:=by unfold bH; rw [xV]; simp
theorem wb:∀ (l d:List ByteArray),d.Pairwise fE→(l.foldl (fun d s=>iI s d) d).Pairwise fE
 | [],d,h=>h
 | s::l,d,h=>wb l _ (yM s d h)
theorem lS (l:List ByteArray):(bH l).Pairwise fE:=wb l [] List.Pairwise.nil
theorem Di:∀ (l:List ByteArray) (w w':ew) (n:Nat),(∀ s,s∈l→s.size≤2^20)→B6 w→fZ w n l=.ok w'→B6 w'
 | [],w,w',n,_,W,h=>by
  simp only [fZ] at h;injection h with h
  subst h;exact W
 | s::l,w,w',n,hs,W,h=>by
  simp only [fZ] at h;split at h
  ·cases h
  ·rename_i w1 h1;exact Di l w1 w' (n+1) (fun x hx=>hs x (by simp [hx])) (BC (hs s (by simp)) W h1) h
theorem tP:∀ (f:Nat) (s:List UInt8) (N:Nat),s.length≤N→∀ l,l∈aW f s→l.length≤N
 | 0,s,N,_,l,h=>by simp [aW] at h
 | f+1,[],N,_,l,h=>by simp [aW] at h
 | f+1,c::s,N,hN,l,h=>by
  simp only [aW] at h;rcases List.mem_cons.1 h with rfl | h
  ·exact Nat.le_trans (List.IsPrefix.length_le (List.takeWhile_prefix _)) hN
  ·refine tP f _ N ?_ l h;have h1:((c::s).dropWhile (fun x=>decide (x≠10))).length≤(c::s).length:=by
    have:=List.IsSuffix.length_le (List.dropWhile_suffix (l:=c::s) (fun x=>decide (x≠10)))
    exact this
   rw [List.length_drop];omega
theorem j' (src:ByteArray):∀ s,s∈fV src→s.size≤src.size:=by
 intro s hs;unfold fV at hs;obtain ⟨l,hl,rfl⟩:=List.mem_map.1 hs
 have:=tP _ _ src.size (by simp) l hl
 show l.toArray.size≤_;simpa using this
def nl:UInt8→Bool:=fun c=>decide (c≠10)
theorem wY:∀ (l:List UInt8),(∀ x,x∈l→nl x=true)→l.takeWhile nl=l∧l.dropWhile nl=[]
 | [],_=>⟨rfl,rfl⟩
 | c::l,h=>by
  have:=wY l (fun x hx=>h x (by simp [hx]))
  rw [List.takeWhile_cons,List.dropWhile_cons,if_pos (h c (by simp)),if_pos (h c (by simp)),this.1];exact ⟨rfl,this.2⟩
theorem nO (f:Nat) (c:UInt8) (s:List UInt8):aW (f+1) (c::s)=((c::s).takeWhile nl)::aW f (((c::s).dropWhile nl).drop 1):=rfl
theorem DS (s:List UInt8):((s.dropWhile nl).drop 1).length≤s.length-1:=by
 have:=List.IsSuffix.length_le (List.dropWhile_suffix (l:=s) nl)
 rw [List.length_drop];omega
theorem gL:∀ (f:Nat) (s:List UInt8),(aW f s).length≤s.length
 | 0,s=>by simp [aW]
 | f+1,[]=>by simp [aW]
 | f+1,c::s=>by
  rw [nO];have h1:=DS (c::s)
  have:=gL f (((c::s).dropWhile nl).drop 1)
  simp only [List.length_cons] at *;omega
def er (t:Tok):Tok:={ t with at_:=0 }
def eR:cP→cP
 | .error e=>.error e
 | .ok (x,r)=>.ok (x,r.map er)
def mO (f:List Tok→cP):Prop:=∀ ts,f (ts.map er)=eR (f ts)
theorem qO (t:Tok) (c:UInt8):fC (er t) c=fC t c:=rfl
theorem CK {o:Option (List Tok→cP)} (ho:∀ f,o=some f→mO f):mO (qP o):=by
 intro ts;cases ts with
 | nil=>rfl
 | cons t r =>
  simp only [List.map_cons,qP];rw [show (er t).kind=t.kind from rfl,show (er t).text=t.text from rfl,show (er t).num=t.num from rfl,qO]
  by_cases h1:t.kind=1
  ·rw [if_pos h1,if_pos h1]
   by_cases h2:(fI t.text.data.toList).2.2=true
   ·rw [if_pos h2,if_pos h2]; rfl
   ·rw [if_neg h2,if_neg h2]; rfl
  rw [if_neg h1,if_neg h1]
  by_cases h2:t.kind=2
  ·rw [if_pos h2,if_pos h2]; rfl
  rw [if_neg h2,if_neg h2]
  by_cases h3:fC t 40=true
  ·rw [if_pos h3,if_pos h3];cases o with
   | none=>rfl
   | some f =>
    simp only;rw [ho f rfl r];cases f r with
    | error e=>rfl
    | ok q =>
     obtain ⟨x,r'⟩:=q;cases r' with
     | nil=>rfl
     | cons t' r'' =>
      simp only [eR,List.map_cons];rw [qO]
      by_cases h4:fC t' 41=true
      ·rw [if_pos h4,if_pos h4]
      ·rw [if_neg h4,if_neg h4]
  ·rw [if_neg h3,if_neg h3]; rfl
theorem wx {o:Option (List Tok→cP)} (ho:∀ f,o=some f→mO f) (b:Bool):mO (xH o b):=by
 intro ts;unfold xH;rw [CK ho ts];cases qP o ts with
 | error e=>rfl
 | ok q=>rfl
theorem qI {o:Option (List Tok→cP)} (ho:∀ f,o=some f→mO f):∀ (ts:List Tok) (b:Bool),wv o b (ts.map er)=eR (wv o b ts)
 | [],b=>wx ho b []
 | t::r,b=>by
  simp only [List.map_cons,wv];rw [qO];split
  ·exact qI ho r _
  ·exact wx ho b (t::r)
theorem nM {fac:List Tok→cP} (hf:mO fac):∀ (n:Nat) (x:ey) (r:List Tok),ik fac n x (r.map er)=eR (ik fac n x r)
 | 0,x,r=>rfl
 | n+1,x,[]=>rfl
 | n+1,x,t::r=>by
  simp only [List.map_cons,ik];rw [qO];split
  ·rw [hf r];cases fac r with
   | error e=>rfl
   | ok q =>
    obtain ⟨y,r''⟩:=q;simp only [eR];split
    ·rfl
    split
    ·exact nM hf n _ _
    ·exact nM hf n _ _
  ·rfl
theorem uc {fac:List Tok→cP} (hf:mO fac):mO (oI fac):=by
 intro ts;unfold oI;rw [hf ts];cases fac ts with
 | error e=>rfl
 | ok q =>
  obtain ⟨x,r⟩:=q;simp only [eR,List.length_map];exact nM hf _ _ _
theorem qx {part:List Tok→cP} (hf:mO part):∀ (n:Nat) (x:ey) (r:List Tok),kC part n x (r.map er)=eR (kC part n x r)
 | 0,x,r=>rfl
 | n+1,x,[]=>rfl
 | n+1,x,t::r=>by
  simp only [List.map_cons,kC];rw [qO,qO];split
  ·rw [hf r];cases part r with
   | error e=>rfl
   | ok q =>
    obtain ⟨y,r''⟩:=q;exact qx hf n _ _
  split
  ·rw [hf r];cases part r with
   | error e=>rfl
   | ok q =>
    obtain ⟨y,r''⟩:=q;exact qx hf n _ _
  ·rfl
theorem wV {part:List Tok→cP} (hf:mO part):mO (kF part):=by
 intro ts;unfold kF;rw [hf ts];cases part ts with
 | error e=>rfl
 | ok q =>
  obtain ⟨x,r⟩:=q;simp only [eR,List.length_map];exact qx hf _ _ _
theorem wX:∀ k,mO (oQ k)
 | 0=>wV (uc fun ts=>qI (o:=none) (fun f h=>by cases h) ts false)
 | k+1=>wV (uc fun ts=>qI (o:=some (oQ k)) (fun f h=>by cases h; exact wX k) ts false)
theorem lH (ts:List Tok):bV (ts.map er)=bV ts:=by
 unfold bV;rw [wX 32 ts];cases oQ 32 ts with
 | error e=>rfl
 | ok q =>
  obtain ⟨x,r⟩:=q;simp only [eR,List.map_eq_nil_iff]
theorem Ja (z:Bool) (ts:List Tok):nV z (ts.map er)=nV z ts:=by
 match ts with
 | []=>rfl
 | [t]=>rfl
 | t::u::r=>rfl
theorem I2 (ts:List Tok):nu (ts.map er)=nu ts:=by
 match ts with
 | []=>rfl
 | [t]=>rfl
 | t::u::r=>rfl
theorem zL (lo hi:Int) (ts:List Tok):iJ lo hi (ts.map er)=iJ lo hi ts:=by unfold iJ; rw [lH]
theorem IS (p:Bool) (ts:List Tok):qY p (ts.map er)=qY p ts:=by
 cases p with
 | false=>exact lH ts
 | true =>
  cases ts with
  | nil=>rfl
  | cons t r =>
   simp only [List.map_cons,qY];rw [qO,lH]
theorem Jz (x:bD) (r:DQ) (ts:List Tok):dL x r (ts.map er)=dL x r ts:=by
 cases r with
 | uS z s t=>simp only [dL,Ja]
 | H2 lo hi=>simp only [dL,zL]
 | val p=>simp only [dL,IS]
theorem B0:∀ (rs:List DQ) (args:List (List Tok)) (x:bD),dU x rs (args.map (·.map er))=dU x rs args
 | [],args,x=>by cases args <;> rfl
 | r::rs,[],x=>rfl
 | r::rs,a::args,x=>by
  simp only [List.map_cons,dU,Jz];cases dL x r a with
  | error e=>rfl
  | ok y=>exact B0 rs args y
theorem Hu (op:Int) (args:List (List Tok)):ez op (args.map (·.map er))=ez op args:=by unfold ez; rw [List.length_map,B0]
theorem F6 (k:Nat) (ts:List Tok):jQ k (ts.map er)=jQ k ts:=by unfold jQ; rw [zL,lH]
theorem xY (k:Nat):∀ args:List (List Tok),cO k (args.map (·.map er))=cO k args
 | []=>rfl
 | a::args=>by simp only [List.map_cons,cO,F6,xY k args]
theorem LA (args:List (List Tok)) (i:Nat):ag (args.map (·.map er)) i=(ag args i).map er:=by
 unfold ag;rw [List.getD_eq_getElem?_getD,List.getD_eq_getElem?_getD,List.getElem?_map]
 all_goals (cases args[i]? <;> rfl)
theorem Ij (op:ByteArray) (args:List (List Tok)):ga op (args.map (·.map er))=ga op args:=by
 unfold ga;simp only [List.length_map,LA,zL,I2,lH,xY,List.map_eq_nil_iff];generalize ag args 0=a
 match a with
 | []=>rfl
 | [t]=>rfl
 | t::u::r=>rfl
theorem BN (dH op:ByteArray) (args:List (List Tok)) (d:Bool):dG ⟨dH,op,args.map (·.map er)⟩ d=dG ⟨dH,op,args⟩ d:=by
 unfold dG;simp only [Hu,Ij]
end Go.Sx.Ob
set_option linter.unusedVariables false
set_option linter.unusedSimpArgs false
set_option maxRecDepth 100000
namespace Go.Sx
open Go.Proofs
inductive Wr (s:ByteArray):Nat→Nat→Prop where
 | here (k:Nat):k≤s.size→nH (s.data.toList.drop (k+aS (s.data.toList.drop k) aN))=.cI→Wr s k (k+aS (s.data.toList.drop k) aN)
 | tok (k kind n m a:Nat):k≤s.size→nH (s.data.toList.drop (k+aS (s.data.toList.drop k) aN))=.tok kind n m→Wr s (k+aS (s.data.toList.drop k) aN+n) a→Wr s k a
theorem DA {s:ByteArray} {k a:Nat} (h:Wr s k a):∀ (f:Nat) (acc:List Tok),s.size-k<f→j7 s f k acc=([],a,20):=by
 have hsz:s.data.toList.length=s.size:=by simp
 induction h with
 | here k hk hD =>
  intro f acc hf;obtain ⟨f,rfl⟩:∃ f',f=f'+1:=⟨f-1,by omega⟩
  have hst:=fF hk;rw [hD] at hst;exact qi hst
 | tok k kind n m a hk hD hc ih =>
  intro f acc hf;obtain ⟨f,rfl⟩:∃ f',f=f'+1:=⟨f-1,by omega⟩
  have hst:=fF hk;rw [hD] at hst;obtain ⟨h1,h2⟩:=nG hD;have ha:=nw hk;rw [List.length_drop] at h2;rw [nU hst,ih f _ (by omega)]
theorem DL {s:ByteArray}:∀ (f k:Nat) (acc:List Tok),k≤s.size→s.size-k<f→(∃ ts,iX s k ts)∨∃ a,Wr s k a
 | 0,k,acc,hk,hf=>by omega
 | f+1,k,acc,hk,hf=>by
  have ha:=nw hk;have hsz:s.data.toList.length=s.size:=by simp
  cases hD:nH (s.data.toList.drop (k+aS (s.data.toList.drop k) aN)) with
  | stop=>exact .inl ⟨_,.stop k hk hD⟩
  | cI=>exact .inr ⟨_,.here k hk hD⟩
  | tok kind n m =>
   obtain ⟨h1,h2⟩:=nG hD;rw [List.length_drop] at h2;rcases DL (s:=s) f (k+aS (s.data.toList.drop k) aN+n) [] (by omega) (by omega) with ⟨ts,hc⟩ | ⟨a,hw⟩
   ·exact .inl ⟨_,.tok k kind n m ts hk hD hc⟩
   ·exact .inr ⟨a,.tok k kind n m a hk hD hw⟩
theorem Ia (s:ByteArray):(∃ ts,iX s 0 ts∧eu s=(ts,0,0))∨∃ a,Wr s 0 a∧eu s=([],a,20):=by
 rcases DL (s:=s) (s.size+1) 0 [] (by omega) (by omega) with ⟨ts,hc⟩ | ⟨a,hw⟩
 ·exact .inl ⟨ts,hc,wL hc⟩
 ·exact .inr ⟨a,hw,DA hw _ _ (by omega)⟩
def sh (n:Nat) (t:Tok):Tok:=⟨t.kind,t.text,t.num,t.at_+n⟩
theorem wU {s s':ByteArray} {P:List UInt8} (hs':s'.data.toList=P++s.data.toList) (k:Nat):s'.data.toList.drop (k+P.length)=s.data.toList.drop k:=by
 rw [hs',Nat.add_comm,← List.drop_drop,List.drop_left]
theorem Bs {s s':ByteArray} {P:List UInt8} (hs':s'.data.toList=P++s.data.toList) {k:Nat} {ts:List Tok} (h:iX s k ts):iX s' (k+P.length) (ts.map (sh P.length)):=by
 have hd:=wU hs';have hsz':s'.size=s.size+P.length:=by
  have:=congrArg List.length hs'
  simp at this; omega
 induction h with
 | stop k hk hD =>
  refine .stop _ (by omega) ?_;rw [hd,show k+P.length+aS (s.data.toList.drop k) aN=k+aS (s.data.toList.drop k) aN+P.length by omega,hd];exact hD
 | tok k kind n m ts hk hD hc ih =>
  have e1:k+P.length+aS (s'.data.toList.drop (k+P.length)) aN=k+aS (s.data.toList.drop k) aN+P.length:=by rw [hd]; omega
  have:=iX.tok (s:=s') (k+P.length) kind n m (ts.map (sh P.length)) (by omega) (by rw [e1,hd]; exact hD) (by rw [e1,show k+aS (s.data.toList.drop k) aN+P.length+n=k+aS (s.data.toList.drop k) aN+n+P.length by omega]; exact ih)
  rw [e1] at this;have e2:s'.extract (k+aS (s.data.toList.drop k) aN+P.length) (k+aS (s.data.toList.drop k) aN+P.length+n)=s.extract (k+aS (s.data.toList.drop k) aN) (k+aS (s.data.toList.drop k) aN+n):=by
   refine mg ?_;rw [gY,gY,hd]
   congr 1
   omega
  rw [e2] at this;exact this
theorem HI {s s':ByteArray} {P:List UInt8} (hs':s'.data.toList=P++s.data.toList) {k a:Nat} (h:Wr s k a):Wr s' (k+P.length) (a+P.length):=by
 have hd:=wU hs';have hsz':s'.size=s.size+P.length:=by
  have:=congrArg List.length hs'
  simp at this; omega
 induction h with
 | here k hk hD =>
  have e1:k+P.length+aS (s'.data.toList.drop (k+P.length)) aN=k+aS (s.data.toList.drop k) aN+P.length:=by rw [hd]; omega
  have:=Wr.here (s:=s') (k+P.length) (by omega) (by rw [e1,hd]; exact hD)
  rw [e1] at this;exact this
 | tok k kind n m a hk hD hc ih =>
  have e1:k+P.length+aS (s'.data.toList.drop (k+P.length)) aN=k+aS (s.data.toList.drop k) aN+P.length:=by rw [hd]; omega
  exact Wr.tok (k+P.length) kind n m _ (by omega) (by rw [e1,hd]; exact hD) (by rw [e1,show k+aS (s.data.toList.drop k) aN+P.length+n=k+aS (s.data.toList.drop k) aN+n+P.length by omega]; exact ih)
theorem zP {s:ByteArray} {k:Nat} {ts:List Tok} (hk:k≤s.size) (hb:aS s.data.toList aN=k+aS (s.data.toList.drop k) aN) (h:iX s k ts):iX s 0 ts:=by
 have e:0+aS (s.data.toList.drop 0) aN=k+aS (s.data.toList.drop k) aN:=by rw [List.drop_zero,hb,Nat.zero_add]
 cases h with
 | stop _ _ hD=>exact .stop 0 (by omega) (by rw [e]; exact hD)
 | tok _ kind n m ts _ hD hc =>
  have:=iX.tok (s:=s) 0 kind n m ts (by omega) (by rw [e]; exact hD) (by rw [e]; exact hc)
  rw [e] at this;exact this
theorem Ea {s:ByteArray} {k a:Nat} (hk:k≤s.size) (hb:aS s.data.toList aN=k+aS (s.data.toList.drop k) aN) (h:Wr s k a):Wr s 0 a:=by
 have e:0+aS (s.data.toList.drop 0) aN=k+aS (s.data.toList.drop k) aN:=by rw [List.drop_zero,hb,Nat.zero_add]
 cases h with
 | here _ _ hD =>
  have:=Wr.here (s:=s) 0 (by omega) (by rw [e]; exact hD)
  rw [e] at this;exact this
 | tok _ kind n m _ _ hD hc=>exact Wr.tok (s:=s) 0 kind n m a (by omega) (by rw [e]; exact hD) (by rw [e]; exact hc)
theorem vS (d n n':Nat):∀ (ts:List Tok) (done:List (List Tok)) (cj:List Tok),
  (∃ r,dV n ts done cj=.ok r∧dV n' (ts.map (sh d)) (done.map (List.map (sh d))) (cj.map (sh d))=.ok (r.map (List.map (sh d)))) ∨
  ∃ a a',dV n ts done cj=.error a∧dV n' (ts.map (sh d)) (done.map (List.map (sh d))) (cj.map (sh d))=.error a'∧(a'=a+d∨(a=n∧a'=n'))
 | [],done,cj=>by
  simp only [List.map_nil,dV,List.map_eq_nil_iff]
  by_cases h:cj=[]
  ·rw [if_pos h,if_pos h];exact .inr ⟨_,_,rfl,rfl,.inr ⟨rfl,rfl⟩⟩
  ·rw [if_neg h,if_neg h];exact .inl ⟨_,rfl,by simp⟩
 | t::ts,done,cj=>by
  have hdec:decide (cj.map (sh d)=[])=decide (cj=[]):=by simp
  simp only [List.map_cons,dV]
  by_cases h1:(fC t 58 || (fC t 44 && decide (cj=[])))=true
  ·rw [if_pos h1,if_pos (show (fC (sh d t) 58 || (fC (sh d t) 44 && decide (cj.map (sh d)=[])))=true by rw [hdec]; exact h1)];exact .inr ⟨_,_,rfl,rfl,.inl rfl⟩
  ·rw [if_neg h1,if_neg (show ¬ (fC (sh d t) 58 || (fC (sh d t) 44 && decide (cj.map (sh d)=[])))=true by rw [hdec]; exact h1)]
   by_cases h2:fC t 44=true
   ·rw [if_pos h2,if_pos (show fC (sh d t) 44=true from h2)]
    have:=vS d n n' ts (done++[cj]) []
    simpa using this
   ·rw [if_neg h2,if_neg (show ¬ fC (sh d t) 44=true from h2)]
    have:=vS d n n' ts done (cj++[t])
    simpa using this
def za (d n n':Nat) (r r':Ln × Nat × Nat):Prop :=
 (r.2.2=0∧r'.2.2=0∧r'.1.label=r.1.label∧r'.1.op=r.1.op∧r'.1.args=r.1.args.map (List.map (sh d)))∨(r.2.2=20∧r'.2.2=20∧(r'.2.1=r.2.1+d∨(r.2.1=n∧r'.2.1=n')))
theorem ya (d n n':Nat) (lb:ByteArray) (us:List Tok):za d n n' (bU n lb us) (bU n' lb (us.map (sh d))):=by
 cases us with
 | nil=>exact .inl ⟨rfl,rfl,rfl,rfl,rfl⟩
 | cons t us =>
  simp only [List.map_cons,bU]
  by_cases h:t.kind≠1
  ·rw [if_pos h,if_pos (show (sh d t).kind≠1 from h)];exact .inr ⟨rfl,rfl,.inl rfl⟩
  ·rw [if_neg h,if_neg (show ¬ (sh d t).kind≠1 from h)];have hA:(∃ r,eU n us=.ok r∧eU n' (us.map (sh d))=.ok (r.map (List.map (sh d))))∨∃ a a',eU n us=.error a∧eU n' (us.map (sh d))=.error a'∧(a'=a+d∨(a=n∧a'=n')):=by
    unfold eU;simp only [List.map_eq_nil_iff]
    by_cases h2:us=[]
    ·rw [if_pos h2,if_pos h2];exact .inl ⟨_,rfl,rfl⟩
    ·rw [if_neg h2,if_neg h2]
     have:=vS d n n' us [] []
     simpa using this
   rcases hA with ⟨r,h1,h2⟩ | ⟨a,a',h1,h2,h3⟩
   ·rw [h1,h2];exact .inl ⟨rfl,rfl,rfl,rfl,rfl⟩
   ·rw [h1,h2];exact .inr ⟨rfl,rfl,h3⟩
theorem Fm (d n n':Nat) (ts:List Tok):za d n n' (eP n ts) (eP n' (ts.map (sh d))):=by
 have hlab:AR (ts.map (sh d))=AR ts:=by
  match ts with
  | []=>rfl
  | [_]=>rfl
  | t::u::r=>rfl
 unfold eP;rw [hlab]
 by_cases h:AR ts=true
 ·rw [if_pos h,if_pos h];have e1:(ts.map (sh d)).drop 2=(ts.drop 2).map (sh d):=by rw [List.map_drop]
  have e2:(((ts.map (sh d)).head?).map (·.text)).getD ⟨#[]⟩=((ts.head?).map (·.text)).getD ⟨#[]⟩:=by
   all_goals (cases ts <;> rfl)
  rw [e1,e2];exact ya d n n' _ _
 ·rw [if_neg h,if_neg h];exact ya d n n' _ _
theorem Bk {P:List UInt8} (hP:aS P aN=P.length) {s s':ByteArray} (hs':s'.data.toList=P++s.data.toList):za P.length s.size s'.size (aL s) (aL s'):=by
 have hsz':P.length≤s'.size:=by
  have:=congrArg List.length hs'
  simp at this; omega
 have hbl:aS s'.data.toList aN=P.length+aS (s'.data.toList.drop P.length) aN:=by
  rw [hs',List.drop_left];exact uG (D:=P) hP
 rcases Ia s with ⟨ts,hc,he⟩ | ⟨a,hw,he⟩
 ·have hc':=zP hsz' hbl (by simpa using Bs (P:=P) hs' hc);have he':=wL hc';have h1:aL s=eP s.size ts:=by unfold aL; rw [he]; rfl
  have h2:aL s'=eP s'.size (ts.map (sh P.length)):=by unfold aL; rw [he']; rfl
  rw [h1,h2];exact Fm P.length _ _ ts
 ·have hw':=Ea hsz' hbl (by simpa using HI (P:=P) hs' hw);have he':eu s'=([],a+P.length,20):=DA hw' _ _ (by omega);have h1:aL s=(iv,a,20):=by unfold aL; rw [he]; rfl
  have h2:aL s'=(iv,a+P.length,20):=by unfold aL; rw [he']; rfl
  rw [h1,h2];exact .inr ⟨rfl,rfl,.inl rfl⟩
end Go.Sx
set_option linter.unusedVariables false
set_option linter.unusedSimpArgs false
set_option maxRecDepth 100000
namespace Go.Sx.Ob
open Go.Proofs
structure Dx (w v:ew):Prop where
 text:v.text=w.text
 data:v.data=w.data
 aQ:v.aQ=w.aQ
 names:v.names=w.names
 aF:v.aF.map (·.1)=w.aF.map (·.1)
 sec:v.sec=w.sec
theorem Dx.eX (w:ew):Dx w w:=⟨rfl,rfl,rfl,rfl,rfl,rfl⟩
theorem Dx.trans {a b c:ew} (h:Dx a b) (k:Dx b c):Dx a c:=⟨k.text.trans h.text,k.data.trans h.data,k.aQ.trans h.aQ,k.names.trans h.names,k.aF.trans h.aF,k.sec.trans h.sec⟩
theorem GB {w v:ew} (e:Dx w v) (n n':Nat) (dH:ByteArray) (t:kD):Dx (jD w n dH t) (jD v n' dH t):=by
 unfold jD;simp only [e.text,e.data,e.aQ,e.names,e.sec];refine ⟨rfl,rfl,rfl,rfl,?_,rfl⟩;simp only;split
 ·rw [List.map_append,List.map_append,e.aF]; rfl
 ·exact e.aF
theorem D3 {w v w1:ew} (e:Dx w v) {n n' d a b:Nat} {s s':ByteArray} (sp:za d a b (aL s) (aL s')) (h:et w n s=.ok w1):∃ v1,et v n' s'=.ok v1∧Dx w1 v1:=by
 unfold et at h;split at h
 ·cases h
 rename_i h0;rcases sp with ⟨p1,p2,p3,p4,p5⟩ | ⟨p1,_,_⟩
 ·have hr:∀ dd,dG (aL s').1 dd=dG (aL s).1 dd:=by
   intro dd;generalize (aL s').1=q at *;generalize (aL s).1=q0 at *;obtain ⟨l1,o1,a1⟩:=q;obtain ⟨l2,o2,a2⟩:=q0;simp only at p3 p4 p5;subst p3 p4 p5;have h1:=BN l1 o1 (a2.map (List.map (sh d))) dd;have h2:=BN l1 o1 a2 dd;rw [← h1,← h2]
   congr 2
   rw [List.map_map];apply List.map_congr_left;intro x _;show (x.map (sh d)).map er=x.map er;rw [List.map_map];rfl
  unfold et;rw [if_neg (by omega),p3,hr,e.sec];split at h
  ·cases h
  rename_i hl;rw [if_neg hl];split at h
  ·cases h
  rename_i t ht;split at h
  ·cases h
  rename_i hd;have hd':¬ uM v (aL s).1.label t:=by
   unfold uM at hd ⊢;rw [e.names];exact hd
  rw [if_neg hd',e.text,e.data];split at h
  ·cases h
  rename_i hm;rw [if_neg hm];injection h with h
  subst h;exact ⟨_,rfl,GB e n n' _ t⟩
 ·omega
theorem Gr:aL ⟨#[]⟩=(⟨bI,bI,[]⟩,0,0):=by kernel_rfl
theorem Ej (w:ew) (n:Nat) (hm:w.text.length+w.data.length≤8192):∃ w1,et w n ⟨#[]⟩=.ok w1∧Dx w w1:=by
 unfold et;rw [Gr];have hr:∀ d,dG ⟨bI,bI,[]⟩ d=.ok bJ:=fun d=>by unfold dG; rw [if_pos rfl]
 simp only [hr];rw [if_neg (by decide),if_neg (by simp),if_neg (by unfold uM; simp [bJ])];have hi:j3 bI bJ=[]:=by simp [j3,bJ]
 rw [hi,if_neg (by simp; omega)];refine ⟨_,rfl,?_⟩;unfold jD;rw [hi];constructor <;> simp [bJ]
theorem zo:∀ (f:Nat) (x y:List UInt8),(∀ c,c∈x→nl c=true)→aW (f+1) (x++10::y)=x::aW f y:=by
 intro f x y hx;have h1:(x++10::y).takeWhile nl=x:=by
  rw [List.takeWhile_append,(wY x hx).1,if_pos rfl];simp [nl]
 have h2:(x++10::y).dropWhile nl=10::y:=by
  rw [List.dropWhile_append,(wY x hx).2];simp [nl]
 cases hq:x++10::y with
 | nil=>simp at hq
 | cons a l =>
  rw [nO,← hq,h1,h2];rfl
theorem tw (f:Nat) (x:List UInt8) (hx:∀ c,c∈x→nl c=true) (hn:x≠[]):aW (f+1) x=[x]:=by
 cases x with
 | nil=>exact absurd rfl hn
 | cons a l =>
  rw [nO,(wY _ hx).1,(wY _ hx).2]
  all_goals (cases f <;> rfl)
def zi (b:List UInt8) (s:List UInt8):List UInt8:=s.flatMap fun c=>if c=10 then 32::59::(b++[10,10,9,32]) else [c]
theorem DN:∀ (s:List UInt8),(∀ c,c∈s→nl c=true)∨∃ l r,s=l++10::r∧∀ c,c∈l→nl c=true
 | []=>.inl (by simp)
 | c::s=>by
  by_cases hc:c=10
  ·exact .inr ⟨[],s,by rw [hc]; rfl,by simp⟩
  ·rcases DN s with h | ⟨l,r,h1,h2⟩
   ·refine .inl fun x hx=>?_
    rcases List.mem_cons.1 hx with rfl | hx
    ·simp [nl,hc]
    ·exact h x hx
   ·refine .inr ⟨c::l,r,by rw [h1]; rfl,fun x hx=>?_⟩;rcases List.mem_cons.1 hx with rfl | hx
    ·simp [nl,hc]
    ·exact h2 x hx
def ba (l:List UInt8):ByteArray:=⟨l.toArray⟩
def Kq (w:ew) (n:Nat) (f:Nat) (s:List UInt8):Except (Nat × Nat) ew:=fZ w n ((aW f s).map ba)
theorem base {b:List UInt8} (w v w':ew) (n n' f g:Nat) (P:List UInt8) (hg:P.length+(zi b []).length<g) (hP:P=[]∨P=[9,32]) (e:Dx w v) (W:B6 w) (h:Kq w n f []=.ok w'):∃ v',Kq v n' g (P++zi b [])=.ok v'∧Dx w' v':=by
 have hl:∀ k,aW k []=[]:=fun k=>by cases k <;> rfl
 unfold Kq at h ⊢;rw [hl] at h;simp only [List.map_nil,fZ] at h;injection h with h
 subst h;have hs:zi b []=[]:=rfl;rw [hs,List.append_nil];rcases hP with rfl | rfl
 ·rw [hl];exact ⟨v,rfl,e⟩
 ·obtain ⟨g,rfl⟩:∃ k,g=k+1:=⟨g-1,by omega⟩
  rw [tw g [9,32] (by decide) (by simp)];simp only [List.map_cons,List.map_nil,fZ];obtain ⟨v0,hv0,ev0⟩:=Ej v n' (by rw [e.text,e.data]; exact W.many);obtain ⟨v1,hv,ev⟩:=D3 (n':=n') (Dx.eX v) (Bk (P:=[9,32]) (by decide) (s:=⟨#[]⟩) (s':=ba [9,32]) rfl) hv0;rw [hv];exact ⟨v1,rfl,(e.trans ev0).trans ev⟩
theorem BG:∀ (l:List ByteArray) (w:ew) (n:Nat) (q:Nat × Nat),fZ w n l=.error q→n≤q.1∧q.1<n+l.length
 | [],w,n,q,h=>by simp [fZ] at h
 | s::l,w,n,q,h=>by
  simp only [fZ] at h;split at h
  ·injection h with h
   subst h
   simp
  ·have:=BG l _ (n+1) q h
   rw [List.length_cons];omega
theorem BH {w w':ew} {n:Nat} {s:ByteArray} (h:et w n s=.ok w'):∀ g,g∈w'.aF→g∈w.aF∨g.2=n:=by
 unfold et at h;split at h
 ·cases h
 split at h
 ·cases h
 split at h
 ·cases h
 split at h
 ·cases h
 split at h
 ·cases h
 injection h with h
 subst h;intro g hg;unfold jD at hg;simp only at hg;split at hg
 ·rcases List.mem_append.1 hg with hg | hg
  ·exact .inl hg
  ·have:=List.mem_singleton.1 hg
   subst this;exact .inr rfl
 ·exact .inl hg
theorem wF:∀ (l:List ByteArray) (w w':ew) (n:Nat),fZ w n l=.ok w'→∀ g,g∈w'.aF→g∈w.aF∨(n≤g.2∧g.2<n+l.length)
 | [],w,w',n,h,g,hg=>by
  simp only [fZ] at h;injection h with h
  subst h;exact .inl hg
 | s::l,w,w',n,h,g,hg=>by
  simp only [fZ] at h;split at h
  ·cases h
  ·rename_i w1 h1;rw [List.length_cons];rcases wF l w1 w' (n+1) h g hg with k | k
   ·rcases BH h1 g k with k | k
    ·exact .inl k
    ·exact .inr (by omega)
   ·exact .inr (by omega)
/-! The document goes on behind a refused line. -/
theorem MU:Tryz.prog.underlying 24=some (.slice 99):=by kernel_rfl
def MB:List Value:=[.string ⟨#[]⟩,.slice none 0 0,.int .u32 (0:Int)]
theorem M':(Tryz.prog.info? 99).map (fun i=>(i.zero,i.size,i.bytes))=some (some (.agg MB.toArray),3,48):=by kernel_rfl
theorem LJ (s:ByteArray) (p:Option Addr) (l c:Nat) (n:Int):Instr.fill (fun j=>some (j*3,3)) ((Array.range (1*3)).map ((Value.agg MB.toArray).cells[· % (Value.agg MB.toArray).cells.size]!)) [(0,.agg #[.string s,.slice p l c,.int .u32 n])]=some #[.string s,.slice p l c,.int .u32 n]:=by kernel_rfl
theorem M2:Tryz.prog.underlying 71=some (.slice 76):=by kernel_rfl
theorem MS:(Tryz.prog.info? 76).map (fun i=>(i.zero,i.size,i.bytes))=some (some (.agg #[.string ⟨#[]⟩,.int .i64 (0:Int)]),2,24):=by kernel_rfl
theorem Mf (s:ByteArray) (n:Int):Instr.fill (fun j=>some (j*2,2)) ((Array.range (1*2)).map ((Value.agg #[.string ⟨#[]⟩,.int .i64 (0:Int)]).cells[· % (Value.agg #[.string ⟨#[]⟩,.int .i64 (0:Int)]).cells.size]!)) [(0,.agg #[.string s,.int .i64 n])]=some #[.string s,.int .i64 n]:=by kernel_rfl
section
variable {P:Program} {h:Hp} {K:Value→Hp→Prop}
theorem x8 {t ty e:TypeId} {i:TypeInfo} {z:Value} (ht:P.underlying t=some (.slice e)) (hi:P.info? e=some i) (hz:i.zero=some z) (hzs:z.cells.size=i.size)
  {b b':Nat} {p q:Option Addr} {l c m cc:Nat} {xs ys:List (List Value)} (s:SL h b e i.size p l c xs) (s':SL h b' e i.size q m cc ys) (hp:ys.flatten.all ei=true) (hby:(2*(l+m)+1024)*i.bytes≤2^48) (hl:l+m≤2^48) (hb:b≤h.size)
  (hk:∀ p' c' h',SL h' b e i.size p' (l+m) c' (xs++ys)→Ch (aC p) h h'→(p'=p∨∃ a,p'=some a∧h.size≤a.block)→K (.slice p' (l+m) c') h') :
  aH P (Builtin.append_ #[t,t] ty #[.slice p l c,.slice q m cc]) h K:=by
 cases q with
 | some a =>
  refine kY (ys:=ys) ht hi hz hzs s s'.1 s'.2.1 ?_ hp hby hl hb hk;obtain ⟨g,pre,rest,rfl,hbg,hlc,hbox,hr⟩:=s'.2.2;refine hbox.cells _ ?_;rw [List.drop_left,List.take_left]
 | none =>
  have h1:ys=[]:=s'.2.2.2;have h2:m=0:=by rw [s'.1,h1]; rfl
  subst h1 h2;have hroom:l+0≤c:=by
   cases p with
   | none =>
    have h3:c=0:=s.2.2.1;have h4:xs=[]:=s.2.2.2;have h5:l=0:=by rw [s.1,h4]; rfl
    omega
   | some a =>
    obtain ⟨g,pre,rest,rfl,hbg,hlc,hbox,hr⟩:=s.2.2;omega
  simp only [Nat.add_zero] at hroom;have hk:=hk p c h (by rw [List.append_nil]; exact s) (Ch.refl _ _) (.inl rfl);cases p with
  | none =>
   have h3:c=0:=s.2.2.1;have h4:xs=[]:=s.2.2.2;have h5:l=0:=by rw [s.1,h4]; rfl
   subst h3 h5;simp [Builtin.append_,ak,aw ht,aZ hi,bK hi,Builtin.lenOf,Builtin.firstCells];exact hk
  | some a =>
   simp [Builtin.append_,ak,aw ht,aZ hi,bK hi,Builtin.lenOf,Builtin.firstCells,hroom];exact hk
end
theorem vC {α:Type} (f:α→List Value) (hf:∀ x,(f x).all ei=true) (l:List α):(l.map f).flatten.all ei=true:=by
 rw [List.all_flatten,List.all_map];exact List.all_eq_true.2 fun x _=>hf x
theorem wg (u:bP × bD):(xM u).all ei=true:=rfl
def Mx (u:bP × lP):List Value:=E3 u.1.p u.1.l u.1.c u.2
def M0 (g:ByteArray × Nat):List Value:=[.string g.1,.int .i64 (g.2:Int)]
structure Core (h:Hp) (b:Nat) (tx dx:List bD) (ex:List lP) (t d e:bP) (ut ud:List (bP × bD)) (ue:List (bP × lP)) (ow:Nat→Nat):Prop where
 t1:SL h b 96 10 t.p t.l t.c (ut.map xM)
 t2:∀ u,u∈ut→SL h b 109 2 u.1.p u.1.l u.1.c (u.2.e.au.map cV)
 t3:ut.map (·.2)=tx
 d1:SL h b 96 10 d.p d.l d.c (ud.map xM)
 d2:∀ u,u∈ud→SL h b 109 2 u.1.p u.1.l u.1.c (u.2.e.au.map cV)
 d3:ud.map (·.2)=dx
 e1:SL h b 99 3 e.p e.l e.c (ue.map Mx)
 e2:∀ u,u∈ue→SL h b 109 2 u.1.p u.1.l u.1.c (u.2.2.au.map cV)
 e3:ue.map (·.2)=ex
 o3:∀ i,i∈aC t.p→ow i=3
 o4:∀ i,i∈aC d.p→ow i=4
 o5:∀ i,i∈aC e.p→ow i=5
 ot:∀ u,u∈ut→∀ i,i∈aC u.1.p→ow i=0
 od:∀ u,u∈ud→∀ i,i∈aC u.1.p→ow i=0
 oe:∀ u,u∈ue→∀ i,i∈aC u.1.p→ow i=0
section
variable {h h':Hp} {b:Nat} {tx dx:List bD} {ex:List lP} {t d e:bP} {ut ud:List (bP × bD)} {ue:List (bP × lP)} {ow:Nat→Nat}
theorem Core.nil (h:Hp) (b:Nat) (ow:Nat→Nat):Core h b [] [] [] fX fX fX [] [] [] ow :=
 ⟨SL.nil _ _ _ _,by simp,rfl,SL.nil _ _ _ _,by simp,rfl,SL.nil _ _ _ _,by simp,rfl,by simp [fX,aC],by simp [fX,aC],by simp [fX,aC],by simp,by simp,by simp⟩
theorem SL.cJ {ws:List Nat} {e':TypeId} {sz:Nat} {p:Option Addr} {l c:Nat} {xs:List (List Value)} (s:SL h b e' sz p l c xs) (k:Ch ws h h') {k0:Nat} (ho:∀ i,i∈aC p→ow i=k0) (hw:∀ i,i∈ws→i<h.size→b≤i→ow i≠k0):SL h' b e' sz p l c xs :=
 Sx.SL.bf s k fun i hi hm=>by
  have h1:=Sx.SL.bW s hi;exact hw i hm h1.2 h1.1 (ho i hi)
theorem Core.ai {ws:List Nat} (C:Core h b tx dx ex t d e ut ud ue ow) (k:Ch ws h h') (hw:∀ i,i∈ws→i<h.size→b≤i→6≤ow i):Core h' b tx dx ex t d e ut ud ue ow:=by
 have n:∀ k0,k0<6→∀ i,i∈ws→i<h.size→b≤i→ow i≠k0:=fun k0 hk i h1 h2 h3=>by have:=hw i h1 h2 h3; omega
 exact ⟨SL.cJ C.t1 k C.o3 (n 3 (by omega)),fun u hu=>SL.cJ (C.t2 u hu) k (C.ot u hu) (n 0 (by omega)),C.t3,
  SL.cJ C.d1 k C.o4 (n 4 (by omega)),fun u hu=>SL.cJ (C.d2 u hu) k (C.od u hu) (n 0 (by omega)),C.d3,
  SL.cJ C.e1 k C.o5 (n 5 (by omega)),fun u hu=>SL.cJ (C.e2 u hu) k (C.oe u hu) (n 0 (by omega)),C.e3,C.o3,C.o4,C.o5,C.ot,C.od,C.oe⟩
theorem Core.relabel (C:Core h b tx dx ex t d e ut ud ue ow) {ow':Nat→Nat} (ho:∀ i,i<h.size→ow' i=ow i):Core h b tx dx ex t d e ut ud ue ow' :=
 ⟨C.t1,C.t2,C.t3,C.d1,C.d2,C.d3,C.e1,C.e2,C.e3,fun i hi=>(ho i (Sx.SL.bW C.t1 hi).2).trans (C.o3 i hi),fun i hi=>(ho i (Sx.SL.bW C.d1 hi).2).trans (C.o4 i hi),fun i hi=>(ho i (Sx.SL.bW C.e1 hi).2).trans (C.o5 i hi),
  fun u hu i hi=>(ho i (Sx.SL.bW (C.t2 u hu) hi).2).trans (C.ot u hu i hi),fun u hu i hi=>(ho i (Sx.SL.bW (C.d2 u hu) hi).2).trans (C.od u hu i hi),fun u hu i hi=>(ho i (Sx.SL.bW (C.e2 u hu) hi).2).trans (C.oe u hu i hi)⟩
def dH (n k:Nat) (ow:Nat→Nat):Nat→Nat:=fun i=>if i<n then ow i else k
theorem cE {n k:Nat} {ow:Nat→Nat} {i:Nat} (hi:i<n):dH n k ow i=ow i:=if_pos hi
theorem uQ {n k:Nat} {ow:Nat→Nat} {i:Nat} (hi:n≤i):dH n k ow i=k:=if_neg (by omega)
theorem u6 {p p':Option Addr} {n k:Nat} {ow:Nat→Nat} (ho:∀ i,i∈aC p→ow i=k) (hl:∀ i,i∈aC p→i<n) (hp:p'=p∨∃ a,p'=some a∧n≤a.block):∀ i,i∈aC p'→dH n k ow i=k:=by
 intro i hi;rcases hp with rfl | ⟨a,rfl,ha⟩
 ·rw [cE (hl i hi)];exact ho i hi
 ·simp [aC] at hi;exact uQ (by omega)
variable {L:Lp} {K:Value→Hp→Prop}
theorem Core.MJ (C:Core h b tx dx ex t d e ut ud ue ow) (hb:b≤h.size) {b':Nat} {s:bP} {us:List (bP × bD)} (hs:SL h b' 96 10 s.p s.l s.c (us.map xM)) (hu:∀ u,u∈us→SL h b 109 2 u.1.p u.1.l u.1.c (u.2.e.au.map cV)) (ho:∀ u,u∈us→∀ i,i∈aC u.1.p→ow i=0)
  (hm:t.l+s.l≤2^30) {k:Option Addr→Nat→Nat→T}
  (hk:∀ (t':bP) h',Core h' b (tx++us.map (·.2)) dx ex t' d e (ut++us) ud ue (dH h.size 3 ow)→Ch (aC t.p) h h'→t'.l=t.l+s.l→k t'.p t'.l t'.c L K h') :
  T.bj Tryz.prog (Builtin.append_ #[23,23] 23 #[.slice t.p t.l t.c,.slice s.p s.l s.c]) false [(false,[.slice 0])] k L K h:=by
 obtain ⟨i,hi,hz,h1,h2⟩:=kj DY;refine cG ?_;have t1:=C.t1;rw [← h1] at t1 hs;refine x8 Il hi hz (by rw [h1]; rfl) t1 hs (vC _ wg _) (by rw [h2]; omega) (by omega) hb ?_;intro p' c' h' s' k' hp';have old:∀ {p:Option Addr} {k0:Nat},(∀ i,i∈aC p→i<h.size)→(∀ i,i∈aC p→ow i=k0)→∀ i,i∈aC p→dH h.size 3 ow i=k0:=fun hl ho i hi=>(cE (hl i hi)).trans (ho i hi)
 have n:∀ k0,k0≠3→∀ i,i∈aC t.p→i<h.size→b≤i→ow i≠k0:=fun k0 hk i h1 h2 h3=>by rw [C.o3 i h1]; omega
 refine ⟨p',t.l+s.l,c',rfl,hk ⟨p',t.l+s.l,c'⟩ h' ?_ k' rfl⟩;rw [h1,← List.map_append] at s';refine ⟨s',?_,by rw [List.map_append,C.t3],SL.cJ C.d1 k' C.o4 (n 4 (by omega)),fun u hu=>SL.cJ (C.d2 u hu) k' (C.od u hu) (n 0 (by omega)),C.d3,SL.cJ C.e1 k' C.o5 (n 5 (by omega)),fun u hu=>SL.cJ (C.e2 u hu) k' (C.oe u hu) (n 0 (by omega)),C.e3,?_,?_,?_,?_,?_,?_⟩
 ·intro u hu';rcases List.mem_append.1 hu' with hu' | hu'
  ·exact SL.cJ (C.t2 u hu') k' (C.ot u hu') (n 0 (by omega))
  ·exact SL.cJ (hu u hu') k' (ho u hu') (n 0 (by omega))
 ·exact u6 C.o3 (fun i hi=>(Sx.SL.bW C.t1 hi).2) hp'
 ·exact old (fun i hi=>(Sx.SL.bW C.d1 hi).2) C.o4
 ·exact old (fun i hi=>(Sx.SL.bW C.e1 hi).2) C.o5
 ·intro u hu';rcases List.mem_append.1 hu' with hu' | hu'
  ·exact old (fun i hi=>(Sx.SL.bW (C.t2 u hu') hi).2) (C.ot u hu')
  ·exact old (fun i hi=>(Sx.SL.bW (hu u hu') hi).2) (ho u hu')
 ·exact fun u hu'=>old (fun i hi=>(Sx.SL.bW (C.d2 u hu') hi).2) (C.od u hu')
 ·exact fun u hu'=>old (fun i hi=>(Sx.SL.bW (C.e2 u hu') hi).2) (C.oe u hu')
theorem Core.M1 (C:Core h b tx dx ex t d e ut ud ue ow) (hb:b≤h.size) {b':Nat} {s:bP} {us:List (bP × bD)} (hs:SL h b' 96 10 s.p s.l s.c (us.map xM)) (hu:∀ u,u∈us→SL h b 109 2 u.1.p u.1.l u.1.c (u.2.e.au.map cV)) (ho:∀ u,u∈us→∀ i,i∈aC u.1.p→ow i=0)
  (hm:d.l+s.l≤2^30) {k:Option Addr→Nat→Nat→T}
  (hk:∀ (d':bP) h',Core h' b tx (dx++us.map (·.2)) ex t d' e ut (ud++us) ue (dH h.size 4 ow)→Ch (aC d.p) h h'→d'.l=d.l+s.l→k d'.p d'.l d'.c L K h') :
  T.bj Tryz.prog (Builtin.append_ #[23,23] 23 #[.slice d.p d.l d.c,.slice s.p s.l s.c]) false [(false,[.slice 0])] k L K h:=by
 obtain ⟨i,hi,hz,h1,h2⟩:=kj DY;refine cG ?_;have d1:=C.d1;rw [← h1] at d1 hs;refine x8 Il hi hz (by rw [h1]; rfl) d1 hs (vC _ wg _) (by rw [h2]; omega) (by omega) hb ?_;intro p' c' h' s' k' hp';have old:∀ {p:Option Addr} {k0:Nat},(∀ i,i∈aC p→i<h.size)→(∀ i,i∈aC p→ow i=k0)→∀ i,i∈aC p→dH h.size 4 ow i=k0:=fun hl ho i hi=>(cE (hl i hi)).trans (ho i hi)
 have n:∀ k0,k0≠4→∀ i,i∈aC d.p→i<h.size→b≤i→ow i≠k0:=fun k0 hk i h1 h2 h3=>by rw [C.o4 i h1]; omega
 refine ⟨p',d.l+s.l,c',rfl,hk ⟨p',d.l+s.l,c'⟩ h' ?_ k' rfl⟩;rw [h1,← List.map_append] at s';refine ⟨SL.cJ C.t1 k' C.o3 (n 3 (by omega)),fun u hu=>SL.cJ (C.t2 u hu) k' (C.ot u hu) (n 0 (by omega)),C.t3,s',?_,by rw [List.map_append,C.d3],SL.cJ C.e1 k' C.o5 (n 5 (by omega)),fun u hu=>SL.cJ (C.e2 u hu) k' (C.oe u hu) (n 0 (by omega)),C.e3,?_,?_,?_,?_,?_,?_⟩
 ·intro u hu';rcases List.mem_append.1 hu' with hu' | hu'
  ·exact SL.cJ (C.d2 u hu') k' (C.od u hu') (n 0 (by omega))
  ·exact SL.cJ (hu u hu') k' (ho u hu') (n 0 (by omega))
 ·exact old (fun i hi=>(Sx.SL.bW C.t1 hi).2) C.o3
 ·exact u6 C.o4 (fun i hi=>(Sx.SL.bW C.d1 hi).2) hp'
 ·exact old (fun i hi=>(Sx.SL.bW C.e1 hi).2) C.o5
 ·exact fun u hu'=>old (fun i hi=>(Sx.SL.bW (C.t2 u hu') hi).2) (C.ot u hu')
 ·intro u hu';rcases List.mem_append.1 hu' with hu' | hu'
  ·exact old (fun i hi=>(Sx.SL.bW (C.d2 u hu') hi).2) (C.od u hu')
  ·exact old (fun i hi=>(Sx.SL.bW (hu u hu') hi).2) (ho u hu')
 ·exact fun u hu'=>old (fun i hi=>(Sx.SL.bW (C.e2 u hu') hi).2) (C.oe u hu')
theorem Core.zK (C:Core h b tx dx ex t d e ut ud ue ow) (hb:b≤h.size) {st:List (Addr × List Value)} {s:bP} {x:lP} (hu:SL h b 109 2 s.p s.l s.c (x.2.au.map cV)) (ho:∀ i,i∈aC s.p→ow i=0)
  (hm:e.l+1≤2^30) {k:Option Addr→Nat→Nat→T} (hst:∀ h',Ext h h'→T.FO h' st)
  (hk:∀ (e':bP) h',Core h' b tx dx (ex++[x]) t d e' ut ud (ue++[(s,x)]) (dH h.size 5 ow)→Ch (aC e.p) h h'→e'.l=e.l+1→k e'.p e'.l e'.c L K h') :
  T.bj Tryz.prog (Instr.buildSlice 24 1 #[(0,.agg #[.string x.1,.slice s.p s.l s.c,.int .u32 (x.2.num:Int)])]) false [(false,[.slice 0])] (fun q m cc=>T.aM st (T.bj Tryz.prog (Builtin.append_ #[24,24] 24 #[.slice e.p e.l e.c,.slice q m cc]) false [(false,[.slice 0])] k)) L K h:=by
 refine zm MU M' rfl (by omega) (by omega) (LJ x.1 s.p s.l s.c x.2.num) rfl rfl C.e1 hb (by omega) (by omega) hst ?_;intro p' c' h' s' k' hp';have old:∀ {p:Option Addr} {k0:Nat},(∀ i,i∈aC p→i<h.size)→(∀ i,i∈aC p→ow i=k0)→∀ i,i∈aC p→dH h.size 5 ow i=k0:=fun hl ho i hi=>(cE (hl i hi)).trans (ho i hi)
 have n:∀ k0,k0≠5→∀ i,i∈aC e.p→i<h.size→b≤i→ow i≠k0:=fun k0 hk i h1 h2 h3=>by rw [C.o5 i h1]; omega
 refine hk ⟨p',e.l+1,c'⟩ h' ?_ k' rfl;refine ⟨SL.cJ C.t1 k' C.o3 (n 3 (by omega)),fun u hu=>SL.cJ (C.t2 u hu) k' (C.ot u hu) (n 0 (by omega)),C.t3,SL.cJ C.d1 k' C.o4 (n 4 (by omega)),fun u hu=>SL.cJ (C.d2 u hu) k' (C.od u hu) (n 0 (by omega)),C.d3,by rw [List.map_append]; exact s',?_,by rw [List.map_append,C.e3]; rfl,?_,?_,?_,?_,?_,?_⟩
 ·intro u hu';rcases List.mem_append.1 hu' with hu' | hu'
  ·exact SL.cJ (C.e2 u hu') k' (C.oe u hu') (n 0 (by omega))
  ·have:=List.mem_singleton.1 hu'
   subst this;exact SL.cJ hu k' ho (n 0 (by omega))
 ·exact old (fun i hi=>(Sx.SL.bW C.t1 hi).2) C.o3
 ·exact old (fun i hi=>(Sx.SL.bW C.d1 hi).2) C.o4
 ·exact u6 C.o5 (fun i hi=>(Sx.SL.bW C.e1 hi).2) hp'
 ·exact fun u hu'=>old (fun i hi=>(Sx.SL.bW (C.t2 u hu') hi).2) (C.ot u hu')
 ·exact fun u hu'=>old (fun i hi=>(Sx.SL.bW (C.d2 u hu') hi).2) (C.od u hu')
 ·intro u hu';rcases List.mem_append.1 hu' with hu' | hu'
  ·exact old (fun i hi=>(Sx.SL.bW (C.e2 u hu') hi).2) (C.oe u hu')
  ·have:=List.mem_singleton.1 hu'
   subst this;exact old (fun i hi=>(Sx.SL.bW hu hi).2) ho
end
structure Ab (b:Nat) (q:Nat→Prop) (ow:Nat→Nat) (h h':Hp):Prop where
 size:h.size≤h'.size
 same:∀ i,i<h.size→(i<b∨q i)→h'[i]?=h[i]?
 qs:∀ i,q i→i<h.size
 qo:∀ i,q i→ow i=9
theorem Ab.HA {b:Nat} {q:Nat→Prop} {ow:Nat→Nat} {h h':Hp} (k:Ext h h') (qs:∀ i,q i→i<h.size) (qo:∀ i,q i→ow i=9):Ab b q ow h h' :=
 ⟨k.size,fun i hi _=>k.same i hi (by simp),qs,qo⟩
theorem Ab.step {b:Nat} {q:Nat→Prop} {ow ow':Nat→Nat} {h h1 h2:Hp} {ws:List Nat} (a:Ab b q ow h h1) (k:Ch ws h1 h2) (hw:∀ i,i∈ws→i<h1.size→b≤i∧ow i≠9) (ho:∀ i,i<h1.size→ow' i=ow i):Ab b q ow' h h2:=by
 have hlt:∀ i,i<h.size→i<h1.size:=fun i hi=>Nat.lt_of_lt_of_le hi a.size
 refine ⟨Nat.le_trans a.size k.size,fun i hi hq=>?_,a.qs,fun i hq=>(ho i (hlt i (a.qs i hq))).trans (a.qo i hq)⟩;rw [← a.same i hi hq];refine k.same i (hlt i hi) fun hm=>?_
 have:=hw i hm (hlt i hi)
 rcases hq with hq | hq
 ·omega
 ·exact this.2 (a.qo i hq)
theorem Ab.BE {b:Nat} {q:Nat→Prop} {ow ow':Nat→Nat} {h h1 h2:Hp} (a:Ab b q ow h h1) (k:Ext h1 h2) (ho:∀ i,i<h1.size→ow' i=ow i):Ab b q ow' h h2:=a.step k (by simp) ho
theorem Ab.ext {b:Nat} {q:Nat→Prop} {ow:Nat→Nat} {h h':Hp} (k:Ab b q ow h h') (hb:h.size≤b):Ext h h':=⟨k.size,fun i hi _=>k.same i hi (.inl (by omega))⟩
def kR (t d e:bP) (sec items:Int) (g:Nat) (q:bP):List Value:=[t.v,d.v,e.v,.slice none 0 0,.int .i64 sec,.int .i64 items,.map (some g),q.v]
structure dm (h:Hp) (b A g:Nat) (w:ew) (t d e q:bP) (ut ud:List (bP × bD)) (ue:List (bP × lP)) (ow:Nat→Nat):Prop where
 core:Core h b w.text w.data w.aQ t d e ut ud ue ow
 box:aO h A 73 (kR t d e (w.sec:Int) ((w.text.length+w.data.length:Nat):Int) g q)
 names:pG h g w.names
 aF:SL h b 76 2 q.p q.l q.c (w.aF.map M0)
 oA:ow A=6
 og:ow g=7
 oq:∀ i,i∈aC q.p→ow i=8
 bA:b≤A
 bg:b≤g
section
variable {h h':Hp} {b A g:Nat} {w:ew} {t d e q:bP} {ut ud:List (bP × bD)} {ue:List (bP × lP)} {ow:Nat→Nat}
theorem dm.ai {ws:List Nat} (a:dm h b A g w t d e q ut ud ue ow) (k:Ch ws h h') (hw:∀ i,i∈ws→i<h.size→b≤i→9≤ow i):dm h' b A g w t d e q ut ud ue ow :=
 ⟨a.core.ai k (fun i h1 h2 h3=>by have:=hw i h1 h2 h3; omega),a.box.ai k (fun hm=>by have:=hw A hm a.box.lt a.bA; have:=a.oA; omega),a.names.ai k (fun hm=>by have:=hw g hm a.names.lt a.bg; have:=a.og; omega),
  SL.cJ a.aF k a.oq (fun i h1 h2 h3=>by have:=hw i h1 h2 h3; omega),a.oA,a.og,a.oq,a.bA,a.bg⟩
theorem dm.relabel (a:dm h b A g w t d e q ut ud ue ow) {ow':Nat→Nat} (ho:∀ i,i<h.size→ow' i=ow i):dm h b A g w t d e q ut ud ue ow' :=
 ⟨a.core.relabel ho,a.box,a.names,a.aF,(ho A a.box.lt).trans a.oA,(ho g a.names.lt).trans a.og,fun i hi=>(ho i (Sx.SL.bW a.aF hi).2).trans (a.oq i hi),a.bA,a.bg⟩
theorem rK {α β:Type} {us:List (α × β)} {l:List β} (h:us.map (·.2)=l):us.length=l.length:=by rw [← h,List.length_map]
theorem dm.tl (a:dm h b A g w t d e q ut ud ue ow):t.l=w.text.length:=by rw [a.core.t1.1,List.length_map,rK a.core.t3]
theorem dm.dl (a:dm h b A g w t d e q ut ud ue ow):d.l=w.data.length:=by rw [a.core.d1.1,List.length_map,rK a.core.d3]
theorem dm.el (a:dm h b A g w t d e q ut ud ue ow):e.l=w.aQ.length:=by rw [a.core.e1.1,List.length_map,rK a.core.e3]
theorem dm.ql (a:dm h b A g w t d e q ut ud ue ow):q.l=w.aF.length:=by rw [a.aF.1,List.length_map]
def j5 (w:ew) (jW:List bD):ew:={ w with text:=if w.sec=0 then w.text++jW else w.text,data:=if w.sec=0 then w.data else w.data++jW }
theorem xi (w:ew) (jW:List bD):(j5 w jW).text.length+(j5 w jW).data.length=w.text.length+w.data.length+jW.length:=by
 unfold j5;simp only;split
 ·rw [List.length_append]; omega
 ·rw [List.length_append]; omega
def MF (h:Hp) (b A g:Nat) (w:ew) (e q:bP) (us:List (bP × bD)) (ue:List (bP × lP)) (ow:Nat→Nat) (v:Value) (h':Hp):Prop :=
 v=.tuple #[]∧∃ t' d' ut' ud' ow',dm h' b A g (j5 w (us.map (·.2))) t' d' e q ut' ud' ue ow'∧(∀ i,i<h.size→ow' i=ow i)∧∃ ws,Ch ws h h'∧∀ i,i∈ws→i<h.size→b≤i∧(ow i=3∨ow i=4∨ow i=6)
set_option maxHeartbeats 1000000 in
theorem Gp (a : dm h b A g w t d e q ut ud ue ow) (hb : b ≤ h.size) (hsec : w.sec ≤ 1) {b' : Nat} {s : bP} {us : List (bP × bD)} (hs : SL h b' 96 10 s.p s.l s.c (us.map xM)) (hu : ∀ u, u ∈ us → SL h b 109 2 u.1.p u.1.l u.1.c (u.2.e.au.map cV)) (ho : ∀ u, u ∈ us → ∀ i, i ∈ aC u.1.p → ow i = 0)
    (hm : w.text.length + w.data.length + us.length ≤ 2 ^ 29) : HC Tryz.prog 66 #[.pointer (some ⟨A, 0, none⟩), .int .i64 (w.sec : Int), .slice s.p s.l s.c] h (MF h b A g w e q us ue ow) := by
  refine aK (args := [.pointer (some ⟨A, 0, none⟩), .int .i64 (w.sec : Int), .slice s.p s.l s.c]) mixed Tryz.func66 (by kernel_rfl) (km (some ⟨A, 0, none⟩) w.sec s.p s.l s.c) ?_;unfold gD;have hsl : s.l = us.length := by rw [hs.1, List.length_map]
  have htl := a.tl;have hdl := a.dl;have hlt := a.box.lt;refine af (fun r => ?_) (fun r => ?_)
  · have r : w.sec = 1 := by have := eq_of_beq r; omega
    refine aj rfl ?_;rw [ao];refine ad a.box ((d.p, d.l, d.c), ()) rfl ?_;dsimp only [flat, az, ah, List.nil_append, List.cons_append];refine a.core.M1 hb hs hu ho (by omega) ?_;intro d' h1 C1 k1 l1;have nA : A ∉ aC d.p := fun hm => by have := a.core.o4 A hm; have := a.oA; omega
    refine aj rfl ?_;rw [ao];refine an (a.box.ai k1 nA) rfl (by simp [kR]) ?_;intro h2 b2 k2 z2;have b2 : aO h2 A 73 (kR t d' e (w.sec : Int) ((w.text.length + w.data.length : Nat) : Int) g q) := b2;refine aj rfl ?_;rw [ao];refine ad b2 (((w.text.length + w.data.length : Nat) : Int), ()) rfl ?_;dsimp only [flat, az, ah, List.nil_append, List.cons_append];refine aj rfl ?_;rw [ao];refine an b2 rfl (by simp [kR]) ?_;intro h3 b3 k3 z3;have b3 : aO h3 A 73 (kR t d' e (w.sec : Int) (IntKind.wrap .i64 (((w.text.length + w.data.length : Nat) : Int) + (s.l : Int))) g q) := b3;rw [wrap_i64 (by omega) (by omega), show (((w.text.length + w.data.length : Nat) : Int) + (s.l : Int)) = ((w.text.length + w.data.length + us.length : Nat) : Int) by omega] at b3;have oA1 : dH h.size 4 ow A = 6 := (cE hlt).trans a.oA;have C3 := (C1.ai k2 (fun i hi _ _ => by have hi := List.mem_singleton.1 hi; subst hi; omega)).ai k3 (fun i hi _ _ => by have hi := List.mem_singleton.1 hi; subst hi; omega);have ng : g ∉ aC d.p := fun hm => by have := a.core.o4 g hm; have := a.og; omega
    have ngA : g ∉ [A] := fun hm => by have hm := List.mem_singleton.1 hm; subst hm; have := a.oA; have := a.og; omega
    have qd : ∀ i, i ∈ aC q.p → i ∉ aC d.p := fun i hi hm => by have := a.core.o4 i hm; have := a.oq i hi; omega
    have qA : ∀ i, i ∈ aC q.p → i ∉ [A] := fun i hi hm => by have hm := List.mem_singleton.1 hm; subst hm; have := a.oA; have := a.oq i hi; omega
    refine ⟨rfl, t, d', ut, ud ++ us, dH h.size 4 ow, ⟨?_, ?_, ((a.names.ai k1 ng).ai k2 ngA).ai k3 ngA, Sx.SL.bf (Sx.SL.bf (Sx.SL.bf a.aF k1 qd) k2 qA) k3 qA, oA1, (cE a.names.lt).trans a.og, fun i hi => (cE (Sx.SL.bW a.aF hi).2).trans (a.oq i hi), a.bA, a.bg⟩, fun i hi => cE hi, A :: aC d.p, ?_, ?_⟩
    · unfold j5
      simp only;rw [if_neg (by omega), if_neg (by omega)];exact C3
    · rw [xi, List.length_map]
      exact b3
    · exact ((k1.mono (fun i hi _ => by simp [hi])).trans k2 (fun i hi _ => by have hi := List.mem_singleton.1 hi; simp [hi])).trans k3 (fun i hi _ => by have hi := List.mem_singleton.1 hi; simp [hi])
    · intro i hi hl
      rcases List.mem_cons.1 hi with rfl | hi
      · exact ⟨a.bA, .inr (.inr a.oA)⟩
      · exact ⟨(Sx.SL.bW a.core.d1 hi).1, .inr (.inl (a.core.o4 i hi))⟩
  · have r : w.sec = 0 := by have : ¬ w.sec = 1 := fun e => by rw [e] at r; simp at r
                             omega
    refine aj rfl ?_;refine ad a.box ((t.p, t.l, t.c), ()) rfl ?_;dsimp only [flat, az, ah, List.nil_append, List.cons_append];refine a.core.MJ hb hs hu ho (by omega) ?_;intro t' h1 C1 k1 l1;have nA : A ∉ aC t.p := fun hm => by have := a.core.o3 A hm; have := a.oA; omega
    refine aj rfl ?_;refine an (a.box.ai k1 nA) rfl (by simp [kR]) ?_;intro h2 b2 k2 z2;have b2 : aO h2 A 73 (kR t' d e (w.sec : Int) ((w.text.length + w.data.length : Nat) : Int) g q) := b2;refine aj rfl ?_;rw [ao];refine ad b2 (((w.text.length + w.data.length : Nat) : Int), ()) rfl ?_;dsimp only [flat, az, ah, List.nil_append, List.cons_append];refine aj rfl ?_;rw [ao];refine an b2 rfl (by simp [kR]) ?_;intro h3 b3 k3 z3;have b3 : aO h3 A 73 (kR t' d e (w.sec : Int) (IntKind.wrap .i64 (((w.text.length + w.data.length : Nat) : Int) + (s.l : Int))) g q) := b3;rw [wrap_i64 (by omega) (by omega), show (((w.text.length + w.data.length : Nat) : Int) + (s.l : Int)) = ((w.text.length + w.data.length + us.length : Nat) : Int) by omega] at b3;have oA1 : dH h.size 3 ow A = 6 := (cE hlt).trans a.oA;have C3 := (C1.ai k2 (fun i hi _ _ => by have hi := List.mem_singleton.1 hi; subst hi; omega)).ai k3 (fun i hi _ _ => by have hi := List.mem_singleton.1 hi; subst hi; omega);have ng : g ∉ aC t.p := fun hm => by have := a.core.o3 g hm; have := a.og; omega
    have ngA : g ∉ [A] := fun hm => by have hm := List.mem_singleton.1 hm; subst hm; have := a.oA; have := a.og; omega
    have qd : ∀ i, i ∈ aC q.p → i ∉ aC t.p := fun i hi hm => by have := a.core.o3 i hm; have := a.oq i hi; omega
    have qA : ∀ i, i ∈ aC q.p → i ∉ [A] := fun i hi hm => by have hm := List.mem_singleton.1 hm; subst hm; have := a.oA; have := a.oq i hi; omega
    refine ⟨rfl, t', d, ut ++ us, ud, dH h.size 3 ow, ⟨?_, ?_, ((a.names.ai k1 ng).ai k2 ngA).ai k3 ngA, Sx.SL.bf (Sx.SL.bf (Sx.SL.bf a.aF k1 qd) k2 qA) k3 qA, oA1, (cE a.names.lt).trans a.og, fun i hi => (cE (Sx.SL.bW a.aF hi).2).trans (a.oq i hi), a.bA, a.bg⟩, fun i hi => cE hi, A :: aC t.p, ?_, ?_⟩
    · unfold j5
      simp only;rw [if_pos r, if_pos r];exact C3
    · rw [xi, List.length_map]
      exact b3
    · exact ((k1.mono (fun i hi _ => by simp [hi])).trans k2 (fun i hi _ => by have hi := List.mem_singleton.1 hi; simp [hi])).trans k3 (fun i hi _ => by have hi := List.mem_singleton.1 hi; simp [hi])
    · intro i hi hl
      rcases List.mem_cons.1 hi with rfl | hi
      · exact ⟨a.bA, .inr (.inr a.oA)⟩
      · exact ⟨(Sx.SL.bW a.core.t1 hi).1, .inl (a.core.o3 i hi)⟩
end
structure pz (h:Hp) (b:Nat) (t:kD) (sl:bP) (us:List (bP × bD)) (se:bP) (ow:Nat→Nat):Prop where
 jW:SL h b 96 10 sl.p sl.l sl.c (us.map xM)
 own:∀ u,u∈us→SL h b 109 2 u.1.p u.1.l u.1.c (u.2.e.au.map cV)
 eq:us.map (·.2)=t.items
 e:SL h b 109 2 se.p se.l se.c (t.e.au.map cV)
 o9:∀ i,i∈aC sl.p→ow i=9
 ou:∀ u,u∈us→∀ i,i∈aC u.1.p→ow i=0
 oe:∀ i,i∈aC se.p→ow i=0
section
variable {h h':Hp} {b:Nat} {t:kD} {sl se:bP} {us:List (bP × bD)} {ow:Nat→Nat}
theorem pz.ai {ws:List Nat} (o:pz h b t sl us se ow) (k:Ch ws h h') (hw:∀ i,i∈ws→i<h.size→b≤i→ow i≠0∧ow i≠9):pz h' b t sl us se ow :=
 ⟨SL.cJ o.jW k o.o9 (fun i h1 h2 h3=>(hw i h1 h2 h3).2),fun u hu=>SL.cJ (o.own u hu) k (o.ou u hu) (fun i h1 h2 h3=>(hw i h1 h2 h3).1),o.eq,SL.cJ o.e k o.oe (fun i h1 h2 h3=>(hw i h1 h2 h3).1),o.o9,o.ou,o.oe⟩
theorem pz.relabel (o:pz h b t sl us se ow) {ow':Nat→Nat} (ho:∀ i,i<h.size→ow' i=ow i):pz h b t sl us se ow' :=
 ⟨o.jW,o.own,o.eq,o.e,fun i hi=>(ho i (Sx.SL.bW o.jW hi).2).trans (o.o9 i hi),fun u hu i hi=>(ho i (Sx.SL.bW (o.own u hu) hi).2).trans (o.ou u hu i hi),fun i hi=>(ho i (Sx.SL.bW o.e hi).2).trans (o.oe i hi)⟩
theorem pz.Ni {ws:List Nat} (o:pz h b t sl us se ow) (k:Ch ws h h') (hw:∀ i,i∈ws→i<h.size→b≤i→ow i≠0∧ow i≠9) {ow':Nat→Nat} (ho:∀ i,i<h.size→ow' i=ow i):pz h' b t sl us se ow' :=
 (o.relabel ho).ai k (fun i h1 h2 h3=>by rw [ho i h2]; exact hw i h1 h2 h3)
theorem SL.ty {e1 e2:TypeId} {s1 s2 b1 b2:Nat} {p q:Option Addr} {l c m d:Nat} {xs ys:List (List Value)} (s:SL h b1 e1 s1 p l c xs) (r:SL h b2 e2 s2 q m d ys) (hne:e1≠e2):∀ i,i∈aC p→i∉aC q:=by
 intro i hi hj;cases p with
 | none=>simp [aC] at hi
 | some a =>
  cases q with
  | none=>simp [aC] at hj
  | some a' =>
   obtain ⟨g,pre,rest,rfl,hbg,hlc,hbox,hr⟩:=s.2.2;obtain ⟨g',pre',rest',rfl,hbg',hlc',hbox',hr'⟩:=r.2.2;simp [aC] at hi hj;subst hi;subst hj;unfold aO at hbox hbox';rw [hbox] at hbox';injection hbox' with hbox'
   injection hbox' with _ hbox' _
   exact hne hbox'
open Classical in
theorem pz.of {h0:Hp} {us:List (bP × bD)} (A:iW h h0.size t sl us se) (hb:b≤h0.size) (ow:Nat→Nat):∃ ow',(∀ i,i<h0.size→ow' i=ow i)∧pz h b t sl us se ow':=by
 have ty:∀ {s:bP} {xs:List (List Value)},SL h h0.size 109 2 s.p s.l s.c xs→∀ i,i∈aC s.p→i∉aC sl.p:=fun r i hi hj=>SL.ty A.jW.out r (by decide) i hj hi
 refine ⟨fun i=>if i<h0.size then ow i else if i∈aC sl.p then 9 else 0,fun i hi=>if_pos hi,Sx.SL.mono A.jW.out hb,fun u hu=>Sx.SL.mono (A.jW.own u hu) hb,A.eq,Sx.SL.mono A.e hb,?_,?_,?_⟩
 ·intro i hi
  have:=(Sx.SL.bW A.jW.out hi).1
  rw [if_neg (by omega),if_pos hi]
 ·intro u hu i hi
  have:=(Sx.SL.bW (A.jW.own u hu) hi).1
  rw [if_neg (by omega),if_neg (ty (A.jW.own u hu) i hi)]
 ·intro i hi
  have:=(Sx.SL.bW A.e hi).1
  rw [if_neg (by omega),if_neg (ty A.e i hi)]
end
theorem xb {s:ByteArray} (h:bd s.data.toList=true):s≠bI:=by
 rintro rfl;revert h;decide
theorem sR {s:ByteArray} (h:bd s.data.toList=true):s.size≤32:=by
 unfold bd at h;simp only [Bool.and_eq_true,decide_eq_true_eq] at h
 have:=h.1.1.1.2
 simpa using this
theorem B6.NK {w:ew} (W:B6 w):eb w.names bI=false:=by
 cases h:eb w.names bI with
 | false=>rfl
 | true =>
  have h:=W.perm.mem_iff.1 (eI.1 h);exfalso;have key:∀ (l:List bD) (k:Nat),(∀ x,x∈l→bm x k=true∧Good x.e)→bI∉cB l:=by
   intro l k hl hm;unfold cB at hm;obtain ⟨x,hx,hn⟩:=List.mem_map.1 hm;obtain ⟨hx,hk⟩:=List.mem_filter.1 hx
   have:=(hl x hx).1
   have hk:x.kind=1:=by simpa using hk
   unfold bm at this;rw [if_pos hk] at this;simp only [Bool.and_eq_true] at this
   have:bd x.name.data.toList=true:=by
    rcases this with ⟨⟨⟨h1,h2⟩,h3⟩,h4⟩
    first | exact h1 | exact h2 | exact h3 | exact h4
   exact xb this hn
  rcases List.mem_append.1 h with h | h
  ·rcases List.mem_append.1 h with h | h
   ·exact key _ 0 W.text h
   ·exact key _ 1 W.data h
  ·obtain ⟨x,hx,hn⟩:=List.mem_map.1 h;exact xb (W.aQ x hx).1 hn
theorem pG.congr {h:Hp} {g:Nat} {D D':List ByteArray} (m:pG h g D) (e:∀ s,eb D s=eb D' s):pG h g D':=by
 obtain ⟨n,m⟩:=m;refine ⟨n,?_⟩
 have:(fun s=>if eb D' s then some true else none)=(fun s=>if eb D s then some true else none):=by funext s; rw [e]
 rw [this];exact m
theorem AH (D:List ByteArray) (x s:ByteArray):eb (x::D) s=eb (D++[x]) s:=by
 unfold eb;rw [List.any_cons,List.any_append,List.any_cons,List.any_nil,Bool.or_false,Bool.or_comm]
def BV (p0 : Option Addr) (n1 : Int) (a10 a30 : Addr) (n29 : Int) : T :=
    cond (n29 != (0 : Int))
     (T.ret (.int .i64 n29))
     (T.join [(false, [.string])]
      (T.ae a30 [.int .i64] <| fun (n31 : Int) =>
      cond (n31 == (3 : Int))
       (T.ae (a30.add 2) [.string] <| fun (Bf : ByteArray) =>
       T.again 0 [.string Bf])
       (T.again 0 [.string ⟨#[]⟩])) <| fun (s31 : ByteArray) =>
     T.join [(false, [.bool])]
      (T.ae a10 [.string] <| fun (Bf : ByteArray) =>
      cond (!((ByteArray.toList Bf) == []))
       (T.av p0 <| fun (a33 : Addr) =>
       T.ae (a33.add 6) [.map 9 4] <| fun (r34 : Option Nat) =>
       T.ae a10 [.string] <| fun (s35 : ByteArray) =>
       T.bj Tryz.prog (Instr.lookup 70 (.map r34) (.string s35) false) false [(false, [.bool])] <| fun (b36 : Bool) =>
       T.aM [(a10, [.string Bf])] <|
       cond b36
        (T.again 0 [.bool true])
        (T.ae a10 [.string] <| fun (s37 : ByteArray) =>
        cond ((ByteArray.toList s37) == (ByteArray.toList s31))
         (T.again 0 [.bool true])
         (T.av p0 <| fun (a38 : Addr) =>
         T.ae (a38.add 6) [.map 9 4] <| fun (r39 : Option Nat) =>
         T.bj Tryz.prog (Instr.lookup 70 (.map r39) (.string s31) false) false [(false, [.bool])] <| fun (b40 : Bool) =>
         T.aM [(a10, [.string s37]), (a10, [.string s35]), ((a33.add 6), [.map r34]), (a10, [.string Bf])] <|
         T.again 0 [.bool b40])))
       (T.av p0 <| fun (a33 : Addr) =>
       T.ae (a33.add 6) [.map 9 4] <| fun (r34 : Option Nat) =>
       T.bj Tryz.prog (Instr.lookup 70 (.map r34) (.string s31) false) false [(false, [.bool])] <| fun (b35 : Bool) =>
       T.aM [(a10, [.string Bf])] <|
       T.again 0 [.bool b35])) <| fun (b32 : Bool) =>
     cond b32
      (T.ret (.int .i64 (22 : Int)))
      (T.ae (a30.add 1) [.slice 96] <| fun (p33 : Option Addr) (l34 : Nat) (l35 : Nat) =>
      T.join [(false, [.int .i64])]
       (T.ae a10 [.string] <| fun (s36 : ByteArray) =>
       cond (!((ByteArray.toList s36) == []))
        (T.again 0 [.int .i64 (IntKind.wrap .i64 ((l34 : Int) + (1 : Int)))])
        (T.again 0 [.int .i64 (l34 : Int)])) <| fun (n36 : Int) =>
      T.av p0 <| fun (a37 : Addr) =>
      T.ae (a37.add 5) [.int .i64] <| fun (n38 : Int) =>
      cond (decide ((IntKind.wrap .i64 (n38 + n36)) > (8192 : Int)))
       (T.ret (.int .i64 (4 : Int)))
       (T.join []
        (T.ae a10 [.string] <| fun (s39 : ByteArray) =>
        cond (!((ByteArray.toList s39) == []))
         (T.av p0 <| fun (a40 : Addr) =>
         T.ae (a40.add 6) [.map 9 4] <| fun (r41 : Option Nat) =>
         T.ae a10 [.string] <| fun (s42 : ByteArray) =>
         T.mQ Tryz.prog (Instr.mapUpdate 70 (.map r41) (.string s42) (.bool true)) <|
         T.av p0 <| fun (a43 : Addr) =>
         T.ae (a43.add 4) [.int .i64] <| fun (n44 : Int) =>
         T.ae a10 [.string] <| fun (s45 : ByteArray) =>
         T.bj Tryz.prog (Instr.buildSlice 23 1 #[(0, .agg #[.int .i64 (1 : Int), .string s45, .int .i64 (0 : Int), .int .i64 (0 : Int), .int .i64 (0 : Int), .int .i32 (0 : Int), .int .i64 (0 : Int), .slice none 0 0, .int .u32 (0 : Int), .int .i64 (0 : Int)])]) false [(false, [.slice 0])] <| fun (p46 : Option Addr) (l47 : Nat) (l48 : Nat) =>
         T.aM [(a10, [.string s45]), ((a43.add 4), [.int .i64 n44])] <|
         T.call Tryz.prog 66 [.pointer p0, .int .i64 n44, .slice p46 l47 l48] true [] <| T.aM [(a10, [.string s45])] <|
         T.again 0 [])
         (T.again 0 [])) <| T.av p0 <| fun (a39 : Addr) =>
       T.ae (a39.add 4) [.int .i64] <| fun (n40 : Int) =>
       T.ae (a30.add 1) [.slice 96] <| fun (p41 : Option Addr) (l42 : Nat) (l43 : Nat) =>
       T.call Tryz.prog 66 [.pointer p0, .int .i64 n40, .slice p41 l42 l43] true [] <| T.join []
        (T.ae a30 [.int .i64] <| fun (n44 : Int) =>
        cond (n44 == (3 : Int))
         (T.av p0 <| fun (a45 : Addr) =>
         T.ae (a45.add 6) [.map 9 4] <| fun (r46 : Option Nat) =>
         T.mQ Tryz.prog (Instr.mapUpdate 70 (.map r46) (.string s31) (.bool true)) <|
         T.av p0 <| fun (a47 : Addr) =>
         T.ae (a47.add 2) [.slice 99] <| fun (p48 : Option Addr) (l49 : Nat) (l50 : Nat) =>
         T.ae (a30.add 2) [.string] <| fun (s51 : ByteArray) =>
         T.ae (a30.add 3) [.slice 109, .int .u32] <| fun (p52 : Option Addr) (l53 : Nat) (l54 : Nat) (n55 : Int) =>
         T.bj Tryz.prog (Instr.buildSlice 24 1 #[(0, .agg #[.string s51, .slice p52 l53 l54, .int .u32 n55])]) false [(false, [.slice 0])] <| fun (p56 : Option Addr) (l57 : Nat) (l58 : Nat) =>
         T.aM [((a30.add 3), [.slice p52 l53 l54, .int .u32 n55]), ((a30.add 2), [.string s51]), ((a47.add 2), [.slice p48 l49 l50])] <|
         T.bj Tryz.prog (Builtin.append_ #[24, 24] 24 #[.slice p48 l49 l50, .slice p56 l57 l58]) false [(false, [.slice 0])] <| fun (p59 : Option Addr) (l60 : Nat) (l61 : Nat) =>
         T.aM [((a30.add 3), [.slice p52 l53 l54, .int .u32 n55]), ((a30.add 2), [.string s51])] <|
         T.av p0 <| fun (a62 : Addr) =>
         T.ap (a62.add 2) [.slice p59 l60 l61] <|
         T.again 0 [])
         (cond (n44 == (4 : Int))
          (T.av p0 <| fun (a45 : Addr) =>
          T.ae (a45.add 7) [.slice 76] <| fun (p46 : Option Addr) (l47 : Nat) (l48 : Nat) =>
          T.ae (a30.add 2) [.string] <| fun (s49 : ByteArray) =>
          T.bj Tryz.prog (Instr.buildSlice 71 1 #[(0, .agg #[.string s49, .int .i64 n1])]) false [(false, [.slice 0])] <| fun (p50 : Option Addr) (l51 : Nat) (l52 : Nat) =>
          T.aM [((a30.add 2), [.string s49]), ((a45.add 7), [.slice p46 l47 l48])] <|
          T.bj Tryz.prog (Builtin.append_ #[71, 71] 71 #[.slice p46 l47 l48, .slice p50 l51 l52]) false [(false, [.slice 0])] <| fun (p53 : Option Addr) (l54 : Nat) (l55 : Nat) =>
          T.aM [((a30.add 2), [.string s49])] <|
          T.av p0 <| fun (a56 : Addr) =>
          T.ap (a56.add 7) [.slice p53 l54 l55] <|
          T.again 0 [])
          (cond (n44 == (5 : Int))
           (T.ae (a30.add 5) [.int .i64] <| fun (n45 : Int) =>
           T.av p0 <| fun (a46 : Addr) =>
           T.ap (a46.add 4) [.int .i64 n45] <|
           T.again 0 [])
           (T.again 0 [])))) <| T.ret (.int .i64 (0 : Int)))))
def JL (b A g:Nat) (qq:Nat→Prop) (h:Hp) (r:Except Nat ew) (v:Value) (h':Hp):Prop :=
 match r with
 | .error e=>v=.int .i64 (e:Int)∧e≠0∧Ext h h'
 | .ok w'=>v=.int .i64 0∧∃ t d e q ut ud ue ow,dm h' b A g w' t d e q ut ud ue ow∧Ab b qq ow h h'
def qj (w:ew) (n:Nat) (dH:ByteArray) (r:Except Nat kD):Except Nat ew :=
 match r with
 | .error e=>.error e
 | .ok t=>if uM w dH t then .error 22 else if 8192<w.text.length+w.data.length+(j3 dH t).length then .error 4 else .ok (jD w n dH t)
def uJ (t:kD):ByteArray:=if t.kind=3 then t.name else bI
theorem Le {w:ew} {lb:ByteArray} {t:kD} (h:lb≠bI) (hi:eb w.names lb=true):uM w lb t:=.inl ⟨h,hi⟩
theorem K6 {w:ew} {lb:ByteArray} {t:kD} (h:lb≠bI) (hi:lb=uJ t):uM w lb t:=by
 unfold uJ at hi;split at hi
 ·rename_i k;exact .inr ⟨k,.inr hi.symm⟩
 ·exact absurd hi h
theorem J6 {w:ew} (W:B6 w) {lb:ByteArray} {t:kD} (ok:t.kind=3→bd t.name.data.toList=true) (h:¬ (lb≠bI∧(eb w.names lb=true∨lb=uJ t))):eb w.names (uJ t)=decide (uM w lb t):=by
 by_cases k:t.kind=3
 ·have he:uJ t=t.name:=if_pos k;rw [he] at h ⊢;cases hi:eb w.names t.name with
  | true=>exact (decide_eq_true (.inr ⟨k,.inl hi⟩)).symm
  | false =>
   refine (decide_eq_false ?_).symm;rintro (⟨h1,h2⟩ | ⟨_,h1 | h1⟩)
   ·exact h ⟨h1,.inl h2⟩
   ·rw [hi] at h1; cases h1
   ·exact h ⟨fun e=>xb (ok k) (h1.trans e),.inr h1.symm⟩
 ·have he:uJ t=bI:=if_neg k;rw [he] at h ⊢;rw [W.NK];refine (decide_eq_false ?_).symm;rintro (⟨h1,h2⟩ | ⟨h1,_⟩)
  ·exact h ⟨h1,.inl h2⟩
  ·exact k h1
def eJ (w:ew) (lb:ByteArray):ew:=if lb=bI then w else j5 { w with names:=w.names++[lb] } [xj lb]
theorem Gq (w:ew) (lb:ByteArray):(eJ w lb).sec=w.sec:=by unfold eJ j5; split <;> rfl
theorem EP (w:ew) (lb:ByteArray):(eJ w lb).aQ=w.aQ:=by unfold eJ j5; split <;> rfl
theorem C4 (w:ew) (lb:ByteArray):(eJ w lb).aF=w.aF:=by unfold eJ j5; split <;> rfl
theorem Gf (w:ew) (lb:ByteArray):(eJ w lb).text.length+(eJ w lb).data.length≤w.text.length+w.data.length+1:=by
 unfold eJ;split
 ·omega
 ·rw [xi]; simp
theorem u' (w:ew) (n:Nat) (lb:ByteArray) (t:kD):jD w n lb t={ text:=(j5 (eJ w lb) t.items).text,data:=(j5 (eJ w lb) t.items).data,aQ:=if t.kind=3 then (eJ w lb).aQ++[(t.name,t.e)] else (eJ w lb).aQ,names:=if t.kind=3 then (eJ w lb).names++[t.name] else (eJ w lb).names,aF:=if t.kind=4 then (eJ w lb).aF++[(t.name,n)] else (eJ w lb).aF,sec:=if t.kind=5 then t.sec else (eJ w lb).sec }:=by
 unfold jD eJ j5 j3
 by_cases h:lb=bI
 ·simp only [if_pos h,List.nil_append,List.append_nil]
 ·by_cases s:w.sec=0
  ·simp [if_neg h,s,List.append_assoc]
  ·simp [if_neg h,s,List.append_assoc]
theorem Ih (lb:ByteArray) (t:kD):(j3 lb t).length=t.items.length+(if lb=bI then 0 else 1):=by
 unfold j3;rw [List.length_append];split <;> simp <;> omega
structure Mk (qq:Nat→Prop) (h0 h:Hp) (b A gm x y:Nat) (w:ew) (lb opn:ByteArray) (pA:Option Addr) (lA cA:Nat) (tg:kD) (t d e q sl se:bP) (ut ud us:List (bP × bD)) (ue:List (bP × lP)) (ow:Nat→Nat):Prop where
 a:dm h b A gm w t d e q ut ud ue ow
 bx:aO h x 130 [.string lb,.string opn,.slice pA lA cA]
 uL:aO h y 134 (qX tg.kind sl.p sl.l sl.c tg.name se.p se.l se.c tg.e.num tg.sec)
 o:pz h b tg sl us se ow
 ox:ow x=9
 oy:ow y=9
 ab:Ab b qq ow h0 h
theorem Mk.size {qq:Nat→Prop} {h0 h:Hp} {b A gm x y:Nat} {w:ew} {lb opn:ByteArray} {pA:Option Addr} {lA cA:Nat} {tg:kD} {t d e q sl se:bP} {ut ud us:List (bP × bD)} {ue:List (bP × lP)} {ow:Nat→Nat} (s:Mk qq h0 h b A gm x y w lb opn pA lA cA tg t d e q sl se ut ud us ue ow) (hb:b≤h0.size):b≤h.size:=Nat.le_trans hb s.ab.size
theorem kd {s:ByteArray}:(!(ByteArray.toList s==[]))=true↔s≠bI:=by
 rw [ByteArray.toList_eq];constructor
 ·intro h e;subst e;simp [bI] at h
 ·intro h;simp only [Bool.not_eq_true',beq_eq_false_iff_ne,ne_eq];intro e;exact h (mg e)
theorem GN {s u:ByteArray}:(ByteArray.toList s==ByteArray.toList u)=true↔s=u:=by
 rw [ByteArray.toList_eq,ByteArray.toList_eq,beq_iff_eq];exact ⟨fun h=>mg h,fun h=>by rw [h]⟩
set_option maxHeartbeats 4000000 in
theorem tS {qq:Nat→Prop} {h h1:Hp} {b A gm x y:Nat} {w:ew} {t d e q sl se:bP} {ut ud us:List (bP × bD)} {ue:List (bP × lP)} {ow:Nat→Nat} {n:Nat} {lb opn:ByteArray} {pA:Option Addr} {lA cA:Nat} {tg:kD}
  (hb:b≤h.size) (ext:Ext h h1) (W:B6 w) (hE:w.aQ.length≤2^20) (hG:w.aF.length≤2^20) (hn:n≤2^20)
  (s:Mk qq h h1 b A gm x y w lb opn pA lA cA tg t d e q sl se ut ud us ue ow) (hlab:lb≠bI→bd lb.data.toList=true) (ok:kN tg (decide (w.sec=1))) (sz:tg.items.length≤2^20) :
  BV (some ⟨A,0,none⟩) n ⟨x,0,none⟩ ⟨y,0,none⟩ 0 [] (JL b A gm qq h (qj w n lb (.ok tg))) h1:=by
 unfold BV;have hsec:=W.sec;have hmany:=W.many;have okn:tg.kind=3→bd tg.name.data.toList=true:=fun k=>ok.name (.inl k)
 have hul:us.length=tg.items.length:=rK s.o.eq;have hsl:sl.l=tg.items.length:=by rw [s.o.jW.1,List.length_map,hul]
 refine aU rfl ?_;refine cD (cs:=[(false,[.string])]) (fun z h'=>h'=h1∧z.1=uJ tg) ?_ ?_
 ·refine ad s.uL ((tg.kind:Int),()) rfl ?_;dsimp only [flat,az,ah,List.nil_append,List.cons_append];refine af (fun r=>?_) (fun r=>?_)
  ·have r:tg.kind=3:=by have:=eq_of_beq r; omega
   rw [ao];refine ad s.uL (tg.name,()) rfl ?_;dsimp only [flat,az,ah,List.nil_append,List.cons_append];exact aY (cs:=[(false,[.string])]) (tg.name,()) rfl rfl ⟨rfl,(if_pos r).symm⟩
  ·have r:¬ tg.kind=3:=fun e=>by rw [e] at r; simp at r
   exact aY (cs:=[(false,[.string])]) (bI,()) rfl rfl ⟨rfl,(if_neg r).symm⟩
 rintro ⟨s31,⟨⟩⟩ h2 ⟨e2,hs31⟩;simp only at hs31;have e2:=e2.symm;subst e2;subst hs31;dsimp only [flat,az,ah,List.nil_append,List.cons_append];refine cD (cs:=[(false,[.bool])]) (fun z h'=>h'=h1∧z.1=decide (uM w lb tg)) ?_ ?_
 ·refine ad s.bx (lb,()) rfl ?_;dsimp only [flat,az,ah,List.nil_append,List.cons_append];refine af (fun r=>?_) (fun r=>?_)
  ·have r:=kd.1 r;refine aj rfl ?_;rw [ao];refine ad s.a.box (some gm,()) rfl ?_;dsimp only [flat,az,ah,List.nil_append,List.cons_append];refine ad s.bx (lb,()) rfl ?_;dsimp only [flat,az,ah,List.nil_append,List.cons_append];refine vx s.a.names lb ?_;refine ⟨⟨s.bx.cells _ rfl,trivial⟩,?_⟩;refine af (fun q1=>?_) (fun q1=>?_)
   ·exact aY (cs:=[(false,[.bool])]) (true,()) rfl rfl ⟨rfl,(decide_eq_true (Le r q1)).symm⟩
   refine ad s.bx (lb,()) rfl ?_;dsimp only [flat,az,ah,List.nil_append,List.cons_append];refine af (fun q2=>?_) (fun q2=>?_)
   ·exact aY (cs:=[(false,[.bool])]) (true,()) rfl rfl ⟨rfl,(decide_eq_true (K6 r (GN.1 q2))).symm⟩
   refine aj rfl ?_;refine ad s.a.box (some gm,()) rfl ?_;dsimp only [flat,az,ah,List.nil_append,List.cons_append];refine vx s.a.names (uJ tg) ?_;refine ⟨⟨s.bx.cells _ rfl,s.bx.cells _ rfl,s.a.box.cells _ rfl,s.bx.cells _ rfl,trivial⟩,?_⟩;refine aY (cs:=[(false,[.bool])]) (eb w.names (uJ tg),()) rfl rfl ⟨rfl,J6 W okn ?_⟩;rintro ⟨_,k | k⟩
   ·rw [k] at q1; cases q1
   ·rw [GN.2 k] at q2; cases q2
  ·have r:lb=bI:=by
    by_cases e:lb=bI
    ·exact e
    ·rw [kd.2 e] at r; cases r
   refine aj rfl ?_;rw [ao];refine ad s.a.box (some gm,()) rfl ?_;dsimp only [flat,az,ah,List.nil_append,List.cons_append];refine vx s.a.names (uJ tg) ?_;refine ⟨⟨s.bx.cells _ rfl,trivial⟩,?_⟩;exact aY (cs:=[(false,[.bool])]) (eb w.names (uJ tg),()) rfl rfl ⟨rfl,J6 W okn fun k=>k.1 r⟩
 rintro ⟨b32,⟨⟩⟩ h2 ⟨e2,hb32⟩;simp only at hb32;have e2:=e2.symm;subst e2;subst hb32;dsimp only [flat,az,ah,List.nil_append,List.cons_append];refine af (fun r=>?_) (fun r=>?_)
 ·have r:=of_decide_eq_true r;unfold qj;simp only;rw [if_pos r];exact ⟨rfl,by decide,ext⟩
 have nd:=of_decide_eq_false r;rw [ao];refine ad s.uL ((sl.p,sl.l,sl.c),()) rfl ?_;dsimp only [flat,az,ah,List.nil_append,List.cons_append];have hil:=Ih lb tg;refine cD (cs:=[(false,[.int .i64])]) (fun z h'=>h'=h1∧z.1=((j3 lb tg).length:Int)) ?_ ?_
 ·refine ad s.bx (lb,()) rfl ?_;dsimp only [flat,az,ah,List.nil_append,List.cons_append];refine af (fun r=>?_) (fun r=>?_)
  ·have r:=kd.1 r;rw [if_neg r] at hil;exact aY (cs:=[(false,[.int .i64])]) (((j3 lb tg).length:Int),()) rfl (by rw [wrap_i64 (by omega) (by omega),show ((sl.l:Int)+1)=((j3 lb tg).length:Int) by omega]; rfl) ⟨rfl,rfl⟩
  ·have r:lb=bI:=by
    by_cases e:lb=bI
    ·exact e
    ·rw [kd.2 e] at r; cases r
   rw [if_pos r] at hil;exact aY (cs:=[(false,[.int .i64])]) (((j3 lb tg).length:Int),()) rfl (by rw [show (sl.l:Int)=((j3 lb tg).length:Int) by omega]; rfl) ⟨rfl,rfl⟩
 rintro ⟨n36,⟨⟩⟩ h2 ⟨e2,hn36⟩;simp only at hn36;have e2:=e2.symm;subst e2;subst hn36;dsimp only [flat,az,ah,List.nil_append,List.cons_append];refine aj rfl ?_;rw [ao];refine ad s.a.box (((w.text.length+w.data.length:Nat):Int),()) rfl ?_;dsimp only [flat,az,ah,List.nil_append,List.cons_append];have hi1:(j3 lb tg).length≤2^20+1:=by rw [hil]; split <;> omega
 rw [wrap_i64 (by omega) (by omega)];refine af (fun r=>?_) (fun r=>?_)
 ·have r:=of_decide_eq_true r;unfold qj;simp only;rw [if_neg nd,if_pos (by omega)];exact ⟨rfl,by decide,ext⟩
 have nm:=of_decide_eq_false r;have hres:qj w n lb (.ok tg)=.ok (jD w n lb tg):=by
  unfold qj;simp only;rw [if_neg nd,if_neg (by omega)]
 rw [hres];refine cD (cs:=[]) (fun _ h'=>∃ t d ut ud ow,Mk qq h h' b A gm x y (eJ w lb) lb opn pA lA cA tg t d e q sl se ut ud us ue ow) ?_ ?_
 ·refine ad s.bx (lb,()) rfl ?_;dsimp only [flat,az,ah,List.nil_append,List.cons_append];refine af (fun r=>?_) (fun r=>?_)
  ·have r:=kd.1 r;have hlw:eJ w lb=j5 { w with names:=w.names++[lb] } [xj lb]:=if_neg r;refine aj rfl ?_;rw [ao];refine ad s.a.box (some gm,()) rfl ?_;dsimp only [flat,az,ah,List.nil_append,List.cons_append];refine ad s.bx (lb,()) rfl ?_;dsimp only [flat,az,ah,List.nil_append,List.cons_append];refine Hy s.a.names (by have:=sR (hlab r); unfold maxLen; omega) ?_;intro h3 m3 k3 z3;have og:=s.a.og;have w3:∀ i,i∈[gm]→i<h1.size→b≤i→ow i=7:=fun i hi _ _=>by have hi:=List.mem_singleton.1 hi; subst hi; exact og
   have nA:A∉[gm]:=fun hm=>by have hm:=List.mem_singleton.1 hm; have:=s.a.oA; rw [hm] at this; omega
   have nx:x∉[gm]:=fun hm=>by have hm:=List.mem_singleton.1 hm; have:=s.ox; rw [hm] at this; omega
   have ny:y∉[gm]:=fun hm=>by have hm:=List.mem_singleton.1 hm; have:=s.oy; rw [hm] at this; omega
   have a3:dm h3 b A gm { w with names:=w.names++[lb] } t d e q ut ud ue ow :=
    ⟨s.a.core.ai k3 (fun i h1 h2 h3=>by have:=w3 i h1 h2 h3; omega),s.a.box.ai k3 nA,m3.congr (AH w.names lb),SL.cJ s.a.aF k3 s.a.oq (fun i h1 h2 h3=>by have:=w3 i h1 h2 h3; omega),s.a.oA,s.a.og,s.a.oq,s.a.bA,s.a.bg⟩
   have bx3:=s.bx.ai k3 nx;have by3:=s.uL.ai k3 ny;have o3:=s.o.ai k3 (fun i h1 h2 h3=>by have:=w3 i h1 h2 h3; omega);have ab3:Ab b qq ow h h3:=s.ab.step k3 (fun i hi _=>by have hi:=List.mem_singleton.1 hi; subst hi; exact ⟨s.a.bg,by omega⟩) (fun _ _=>rfl);refine aj rfl ?_;rw [ao];refine ad a3.box ((w.sec:Int),()) rfl ?_;dsimp only [flat,az,ah,List.nil_append,List.cons_append];refine ad bx3 (lb,()) rfl ?_;dsimp only [flat,az,ah,List.nil_append,List.cons_append];refine j9 (p:=none) (l:=0) (c:=0) (x:=xj lb) ?_;intro h4 s4 e4 z4;have rl:∀ i,i<h3.size→dH h3.size 9 ow i=ow i:=fun i hi=>cE hi
   have a4:=(a3.relabel rl).ai e4 (by simp);have bx4:=bx3.ai e4 (by simp);have by4:=by3.ai e4 (by simp);have o4:=(o3.relabel rl).ai e4 (by simp);have ab4:=ab3.BE e4 rl;have ox4:=(rl x bx3.lt).trans s.ox;have oy4:=(rl y by3.lt).trans s.oy;have sz4:=e4.size;have zb3:=ab3.size;refine ⟨⟨bx4.cells _ rfl,a4.box.cells _ rfl,trivial⟩,?_⟩;refine aB (Gp a4 (by omega) hsec (s:=⟨some ⟨h3.size,0,none⟩,1,1⟩) (us:=[(⟨none,0,0⟩,xj lb)]) s4 (fun u hu=>by have hu:=List.mem_singleton.1 hu; subst hu; exact SL.nil _ _ _ _) (fun u hu i hi=>by have hu:=List.mem_singleton.1 hu; subst hu; simp [aC] at hi) (by show w.text.length+w.data.length+1≤_; omega)) ?_;rintro _ h5 ⟨rfl,t',d',ut',ud',ow',a5,ho5,ws,k5,hw5⟩;refine ⟨(),rfl,?_⟩;dsimp only [flat,az,ah,List.nil_append,List.cons_append];have nx5:x∉ws:=fun hm=>by have:=(hw5 x hm bx4.lt).2; omega
   have ny5:y∉ws:=fun hm=>by have:=(hw5 y hm by4.lt).2; omega
   have bx5:=bx4.ai k5 nx5;refine ⟨⟨bx5.cells _ rfl,trivial⟩,?_⟩;refine aY (cs:=[]) () rfl rfl ⟨t',d',ut',ud',ow',?_,bx5,by4.ai k5 ny5,o4.Ni k5 (fun i h1 h2 _=>by have:=(hw5 i h1 h2).2; omega) ho5,(ho5 x bx4.lt).trans ox4,(ho5 y by4.lt).trans oy4,ab4.step k5 (fun i h1 h2=>⟨(hw5 i h1 h2).1,by have:=(hw5 i h1 h2).2; omega⟩) ho5⟩;rw [hlw];exact a5
  ·have r:lb=bI:=by
    by_cases e:lb=bI
    ·exact e
    ·rw [kd.2 e] at r; cases r
   have hlw:eJ w lb=w:=if_pos r;exact aY (cs:=[]) () rfl rfl ⟨t,d,ut,ud,ow,by rw [hlw]; exact s⟩
 rintro ⟨⟩ h3 ⟨t,d,ut,ud,ow,s3⟩;dsimp only [flat,az,ah,List.nil_append,List.cons_append];have hb3:=s3.size hb;have hs3:=Gq w lb;have hl3:=Gf w lb;have he3:=EP w lb;have hg3:=C4 w lb;refine aj rfl ?_;rw [ao];refine ad s3.a.box (((eJ w lb).sec:Int),()) rfl ?_;dsimp only [flat,az,ah,List.nil_append,List.cons_append];refine ad s3.uL ((sl.p,sl.l,sl.c),()) rfl ?_;dsimp only [flat,az,ah,List.nil_append,List.cons_append];refine aB (Gp s3.a hb3 (by omega) s3.o.jW s3.o.own s3.o.ou (by omega)) ?_;rintro _ h4 ⟨rfl,t',d',ut',ud',ow',a4,ho4,ws,k4,hw4⟩;refine ⟨(),rfl,?_⟩;dsimp only [flat,az,ah,List.nil_append,List.cons_append];rw [s3.o.eq] at a4;have ny4:y∉ws:=fun hm=>by have:=(hw4 y hm s3.uL.lt).2; have:=s3.oy; omega
 have by4:=s3.uL.ai k4 ny4;have oy4:ow' y=9:=(ho4 y s3.uL.lt).trans s3.oy;have E4:SL h4 b 109 2 se.p se.l se.c (tg.e.au.map cV):=SL.cJ s3.o.e k4 s3.o.oe (fun i h1 h2 _=>by have:=(hw4 i h1 h2).2; omega);have oe4:∀ i,i∈aC se.p→ow' i=0:=fun i hi=>(ho4 i (Sx.SL.bW s3.o.e hi).2).trans (s3.o.oe i hi)
 have ab4:=s3.ab.step k4 (fun i h1 h2=>⟨(hw4 i h1 h2).1,by have:=(hw4 i h1 h2).2; omega⟩) ho4;have hb4:b≤h4.size:=Nat.le_trans hb ab4.size;have el4:=a4.el;have ql4:=a4.ql;have ee4:(j5 (eJ w lb) tg.items).aQ=w.aQ:=he3;have gg4:(j5 (eJ w lb) tg.items).aF=w.aF:=hg3;rw [ee4] at el4;rw [gg4] at ql4;clear s3 k4 hw4 ho4 s;refine cD (cs:=[]) (fun _ h'=>∃ t d e q ut ud ue ow,dm h' b A gm (jD w n lb tg) t d e q ut ud ue ow∧Ab b qq ow h h') ?_ ?_
 ·refine ad by4 ((tg.kind:Int),()) rfl ?_;dsimp only [flat,az,ah,List.nil_append,List.cons_append];refine af (fun r=>?_) (fun r=>?_)
  ·have r:tg.kind=3:=by have:=eq_of_beq r; omega
   have heq:uJ tg=tg.name:=if_pos r;rw [heq];refine aj rfl ?_;rw [ao];refine ad a4.box (some gm,()) rfl ?_;dsimp only [flat,az,ah,List.nil_append,List.cons_append];refine Hy a4.names (by have:=sR (okn r); unfold maxLen; omega) ?_;intro h5 m5 k5 z5;have og:=a4.og;have w5:∀ i,i∈[gm]→i<h4.size→b≤i→ow' i=7:=fun i hi _ _=>by have hi:=List.mem_singleton.1 hi; subst hi; exact og
   have nA:A∉[gm]:=fun hm=>by have hm:=List.mem_singleton.1 hm; have:=a4.oA; rw [hm] at this; omega
   have ny:y∉[gm]:=fun hm=>by have hm:=List.mem_singleton.1 hm; rw [hm] at oy4; omega
   have C5:=a4.core.ai k5 (fun i h1 h2 h3=>by have:=w5 i h1 h2 h3; omega);have B5:=a4.box.ai k5 nA;have M5:pG h5 gm ((eJ w lb).names++[tg.name]):=m5.congr (AH _ _);have G5:=SL.cJ a4.aF k5 a4.oq (fun i h1 h2 h3=>by have:=w5 i h1 h2 h3; omega);have by5:=by4.ai k5 ny;have E5:=SL.cJ E4 k5 oe4 (fun i h1 h2 h3=>by have:=w5 i h1 h2 h3; omega);have ab5:Ab b qq ow' h h5:=ab4.step k5 (fun i hi _=>by have hi:=List.mem_singleton.1 hi; subst hi; exact ⟨a4.bg,by omega⟩) (fun _ _=>rfl);have hb5:b≤h5.size:=Nat.le_trans hb ab5.size;refine aj rfl ?_;rw [ao];refine ad B5 ((e.p,e.l,e.c),()) rfl ?_;dsimp only [flat,az,ah,List.nil_append,List.cons_append];rw [ao];refine ad by5 (tg.name,()) rfl ?_;dsimp only [flat,az,ah,List.nil_append,List.cons_append];rw [ao];refine ad by5 ((se.p,se.l,se.c),(tg.e.num:Int),()) rfl ?_;dsimp only [flat,az,ah,List.nil_append,List.cons_append];refine C5.zK (s:=se) (x:=(tg.name,tg.e)) hb5 E5 oe4 (by omega) (fun h' x=>⟨(by5.ai x (by simp)).cells _ rfl,(by5.ai x (by simp)).cells _ rfl,(B5.ai x (by simp)).cells _ rfl,trivial⟩) ?_;intro e' h6 C6 k6 l6;have w6:∀ i,i∈aC e.p→ow' i=5:=C5.o5
   have nA6:A∉aC e.p:=fun hm=>by have:=w6 A hm; have:=a4.oA; omega
   have ny6:y∉aC e.p:=fun hm=>by have:=w6 y hm; omega
   have ng6:gm∉aC e.p:=fun hm=>by have:=w6 gm hm; omega
   have by6:=by5.ai k6 ny6;have rl:∀ i,i<h5.size→dH h5.size 5 ow' i=ow' i:=fun i hi=>cE hi
   refine ⟨⟨by6.cells _ rfl,by6.cells _ rfl,trivial⟩,?_⟩;refine aj rfl ?_;rw [ao];refine an (B5.ai k6 nA6) rfl (by simp [kR]) ?_;intro h7 b7 k7 z7;have oA7:dH h5.size 5 ow' A=6:=(rl A B5.lt).trans a4.oA;have og7:dH h5.size 5 ow' gm=7:=(rl gm M5.lt).trans og;have oq7:∀ i,i∈aC q.p→dH h5.size 5 ow' i=8:=fun i hi=>(rl i (Sx.SL.bW G5 hi).2).trans (a4.oq i hi)
   have w7:∀ i,i∈[A]→dH h5.size 5 ow' i=6:=fun i hi=>by have hi:=List.mem_singleton.1 hi; subst hi; exact oA7
   have ng7:gm∉[A]:=fun hm=>by have:=w7 gm hm; omega
   refine aY (cs:=[]) () rfl rfl ⟨t',d',e',q,ut',ud',ue++[(se,(tg.name,tg.e))],dH h5.size 5 ow',?_,(ab5.step k6 (fun i hi _=>⟨(Sx.SL.bW C5.e1 hi).1,by have:=w6 i hi; omega⟩) rl).step k7 (fun i hi _=>⟨by have hi:=List.mem_singleton.1 hi; subst hi; exact a4.bA,by have:=w7 i hi; omega⟩) (fun _ _=>rfl)⟩;rw [u',if_pos r,if_pos r,if_neg (by omega),if_neg (by omega)];have b7:aO h7 A 73 (kR t' d' ⟨e'.p,e'.l,e'.c⟩ ((eJ w lb).sec:Int) (((j5 (eJ w lb) tg.items).text.length+(j5 (eJ w lb) tg.items).data.length:Nat):Int) gm q):=b7;refine ⟨C6.ai k7 (fun i hi _ _=>by have:=w7 i hi; omega),b7,(M5.ai k6 ng6).ai k7 ng7,?_,oA7,og7,oq7,a4.bA,a4.bg⟩;refine Sx.SL.bf (Sx.SL.bf G5 k6 (fun i hi hm=>?_)) k7 (fun i hi hm=>?_)
   ·have:=w6 i hm; have:=a4.oq i hi; omega
   ·have:=w7 i hm; have:=oq7 i hi; omega
  have r3:¬ tg.kind=3:=fun e=>by rw [e] at r; simp at r
  refine af (fun r=>?_) (fun r=>?_)
  ·have r:tg.kind=4:=by have:=eq_of_beq r; omega
   refine aj rfl ?_;rw [ao];refine ad a4.box ((q.p,q.l,q.c),()) rfl ?_;dsimp only [flat,az,ah,List.nil_append,List.cons_append];rw [ao];refine ad by4 (tg.name,()) rfl ?_;dsimp only [flat,az,ah,List.nil_append,List.cons_append];refine zm (z:=.agg #[.string ⟨#[]⟩,.int .i64 (0:Int)]) M2 MS rfl (by omega) (by omega) (Mf tg.name n) rfl rfl a4.aF hb4 (by omega) (by omega) (fun h' x=>⟨(by4.ai x (by simp)).cells _ rfl,(a4.box.ai x (by simp)).cells _ rfl,trivial⟩) ?_;intro p' c' h5 s5 k5 hp5;have w5:∀ i,i∈aC q.p→ow' i=8:=a4.oq
   have nA5:A∉aC q.p:=fun hm=>by have:=w5 A hm; have:=a4.oA; omega
   have ny5:y∉aC q.p:=fun hm=>by have:=w5 y hm; omega
   have ng5:gm∉aC q.p:=fun hm=>by have:=w5 gm hm; have:=a4.og; omega
   have by5:=by4.ai k5 ny5;have rl:∀ i,i<h4.size→dH h4.size 8 ow' i=ow' i:=fun i hi=>cE hi
   refine ⟨⟨by5.cells _ rfl,trivial⟩,?_⟩;refine aj rfl ?_;rw [ao];refine an (a4.box.ai k5 nA5) rfl (by simp [kR]) ?_;intro h6 b6 k6 z6;have oA6:dH h4.size 8 ow' A=6:=(rl A a4.box.lt).trans a4.oA;have og6:dH h4.size 8 ow' gm=7:=(rl gm a4.names.lt).trans a4.og;have oq6:∀ i,i∈aC p'→dH h4.size 8 ow' i=8:=u6 a4.oq (fun i hi=>(Sx.SL.bW a4.aF hi).2) hp5
   have w6:∀ i,i∈[A]→dH h4.size 8 ow' i=6:=fun i hi=>by have hi:=List.mem_singleton.1 hi; subst hi; exact oA6
   have ng6:gm∉[A]:=fun hm=>by have:=w6 gm hm; omega
   have C5:=(a4.core.relabel rl).ai k5 (fun i hi h1 _=>by rw [rl i h1]; have:=w5 i hi; omega);refine aY (cs:=[]) () rfl rfl ⟨t',d',e,⟨p',q.l+1,c'⟩,ut',ud',ue,dH h4.size 8 ow',?_,(ab4.step k5 (fun i hi _=>⟨(Sx.SL.bW a4.aF hi).1,by have:=w5 i hi; omega⟩) rl).step k6 (fun i hi _=>⟨by have hi:=List.mem_singleton.1 hi; subst hi; exact a4.bA,by have:=w6 i hi; omega⟩) (fun _ _=>rfl)⟩;rw [u',if_neg r3,if_neg r3,if_pos r,if_neg (by omega)];have b6:aO h6 A 73 (kR t' d' e ((eJ w lb).sec:Int) (((j5 (eJ w lb) tg.items).text.length+(j5 (eJ w lb) tg.items).data.length:Nat):Int) gm ⟨p',q.l+1,c'⟩):=b6;refine ⟨C5.ai k6 (fun i hi _ _=>by have:=w6 i hi; omega),b6,(a4.names.ai k5 ng5).ai k6 ng6,?_,oA6,og6,oq6,a4.bA,a4.bg⟩;refine Sx.SL.bf (by rw [List.map_append]; exact s5) k6 (fun i hi hm=>?_)
   have:=w6 i hm; have:=oq6 i hi; omega
  have r4:¬ tg.kind=4:=fun e=>by rw [e] at r; simp at r
  refine af (fun r=>?_) (fun r=>?_)
  ·have r:tg.kind=5:=by have:=eq_of_beq r; omega
   rw [ao];refine ad by4 ((tg.sec:Int),()) rfl ?_;dsimp only [flat,az,ah,List.nil_append,List.cons_append];refine aj rfl ?_;rw [ao];refine an a4.box rfl (by simp [kR]) ?_;intro h5 b5 k5 z5;have w5:∀ i,i∈[A]→ow' i=6:=fun i hi=>by have hi:=List.mem_singleton.1 hi; subst hi; exact a4.oA
   have ng5:gm∉[A]:=fun hm=>by have:=w5 gm hm; have:=a4.og; omega
   refine aY (cs:=[]) () rfl rfl ⟨t',d',e,q,ut',ud',ue,ow',?_,ab4.step k5 (fun i hi _=>⟨by have hi:=List.mem_singleton.1 hi; subst hi; exact a4.bA,by have:=w5 i hi; omega⟩) (fun _ _=>rfl)⟩;rw [u',if_neg r3,if_neg r3,if_neg r4,if_pos r];have b5:aO h5 A 73 (kR t' d' e (tg.sec:Int) (((j5 (eJ w lb) tg.items).text.length+(j5 (eJ w lb) tg.items).data.length:Nat):Int) gm q):=b5;exact ⟨a4.core.ai k5 (fun i hi _ _=>by have:=w5 i hi; omega),b5,a4.names.ai k5 ng5,SL.cJ a4.aF k5 a4.oq (fun i hi _ _=>by have:=w5 i hi; omega),a4.oA,a4.og,a4.oq,a4.bA,a4.bg⟩
  have r5:¬ tg.kind=5:=fun e=>by rw [e] at r; simp at r
  refine aY (cs:=[]) () rfl rfl ⟨t',d',e,q,ut',ud',ue,ow',?_,ab4⟩;rw [u',if_neg r3,if_neg r3,if_neg r4,if_neg r5];exact ⟨a4.core,a4.box,a4.names,a4.aF,a4.oA,a4.og,a4.oq,a4.bA,a4.bg⟩
 rintro ⟨⟩ h5 a5;exact ⟨rfl,a5⟩
theorem HT (w:ew) (n:Nat) (s:ByteArray):et w n s=if (aL s).2.2≠0 then .error (aL s).2.2 else if (aL s).1.label≠bI∧bd (aL s).1.label.data.toList=false then .error 21 else qj w n (aL s).1.label (dG (aL s).1 (decide (w.sec=1))):=by
 unfold et qj;split
 ·rfl
 split
 ·rfl
 all_goals (cases dG (aL s).1 (decide (w.sec=1)) <;> rfl)
theorem rS (n:Nat) (lb:ByteArray):∀ (ts:List Tok),(bU n lb ts).1.label=lb∨(bU n lb ts).1.label=bI
 | []=>.inl rfl
 | t::ts=>by
  simp only [bU];split
  ·exact .inr rfl
  ·cases eU n ts with
   | error a=>exact .inr rfl
   | ok l=>exact .inl rfl
theorem CC (s:ByteArray):(aL s).1.label.size≤s.size:=by
 have z:bI.size≤s.size:=Nat.zero_le _;unfold aL;split
 ·exact z
 ·unfold eP;split
  ·rcases rS s.size (((eu s).1.head?.map (·.text)).getD ⟨#[]⟩) ((eu s).1.drop 2) with e | e
   ·rw [e];cases hq:(eu s).1 with
    | nil=>exact z
    | cons t r=>exact yL s t (by rw [hq]; simp)
   ·rw [e]; exact z
  ·rcases rS s.size ⟨#[]⟩ (eu s).1 with e | e
   ·rw [e]; exact z
   ·rw [e]; exact z
theorem H6 (n:Nat):decide ((n:Int)=1)=decide (n=1):=by
 by_cases h:n=1
 ·subst h; rfl
 ·rw [decide_eq_false h,decide_eq_false (by omega)]
theorem AF {h h':Hp} {e:Nat} {u:Value} (q:EU h (.error e) u h'):u=.tuple #[.agg zT.toArray,.int .i64 (e:Int)]∧e≠0:=q.2
theorem DF {h h':Hp} {t:kD} {u:Value} (q:EU h (.ok t) u h'):∃ sl us se,u=.tuple #[Kv t.kind sl t.name se t.e.num t.sec,.int .i64 0]∧iW h' h.size t sl us se:=q.2
set_option maxHeartbeats 4000000 in
theorem Jg {h:Hp} (tb:pJ h) (ld:Laid h) {b A gm:Nat} {w:ew} {t d e q:bP} {ut ud:List (bP × bD)} {ue:List (bP × lP)} {ow:Nat→Nat} (a:dm h b A gm w t d e q ut ud ue ow) (hb:b≤h.size) (W:B6 w) (hE:w.aQ.length≤2^20) (hG:w.aF.length≤2^20) {n:Nat} (hn:n≤2^20) (s:ByteArray) (hs:s.size≤2^18) {qq:Nat→Prop} (qs:∀ i,qq i→i<h.size) (qo:∀ i,qq i→ow i=9) :
  HC Tryz.prog 33 #[.pointer (some ⟨A,0,none⟩),.int .i64 (n:Int),.string s] h (JL b A gm qq h (et w n s)):=by
 refine aK (args:=[.pointer (some ⟨A,0,none⟩),.int .i64 (n:Int),.string s]) mixed Tryz.func33 (by kernel_rfl) (jY (some ⟨A,0,none⟩) n s) ?_;unfold fM;refine aB (HS s h (by omega) ld) ?_;rintro _ h1 ⟨e1,p,c,al,rfl,Ar,ha⟩;refine ⟨((aL s).1.label,(aL s).1.op,(p,al.length,c),((aL s).2.1:Int),((aL s).2.2:Int),()),rfl,?_⟩;dsimp only [flat,az,ah,nA,cA];refine aX ?_;intro h2 b2 e2 z2;refine an b2 rfl (by simp) ?_;intro h3 b3 k3 z3;have b3:aO h3 h1.size 130 [.string (aL s).1.label,.string (aL s).1.op,.slice p al.length c]:=b3;have e13:Ext h1 h3:=Ch.trans e2 k3 (fun i hi hl=>by simp at hi; omega);have e03:=e1.trans e13;rw [HT];refine af (fun r=>?_) (fun r=>?_)
 ·have r:(aL s).2.2≠0:=by simpa using r
  rw [if_pos r];exact ⟨rfl,r,e03⟩
 have r:¬ (aL s).2.2≠0:=by simpa using r
 rw [if_neg r];refine cD (cs:=[(false,[.bool])]) (fun z h'=>h'=h3∧z.1=decide ((aL s).1.label≠bI∧bd (aL s).1.label.data.toList=false)) ?_ ?_
 ·refine ad b3 ((aL s).1.label,()) rfl ?_;dsimp only [flat,az,ah,nA,cA];refine af (fun q=>?_) (fun q=>?_)
  ·have q:=kd.1 q;refine ad b3 ((aL s).1.label,()) rfl ?_;dsimp only [flat,az,ah,nA,cA];have hl:(aL s).1.label.size≤9223372036854775807:=by
    have:=CC s
    omega
   refine aD (kE _ _ hl) ?_;refine aY (cs:=[(false,[.bool])]) (_,()) rfl rfl ⟨rfl,?_⟩;cases hh:bd (aL s).1.label.data.toList with
   | true=>exact (decide_eq_false (by simp)).symm
   | false=>exact (decide_eq_true ⟨q,rfl⟩).symm
  ·refine aY (cs:=[(false,[.bool])]) (false,()) rfl rfl ⟨rfl,(decide_eq_false ?_).symm⟩;rintro ⟨q1,_⟩;rw [kd.2 q1] at q;cases q
 rintro ⟨b11,⟨⟩⟩ h9 ⟨e9,hb11⟩;simp only at hb11;have e9:=e9.symm;subst e9;subst hb11;dsimp only [flat,az,ah,nA,cA];refine af (fun q=>?_) (fun q=>?_)
 ·rw [if_pos (of_decide_eq_true q)];exact ⟨rfl,by decide,e03⟩
 have q:=of_decide_eq_false q;rw [if_neg q];have hlab:(aL s).1.label≠bI→bd (aL s).1.label.data.toList=true:=fun g=>by
  cases hh:bd (aL s).1.label.data.toList with
  | true=>rfl
  | false=>exact absurd ⟨g,hh⟩ q
 clear q;have z03:=e03.size;have z01:=e1.size;have a3:=(a.relabel (ow':=dH h.size 9 ow) (fun i hi=>cE hi)).ai e03 (by simp);have ox3:dH h.size 9 ow h1.size=9:=uQ z01;have Ar3:=(Ar.mono (Nat.le_refl _)).ai e13 (by simp) (by simp);obtain ⟨v,hal⟩:=DU.parse s (by omega) Ar3 ha;have tb3:=tb.ai e03 (by simp);have hln:(aL s).1=⟨(aL s).1.label,(aL s).1.op,al.map In.ts⟩:=by rw [ha]
 have facts:=gX s (by omega);have hok:∀ tg,dG (aL s).1 (decide (w.sec=1))=.ok tg→kN tg (decide (w.sec=1))∧tg.items.length≤2^20:=fun tg hr =>
  ⟨tV (fun a ha=>(facts a ha).1) hr,(Ao (n:=2^20) (by omega) (fun a ha=>⟨(facts a ha).1,by have:=(eH s).1 a ha; omega⟩) (by have:=(eH s).2; omega) hr).many⟩
 have hrd:dG ⟨(aL s).1.label,(aL s).1.op,al.map In.ts⟩ (decide ((w.sec:Int)=1))=dG (aL s).1 (decide (w.sec=1)):=by rw [H6,← hln]
 refine ad b3 ((aL s).1.label,(aL s).1.op,(p,al.length,c),()) rfl ?_;dsimp only [flat,az,ah,nA,cA];refine aj rfl ?_;rw [ao];refine ad a3.box ((w.sec:Int),()) rfl ?_;dsimp only [flat,az,ah,nA,cA];generalize hrr:dG (aL s).1 (decide (w.sec=1))=rr at *;have tail:∀ {h4 h6:Hp} {y:Nat} {u:Value},Ext h3 h4→h4.size=h4.size→True:=fun _ _=>trivial
 refine ⟨?_,?_,trivial⟩
 ·refine aB (DH tb3 v hal (w.sec:Int)) ?_;rintro u h4 qq;rw [hrd] at qq;have e4:=qq.1;have e04:=e03.trans e4;cases rr with
  | error er =>
   obtain ⟨rfl,hne⟩:=AF qq;refine ⟨((0:Int),(none,0,0),bI,(none,0,0),(0:Int),(0:Int),(er:Int),()),rfl,?_⟩;dsimp only [flat,az,ah,nA,cA];refine aX ?_;intro h5 b5 e5 z5;have e35:=e4.trans e5;refine ⟨⟨(a3.box.ai e35 (by simp)).cells _ rfl,(b3.ai e35 (by simp)).cells _ rfl,trivial⟩,?_⟩;refine an b5 rfl (by simp) ?_;intro h6 b6 k6 z6;refine aT (by simp; omega) ?_;exact ⟨rfl,hne,Ch.trans (e04.trans e5) k6 (fun i hi hl=>by have:=e04.size; simp at hi; omega)⟩
  | ok tg =>
   obtain ⟨sl,us,se,rfl,At⟩:=DF qq;obtain ⟨ok,sz⟩:=hok tg rfl;refine ⟨((tg.kind:Int),(sl.p,sl.l,sl.c),tg.name,(se.p,se.l,se.c),(tg.e.num:Int),(tg.sec:Int),(0:Int),()),rfl,?_⟩;dsimp only [flat,az,ah,nA,cA];refine aX ?_;intro h5 b5 e5 z5;have e35:=e4.trans e5;refine ⟨⟨(a3.box.ai e35 (by simp)).cells _ rfl,(b3.ai e35 (by simp)).cells _ rfl,trivial⟩,?_⟩;refine an b5 rfl (by simp) ?_;intro h6 b6 k6 z6;have b6:aO h6 h4.size 134 (qX tg.kind sl.p sl.l sl.c tg.name se.p se.l se.c tg.e.num tg.sec):=b6;have z34:=e4.size;have e46:Ext h4 h6:=Ch.trans e5 k6 (fun i hi hl=>by simp at hi; omega);have e36:=e4.trans e46;have At6:=At.ai e46 (by simp);obtain ⟨ow1,ho1,O⟩:=pz.of (b:=b) At6 (by omega) (dH h.size 9 ow);have rl:∀ i,i<h3.size→dH h4.size 9 ow1 i=dH h.size 9 ow i:=fun i hi=>(cE (by omega)).trans (ho1 i hi)
   have O6:pz h6 b tg sl us se (dH h4.size 9 ow1):=⟨O.jW,O.own,O.eq,O.e,fun i hi=>(cE (Sx.SL.bW At.jW.out hi).2).trans (O.o9 i hi),fun u hu i hi=>(cE (Sx.SL.bW (At.jW.own u hu) hi).2).trans (O.ou u hu i hi),fun i hi=>(cE (Sx.SL.bW At.e hi).2).trans (O.oe i hi)⟩
   exact tS hb (e03.trans e36) W hE hG hn ⟨(a3.relabel rl).ai e36 (by simp),b3.ai e36 (by simp),b6,O6,(rl h1.size b3.lt).trans ox3,uQ (Nat.le_refl _),Ab.HA (e03.trans e36) qs (fun i hi=>(rl i (by have:=qs i hi; omega)).trans ((cE (qs i hi)).trans (qo i hi)))⟩ hlab ok sz
 ·refine aX ?_;intro h5 b5 e5 z5;have e05:=e03.trans e5;refine ⟨⟨(a3.box.ai e5 (by simp)).cells _ rfl,(b3.ai e5 (by simp)).cells _ rfl,trivial⟩,?_⟩;refine aB (DH (tb3.ai e5 (by simp)) (v.ai e5) hal (w.sec:Int)) ?_;rintro u h4 qq;rw [hrd] at qq;have e4:=qq.1;have e04:=e05.trans e4;have b54:=b5.ai e4 (by simp);cases rr with
  | error er =>
   obtain ⟨rfl,hne⟩:=AF qq;refine ⟨((0:Int),(none,0,0),bI,(none,0,0),(0:Int),(0:Int),(er:Int),()),rfl,?_⟩;dsimp only [flat,az,ah,nA,cA];refine an b54 rfl (by simp) ?_;intro h6 b6 k6 z6;refine aT (by simp; omega) ?_;exact ⟨rfl,hne,Ch.trans e04 k6 (fun i hi hl=>by simp at hi; omega)⟩
  | ok tg =>
   obtain ⟨sl,us,se,rfl,At⟩:=DF qq;obtain ⟨ok,sz⟩:=hok tg rfl;refine ⟨((tg.kind:Int),(sl.p,sl.l,sl.c),tg.name,(se.p,se.l,se.c),(tg.e.num:Int),(tg.sec:Int),(0:Int),()),rfl,?_⟩;dsimp only [flat,az,ah,nA,cA];refine an b54 rfl (by simp) ?_;intro h6 b6 k6 z6;have b6:aO h6 h3.size 134 (qX tg.kind sl.p sl.l sl.c tg.name se.p se.l se.c tg.e.num tg.sec):=b6;have z54:=e4.size;have e36:Ext h3 h6:=Ch.trans (e5.trans e4) k6 (fun i hi hl=>by simp at hi; omega);have At6:=At.ai k6 (fun i hi _=>by simp at hi; omega);obtain ⟨ow1,ho1,O6⟩:=pz.of (b:=b) At6 (by omega) (dH h.size 9 ow);exact tS hb (e03.trans e36) W hE hG hn ⟨(a3.relabel (ow':=ow1) (fun i hi=>ho1 i (by omega))).ai e36 (by simp),b3.ai e36 (by simp),b6,O6,(ho1 h1.size (by have:=b3.lt; omega)).trans ox3,(ho1 h3.size (by omega)).trans (uQ (by omega)),Ab.HA (e03.trans e36) qs (fun i hi=>(ho1 i (by have:=qs i hi; omega)).trans ((cE (qs i hi)).trans (qo i hi)))⟩ hlab ok sz
def MQ (t d e:bP) (sec:Int) (N G Li:bP):List Value:=[t.v,d.v,e.v,.slice none 0 0,.int .i64 sec,N.v,G.v,Li.v]
def Ma (n:Nat):List Value:=[.int .i64 (n:Int)]
structure tK (h:Hp) (b B:Nat) (w:ew) (t d e N G Li:bP) (ut ud:List (bP × bD)) (ue:List (bP × lP)) (ow:Nat→Nat):Prop where
 core:Core h b w.text w.data w.aQ t d e ut ud ue ow
 box:aO h B 142 (MQ t d e (w.sec:Int) N G Li)
 names:SN h b N.p N.l N.c w.names
 aF:SN h b G.p G.l G.c (w.aF.map (·.1))
 lines:SL h b 3 1 Li.p Li.l Li.c ((w.aF.map (·.2)).map Ma)
 oB:ow B=6
 oN:∀ i,i∈aC N.p→ow i=7
 oG:∀ i,i∈aC G.p→ow i=8
 oL:∀ i,i∈aC Li.p→ow i=12
 bB:b≤B
section
variable {h h':Hp} {b B:Nat} {w:ew} {t d e N G Li:bP} {ut ud:List (bP × bD)} {ue:List (bP × lP)} {ow:Nat→Nat}
theorem tK.ai {ws:List Nat} (a:tK h b B w t d e N G Li ut ud ue ow) (k:Ch ws h h') (hw:∀ i,i∈ws→i<h.size→b≤i→ow i=9):tK h' b B w t d e N G Li ut ud ue ow:=by
 have n:∀ k0,k0≠9→∀ i,i∈ws→i<h.size→b≤i→ow i≠k0:=fun k0 hk i h1 h2 h3=>by have:=hw i h1 h2 h3; omega
 exact ⟨a.core.ai k (fun i h1 h2 h3=>by have:=hw i h1 h2 h3; omega),a.box.ai k (fun hm=>by have:=hw B hm a.box.lt a.bB; have:=a.oB; omega),SL.cJ a.names k a.oN (n 7 (by omega)),SL.cJ a.aF k a.oG (n 8 (by omega)),SL.cJ a.lines k a.oL (n 12 (by omega)),a.oB,a.oN,a.oG,a.oL,a.bB⟩
theorem tK.dl (a:tK h b B w t d e N G Li ut ud ue ow):d.l=w.data.length:=by rw [a.core.d1.1,List.length_map,rK a.core.d3]
theorem tK.nl (a:tK h b B w t d e N G Li ut ud ue ow):N.l=w.names.length:=SN.len a.names
end
structure MT (qq:Nat→Prop) (h0 h:Hp) (b B x y:Nat) (w:ew) (lb opn:ByteArray) (pA:Option Addr) (lA cA:Nat) (tg:kD) (t d e N G Li sl se:bP) (ut ud us:List (bP × bD)) (ue:List (bP × lP)) (ow:Nat→Nat):Prop where
 a:tK h b B w t d e N G Li ut ud ue ow
 bx:aO h x 191 [.string lb,.string opn,.slice pA lA cA]
 uL:aO h y 194 (qX tg.kind sl.p sl.l sl.c tg.name se.p se.l se.c tg.e.num tg.sec)
 o:pz h b tg sl us se ow
 ox:ow x=9
 oy:ow y=9
 ab:Ab b qq ow h0 h
theorem MT.ext {qq:Nat→Prop} {h0 h h':Hp} {b B x y:Nat} {w:ew} {lb opn:ByteArray} {pA:Option Addr} {lA cA:Nat} {tg:kD} {t d e N G Li sl se:bP} {ut ud us:List (bP × bD)} {ue:List (bP × lP)} {ow:Nat→Nat} (s:MT qq h0 h b B x y w lb opn pA lA cA tg t d e N G Li sl se ut ud us ue ow) (k:Ext h h') :
  MT qq h0 h' b B x y w lb opn pA lA cA tg t d e N G Li sl se ut ud us ue ow :=
 ⟨s.a.ai k (by simp),s.bx.ai k (by simp),s.uL.ai k (by simp),s.o.ai k (by simp),s.ox,s.oy,s.ab.BE k (fun _ _=>rfl)⟩
end Go.Sx.Ob
