/- Contracts over heaps, and plain laws, for the functions that the laws of chapter 9 call, part 5: The sizes of what is read, and the law's own comparisons, over heaps. Lists of n Condition: as each statement says. -/
import Derived.Test.YtfkjiiapldkoeaaGreatDoorP4
import Derived.Test.YtfkjiiapldkoeaaGreatDoorAtL
import Derived.Test.YtfkjiiapldkoeaaGreatDoorAtM
set_option linter.unusedVariables false
set_option linter.unusedSimpArgs false
set_option maxRecDepth 100000
namespace Go.Sx.Ob
open Go.Proofs
theorem mB {ts:List Tok} {x:fa} (hw:Wf ts) (h:bY ts=.ok x):x.aC.length≤ts.length:=by
 unfold bY at h
 have:=kZ 32 ts hw
 cases hs:nZ 32 ts with
 | error e=>rw [hs] at h; cases h
 | ok q =>
  rw [hs] at h this;simp only at h;split at h
  ·injection h with h
   subst h;obtain ⟨_,_,_,h4⟩:=this;omega
  ·cases h
theorem Hb {pool:Bool} {ts:List Tok} {x:fa} (hw:Wf ts) (h:rG pool ts=.ok x):x.aC.length≤ts.length:=by
 unfold rG at h;split at h
 ·exact mB hw h
 ·split at h
  ·cases h
  ·split at h
   ·have:=mB hw.tail h
    simp only [List.length_cons]; omega
   ·cases h
def Bd (n:Nat) (x:bD):Prop:=x.e.aC.length≤n
theorem F' {n:Nat} {x y:bD} {r:DP} {ts:List Tok} (hw:Wf ts) (hn:ts.length≤n) (hx:Bd n x) (h:dV x r ts=.ok y):Bd n y:=by
 unfold dV at h;unfold Bd at *;split at h
 ·split at h
  ·cases h
  ·injection h with h
   subst h;split
   ·exact hx
   ·split
    ·exact hx
    ·exact hx
 ·split at h
  ·cases h
  ·injection h with h
   subst h;exact hx
 ·split at h
  ·cases h
  ·rename_i hv;injection h with h
   subst h
   have:=Hb hw hv
   simp only [Az]; omega
theorem yW {n:Nat}:∀ (rs:List DP) (args:List (List Tok)) (x y:bD),(∀ a,a∈args→Wf a∧a.length≤n)→Bd n x→ef x rs args=.ok y→Bd n y
 | [],args,x,y,_,hx,h=>by
  have h:Except.ok x=(Except.ok y:Except Nat bD):=by cases args <;> exact h
  injection h with h
  subst h;exact hx
 | r::rs,[],x,y,_,hx,h=>by
  simp only [ef] at h;injection h with h
  subst h;exact hx
 | r::rs,a::args,x,y,ha,hx,h=>by
  simp only [ef] at h;split at h
  ·cases h
  ·rename_i z hz;exact yW rs args z y (fun b hb=>ha b (by simp [hb])) (F' (ha a (by simp)).1 (ha a (by simp)).2 hx hz) h
theorem FL {n:Nat} {op:Int} {args:List (List Tok)} {y:bD} (ha:∀ a,a∈args→Wf a∧a.length≤n) (h:eN op args=.ok y):Bd n y:=by
 unfold eN at h;split at h
 ·cases h
 ·exact yW _ _ _ _ ha (by simp [Bd,eh,cU,dZ]) h
theorem FD {n k:Nat} {ts:List Tok} {y:bD} (hw:Wf ts) (hn:ts.length≤n) (h:jI k ts=.ok y):Bd n y:=by
 unfold jI at h;split at h
 ·split at h
  ·cases h
  ·injection h with h
   subst h;simp [Bd,cU,dZ]
 ·split at h
  ·cases h
  ·rename_i x hx;injection h with h
   subst h
   have:=mB hw hx
   unfold Bd; simp only; omega
theorem rA {n k:Nat}:∀ (args:List (List Tok)) (l:List bD),(∀ a,a∈args→Wf a∧a.length≤n)→cQ k args=.ok l→l.length=args.length∧∀ x,x∈l→Bd n x
 | [],l,_,h=>by
  simp only [cQ] at h;injection h with h
  subst h
  simp
 | a::args,l,ha,h=>by
  simp only [cQ] at h;split at h
  ·cases h
  ·rename_i x hx;split at h
   ·cases h
   ·rename_i l' hl;injection h with h
    subst h
    have:=rA args l' (fun b hb=>ha b (by simp [hb])) hl
    refine ⟨by simp [this.1],fun y hy=>?_⟩;rcases List.mem_cons.1 hy with rfl | hy
    ·exact FD (ha a (by simp)).1 (ha a (by simp)).2 hx
    ·exact this.2 y hy
structure oI (n:Nat) (t:kV):Prop where
 many:t.items.length≤n
 item:∀ x,x∈t.items→Bd n x
 e:t.e.aC.length≤n
theorem oI.z (n:Nat):oI n bM:=⟨by simp [bM],by simp [bM],by simp [bM,dZ]⟩
theorem oI.one {n:Nat} {x:bD} (hn:1≤n) (h:Bd n x):oI n (fh x):=⟨by simp [fh]; omega,by simp [fh]; exact h,by simp [fh,bM,dZ]⟩
theorem IS {n:Nat} {op:ByteArray} {args:List (List Tok)} {t:kV} {w:Nat} (hn:1≤n) (ha:∀ a,a∈args→Wf a∧a.length≤n) (hl:args.length≤n) (h:gG op args=.ok (t,w)):oI n t:=by
 have hag:∀ i,Wf (ag args i)∧(ag args i).length≤n:=by
  intro i;unfold ag;rw [List.getD_eq_getElem?_getD];cases hh:args[i]? with
  | none=>exact ⟨fun t ht=>by simp at ht,by simp⟩
  | some a=>exact ha a (List.mem_of_getElem? hh)
 have z:∀ x:bD,x.e=dZ→Bd n x:=fun x hx=>by unfold Bd; rw [hx]; simp [dZ]
 unfold gG at h;simp only at h;split at h
 ·cases h
 split at h
 ·injection h with h; injection h with h _; subst h
  exact oI.one hn (z _ rfl)
 split at h
 ·split at h
  ·cases h
  split at h
  ·injection h with h; injection h with h _; subst h
   exact oI.one hn (z _ rfl)
  ·cases h
 split at h
 ·split at h
  ·cases h
  injection h with h; injection h with h _; subst h
  exact oI.one hn (z _ rfl)
 split at h
 ·split at h
  ·cases h
  split at h
  ·cases h
  rename_i l hh;injection h with h; injection h with h _; subst h
  have:=rA args l ha hh
  exact ⟨by simp only; omega,this.2,by simp [bM,dZ]⟩
 split at h
 ·split at h
  ·cases h
  split at h
  ·cases h
  rename_i l hh;injection h with h; injection h with h _; subst h
  have:=rA args l ha hh
  exact ⟨by simp only; omega,this.2,by simp [bM,dZ]⟩
 split at h
 ·split at h
  ·cases h
  split at h
  ·cases h
  rename_i x hx;injection h with h; injection h with h _; subst h
  have:=mB (hag 1).1 hx
  exact ⟨by simp [bM],by simp [bM],by have:=(hag 1).2; simp only; omega⟩
 split at h
 ·split at h
  ·cases h
  injection h with h; injection h with h _; subst h
  exact ⟨by simp [bM],by simp [bM],by simp [bM,dZ]⟩
 split at h
 ·split at h
  ·injection h with h; injection h with h _; subst h
   exact ⟨by simp [bM],by simp [bM],by simp [bM,dZ]⟩
  split at h
  ·injection h with h; injection h with h _; subst h
   exact ⟨by simp [bM],by simp [bM],by simp [bM,dZ]⟩
  ·cases h
 ·cases h
theorem AZ {n:Nat} {l:Ln} {data:Bool} {t:kV} (hn:1≤n) (ha:∀ a,a∈l.args→Wf a∧a.length≤n) (hl:l.args.length≤n) (h:dQ l data=.ok t):oI n t:=by
 unfold dQ at h;split at h
 ·injection h with h
  subst h;exact oI.z n
 split at h
 ·split at h
  ·cases h
  rename_i x hx;split at h
  ·cases h
  injection h with h
  subst h;exact oI.one hn (FL ha hx)
 split at h
 ·cases h
 rename_i t' w' hd
 by_cases g:w'=2∨w'=(if data then 1 else 0)
 ·rw [if_pos g] at h;injection h with h
  subst h;exact IS hn ha hl hd
 ·rw [if_neg g] at h;cases h
theorem KN {op:Int} (h:cY op≠0):Sm op:=by
 unfold cY at h;unfold Sm;split at h
 ·exact absurd rfl h
 ·by_cases g:op≤43
  ·omega
  ·exfalso;apply h;rw [List.getD_eq_getElem?_getD,List.getElem?_eq_none (by simp only [bX,List.length_cons,List.length_nil]; omega)];rfl
def yM (s:ByteArray):List Value:=[.string s]
abbrev SN (h:Hp) (b:Nat) (p:Option Addr) (l c:Nat) (xs:List ByteArray):Prop:=SL h b 9 1 p l c (xs.map yM)
theorem SN.len {h:Hp} {b:Nat} {p:Option Addr} {l c:Nat} {xs:List ByteArray} (s:SN h b p l c xs):l=xs.length:=by
 have:=s.1
 rwa [List.length_map] at this
theorem SN.cell {h:Hp} {b:Nat} {p:Option Addr} {l c:Nat} {xs:List ByteArray} (s:SN h b p l c xs) {i:Nat} (hi:i<xs.length):∃ a,p=some a∧aH h (a.add (i*1)) 0 [.string xs[i]]:=by
 obtain ⟨a,ha,hc⟩:=SL.cells s (i:=i) (by rw [List.length_map]; exact hi);refine ⟨a,ha,?_⟩;rw [List.getElem_map] at hc;exact hc
theorem M4 (D:List ByteArray) (s:ByteArray) (i:Nat) (hi:i<D.length):fJ (D.take (i+1)) s=(fJ (D.take i) s || decide (D[i]=s)):=by
 unfold fJ;rw [List.take_succ_eq_append_getElem hi,List.any_append]
 simp
theorem KU {h:Hp} {b:Nat} {p:Option Addr} {l c:Nat} {xs:List ByteArray} (v:SN h b p l c xs) (hl:xs.length≤2^61) (s:ByteArray):uj Tryz.prog 50 [.slice p l c,.string s] h (.bool (fJ xs s)):=by
 refine dU mixed Tryz.func50 (by kernel_rfl) (nq p l c s) ?_;unfold jo;have n:=SN.len v;refine aY (cs:=[(false,[.bool]),(false,[.int .i64])]) (fun y m h'=>∃ i:Nat,y.2.1=(i:Int)∧m=xs.length-i∧i≤xs.length∧h'=h∧fJ (xs.take i) s=false) (false,(0:Int),()) xs.length rfl
  ⟨0,rfl,rfl,by omega,rfl,rfl⟩ ?_
 rintro ⟨b2,n3,⟨⟩⟩ m h' ⟨i,hi,rfl,hle,rfl,hn⟩;simp only at hi;subst hi;dsimp only [flat,aD,aj,nA,cA];refine ah (fun q=>?_) (fun q=>?_)
 ·have q:=of_decide_eq_true q;have hil:i<xs.length:=by omega
  obtain ⟨a,ha,hc⟩:=SN.cell v hil;refine aA ⟨by omega,by omega⟩ (ai ha ?_);rw [show Int.toNat (i:Int)=i by omega];refine aE (xs[i],()) hc ?_;dsimp only [flat,aD,aj,nA,cA];have hs:=M4 xs s i hil;rw [Jb];refine ah (fun r=>?_) (fun r=>?_)
  ·have r:=of_decide_eq_true r;refine ⟨congrArg Value.bool ?_,rfl⟩;unfold fJ;exact (List.any_eq_true.2 ⟨_,List.getElem_mem hil,decide_eq_true r⟩).symm
  ·rw [hn,r] at hs;refine aK (cs:=[(false,[.bool]),(false,[.int .i64])]) (b2,((i+1:Nat):Int),()) (xs.length-(i+1)) rfl (by omega) (by rw [wrap_i64 (by omega) (by omega)]; rfl) ?_;exact ⟨i+1,rfl,rfl,by omega,rfl,hs⟩
 ·have q:=of_decide_eq_false q
  have:i=xs.length:=by omega
  subst this;rw [List.take_length] at hn;exact ⟨by rw [hn],rfl⟩
def dR (l:List bD):List ByteArray:=(l.filter fun x=>decide (x.kind=1)).map (·.name)
theorem yU (l:List bD) (i:Nat) (hi:i<l.length):dR (l.take (i+1))=dR (l.take i)++if l[i].kind=1 then [l[i].name] else []:=by
 unfold dR;rw [List.take_succ_eq_append_getElem hi,List.filter_append,List.map_append]
 congr 1
 by_cases hk:l[i].kind=1 <;> simp [hk]
theorem SN.push {L:Lp} {K:Value→Hp→Prop} {h:Hp} {b:Nat} {p:Option Addr} {l c:Nat} {xs:List ByteArray} (v:SN h b p l c xs) (x:ByteArray) (hl:xs.length≤2^40) (hb:b≤h.size) {k:Option Addr→Nat→Nat→T}
  (hk:∀ p' c' h',SN h' b p' (l+1) c' (xs++[x])→Ch (az p) h h'→k p' (l+1) c' L K h') :
  T.aS Tryz.prog (Instr.buildSlice 25 1 #[(0,.string x)]) false [(false,[.slice 0])] (fun q m cc=>T.aS Tryz.prog (Builtin.append_ #[25,25] 25 #[.slice p l c,.slice q m cc]) false [(false,[.slice 0])] k) L K h:=by
 have n:=SN.len v;refine pF (vs:=[.string x]) vW Ja rfl (by omega) (by omega) (by kernel_rfl) rfl rfl v hb (by omega) (by omega) ?_;intro p' c' h' s' ch _;refine hk p' c' h' ?_ ch;unfold SN;rw [List.map_append];exact s'
theorem SN.ext {h a b':Hp} {b:Nat} {p:Option Addr} {l c:Nat} {xs:List ByteArray} (e:Ext h a) (v:SN a b p l c xs) (hb:h.size≤b) (k:Ch (az p) a b'):Ext h b' :=
 Ch.trans e k (fun i hi hl=>by have:=(Ob.SL.bR v i hi).1; omega)
theorem yL {h:Hp} {p:Option Addr} {l c:Nat} {us:List bD} (v:AH h p l us) (hm:us.length≤2^20) :
  HC Tryz.prog 52 #[.slice p l c] h fun w h'=>∃ p' l' c',w=.slice p' l' c'∧SN h' h.size p' l' c' (dR us)∧Ext h h':=by
 refine aL (args:=[.slice p l c]) mixed Tryz.func52 (by kernel_rfl) (kN p l c) ?_;unfold gL;have n:=v.len;refine aY (cs:=[(false,[.slice 0]),(false,[.int .i64])]) (fun y m h'=>∃ i:Nat,y.2.1=(i:Int)∧m=us.length-i∧i≤us.length∧Ext h h'∧(dR (us.take i)).length≤i∧SN h' h.size y.1.1 y.1.2.1 y.1.2.2 (dR (us.take i))) ((none,0,0),(0:Int),()) us.length rfl
  ⟨0,rfl,rfl,by omega,Ch.refl _ _,by simp [dR],SL.nil _ _ _ _⟩ ?_
 rintro ⟨⟨p1,l2,l3⟩,n4,⟨⟩⟩ m h1 ⟨i,hi,rfl,hle,e1,hll,s⟩;simp only at hi s;subst hi;dsimp only [flat,aD,aj,nA,cA];have hz:=e1.size;refine ah (fun q=>?_) (fun q=>?_)
 ·have q:=of_decide_eq_true q;have hil:i<us.length:=by omega
  obtain ⟨aa,pp,ll,cc,kR,hc,va⟩:=(v.af e1).cells i hil;have ht:=yU us i hil;generalize us[i]=x at hc va ht;refine aA ⟨by omega,by omega⟩ (ai kR ?_);rw [show Int.toNat (i:Int)=i by omega];refine aE (x.kind,()) ⟨hc.1,trivial⟩ ?_;dsimp only [flat,aD,aj,nA,cA];refine ah (fun r=>?_) (fun r=>?_)
  ·have r:x.kind=1:=by simpa using r
   rw [if_pos r] at ht;refine aA ⟨by omega,by omega⟩ (ai kR ?_);refine aE (x.name,()) ⟨by rw [add_add]; exact hc.2.1,trivial⟩ ?_;dsimp only [flat,aD,aj,nA,cA];refine SN.push s x.name (by omega) (by omega) ?_;intro p' c' h2 s2 k2;refine aK (cs:=[(false,[.slice 0]),(false,[.int .i64])]) ((p',l2+1,c'),((i+1:Nat):Int),()) (us.length-(i+1)) rfl (by omega) (by rw [wrap_i64 (by omega) (by omega)]; rfl) ?_;exact ⟨i+1,rfl,rfl,by omega,SN.ext e1 s (Nat.le_refl _) k2,by rw [ht,List.length_append]; simp; omega,by rw [ht]; exact s2⟩
  ·have r:¬ x.kind=1:=by simpa using r
   rw [if_neg r,List.append_nil] at ht;refine aK (cs:=[(false,[.slice 0]),(false,[.int .i64])]) ((p1,l2,l3),((i+1:Nat):Int),()) (us.length-(i+1)) rfl (by omega) (by rw [wrap_i64 (by omega) (by omega)]; rfl) ?_;exact ⟨i+1,rfl,rfl,by omega,e1,by rw [ht]; omega,by rw [ht]; exact s⟩
 ·have q:=of_decide_eq_false q
  have:i=us.length:=by omega
  subst this;rw [List.take_length] at s;exact ⟨p1,l2,l3,rfl,s,e1⟩
theorem Kb {L:Lp} {K:Value→Hp→Prop} {h:Hp} {k:Option Addr→Nat→Nat→T} {b b':Nat} {p:Option Addr} {l c:Nat} {xs:List ByteArray} (s:SN h b p l c xs) {q:Option Addr} {m d:Nat} {us:List ByteArray} (v:SN h b' q m d us)
  (hl:l+m≤2^40) (hb:b≤h.size)
  (hk:∀ p' c' h',SN h' b p' (l+m) c' (xs++us)→Ch (az p) h h'→k p' (l+m) c' L K h') :
  T.aS Tryz.prog (Builtin.append_ #[25,25] 25 #[.slice p l c,.slice q m d]) false [(false,[.slice 0])] k L K h:=by
 obtain ⟨i,hi,hz,hsz,hby⟩:=fF Ja;refine bN ?_;cases q with
 | none =>
  have h1:us=[]:=by
   have:=v.2.2.2
   simpa using this
  have h0:m=0:=by have:=SN.len v; rw [h1] at this; exact this
  have hd:d=0:=v.2.2.1;subst h0 h1 hd;have hc0:l≤c:=by
   cases p with
   | none =>
    have h2:=s.2.2.2;have h3:=s.1;rw [h2] at h3;simp at h3;omega
   | some a =>
    obtain ⟨g,pre,rest,rfl,hbg,hlc,_⟩:=s.2.2;exact hlc.1
  simp [Builtin.append_,ak,ay vW,aT hi,bJ hi,Builtin.lenOf,Builtin.firstCells,hc0];have hfin:∃ p' l' c',Value.slice p l c=.slice p' l' c'∧k p' l' c' L K h:=⟨p,l,c,rfl,by simpa using hk p c h (by simpa using s) (Ch.refl _ _)⟩
  cases p with
  | none=>exact hfin
  | some a=>exact hfin
 | some a =>
  have hc:aH h a 0 (us.map yM).flatten:=by
   obtain ⟨g,pre,rest,rfl,hbg,hlc,hbox,hr⟩:=v.2.2;refine hbox.cells _ ?_;rw [List.drop_left,List.take_left]
  have hpl:(us.map yM).flatten.all dA=true:=by
   rw [List.all_eq_true];intro x hx;obtain ⟨y,hy,hxy⟩:=List.mem_flatten.1 hx;obtain ⟨z,_,rfl⟩:=List.mem_map.1 hy;rw [List.mem_singleton.1 hxy];rfl
  refine fL vW hi hz (by rw [hsz]; rfl) (by rw [hsz]; exact s) (ys:=us.map yM) (by rw [List.length_map]; exact SN.len v) (fun y hy=>?_) hc hpl (by rw [hby]; omega) (by omega) hb ?_
  ·obtain ⟨t,_,rfl⟩:=List.mem_map.1 hy;rw [hsz];rfl
  ·intro p' c' h' s' k' hp';rw [hsz,← List.map_append] at s';exact ⟨_,_,_,rfl,hk p' c' h' s' k'⟩
def Bi (u:fU):List ByteArray:=dR u.text++dR u.data++u.aQ.map (·.1)
theorem oQ (l:List bD):(dR l).length≤l.length:=by
 unfold dR;rw [List.length_map];exact List.length_filter_le _ _
theorem DB {h:Hp} {a b c d:bE} {u:fU} (v:eZ h a b c d u) (h1:u.text.length≤2^20) (h2:u.data.length≤2^20) (h3:u.aQ.length≤2^20) :
  HC Tryz.prog 23 #[jM a b c d] h fun w h'=>∃ p' l' c',w=.slice p' l' c'∧SN h' h.size p' l' c' (Bi u)∧Ext h h':=by
 refine aL (args:=[jM a b c d]) mixed Tryz.func23 (by kernel_rfl) (nu a.p a.l a.c b.p b.l b.c c.p c.l c.c d.p d.l d.c) ?_;unfold jT;refine aW ?_;intro g1 b1 e1 z1;have b1:aM g1 h.size 27 [a.v,b.v,c.v,d.v]:=b1;simp only [au];refine ad b1 ((a.p,a.l,a.c),()) rfl ?_;dsimp only [flat,aD,aj,nA,cA];refine ad b1 ((b.p,b.l,b.c),()) rfl ?_;dsimp only [flat,aD,aj,nA,cA];refine aF (yL (c:=a.c) (v.text.af e1) h1) ?_;rintro _ g2 ⟨p8,l9,l10,rfl,s8,e2⟩;refine ⟨((p8,l9,l10),()),rfl,?_⟩;dsimp only [flat,aD,aj,nA,cA];have b2:=b1.af e2 (by simp);refine ⟨⟨b2.cells _ rfl,trivial⟩,?_⟩;refine aF (yL (c:=b.c) (v.data.af (e1.trans e2)) h2) ?_;rintro _ g3 ⟨p11,l12,l13,rfl,s11,e3⟩;refine ⟨((p11,l12,l13),()),rfl,?_⟩;dsimp only [flat,aD,aj,nA,cA];have b3:=b2.af e3 (by simp);have q1:=e1.size;have q2:=e2.size;have q3:=e3.size;refine ⟨⟨b3.cells _ rfl,trivial⟩,?_⟩;have s8':SN g3 g1.size p8 l9 l10 (dR u.text):=s8.af e3 (by simp);have n8:=SN.len s8;have n11:=SN.len s11;have k8:=oQ u.text;have k11:=oQ u.data;have e03:=(e1.trans e2).trans e3;refine Kb s8' s11 (by omega) (by omega) ?_;intro p14 c14 g4 s14 k4;have e4:=SN.ext e03 s8' (by omega) k4;have nb:h.size∉az p8:=fun hi=>by have:=(Ob.SL.bR s8' _ hi).1; omega
 have b4:=b3.af k4 nb;refine ⟨⟨b4.cells _ rfl,b4.cells _ rfl,trivial⟩,?_⟩;have nc:=v.aQ.len;have hu:∀ i,i<u.aQ.length→dR u.text++dR u.data++(u.aQ.take (i+1)).map (·.1)=(dR u.text++dR u.data++(u.aQ.take i).map (·.1))++[(u.aQ.getD i (bT,dZ)).1]:=by
  intro i hi;rw [List.take_succ_eq_append_getElem hi,List.map_append,← List.append_assoc,List.getD_eq_getElem?_getD,List.getElem?_eq_getElem hi];rfl
 refine aY (cs:=[(false,[.slice 0]),(false,[.int .i64])]) (fun y m h'=>∃ i:Nat,y.2.1=(i:Int)∧m=u.aQ.length-i∧i≤u.aQ.length∧(Ext h h'∧g1.size≤h'.size)∧aM h' h.size 27 [a.v,b.v,c.v,d.v]∧SN h' g1.size y.1.1 y.1.2.1 y.1.2.2 (dR u.text++dR u.data++(u.aQ.take i).map (·.1))) ((p14,l9+l12,c14),(0:Int),()) u.aQ.length rfl
  ⟨0,rfl,rfl,by omega,⟨e4,by have:=k4.size; omega⟩,b4,by simpa using s14⟩ ?_
 rintro ⟨⟨p1,l2,l3⟩,n4,⟨⟩⟩ m g5 ⟨i,hi,rfl,hle,⟨e5,z5⟩,b5,s⟩;simp only at hi s;subst hi;dsimp only [flat,aD,aj,nA,cA];have hz:=e5.size;refine ad b5 ((c.p,c.l,c.c),()) rfl ?_;dsimp only [flat,aD,aj,nA,cA];refine ah (fun q=>?_) (fun q=>?_)
 ·have q:=of_decide_eq_true q;have hil:i<u.aQ.length:=by omega
  refine ad b5 ((c.p,c.l,c.c),()) rfl ?_;dsimp only [flat,aD,aj,nA,cA];obtain ⟨aa,pp,ll,cc,kR,hc,va,vn⟩:=(v.aQ.af e5).cells i hil;refine aA ⟨by omega,by omega⟩ (ai kR ?_);rw [show Int.toNat (i:Int)=i by omega];refine aE (u.aQ[i].1,()) ⟨hc.1,trivial⟩ ?_;dsimp only [flat,aD,aj,nA,cA];have ns:=SN.len s;have hg:(u.aQ.getD i (bT,dZ)).1=u.aQ[i].1:=by
   rw [List.getD_eq_getElem?_getD,List.getElem?_eq_getElem hil];rfl
  refine SN.push s _ (by simp only [List.length_append,List.length_map,List.length_take]; omega) z5 ?_;intro p' c' h2 s2 k2;have nb2:h.size∉az p1:=fun hi=>by have:=(Ob.SL.bR s _ hi).1; omega
  refine aK (cs:=[(false,[.slice 0]),(false,[.int .i64])]) ((p',l2+1,c'),((i+1:Nat):Int),()) (u.aQ.length-(i+1)) rfl (by omega) (by rw [wrap_i64 (by omega) (by omega)]; rfl) ?_;exact ⟨i+1,rfl,rfl,by omega,⟨SN.ext e5 s (by omega) k2,by have:=k2.size; omega⟩,b5.af k2 nb2,by rw [hu i hil,hg]; exact s2⟩
 ·have q:=of_decide_eq_false q
  have:i=u.aQ.length:=by omega
  subst this;rw [List.take_length] at s;exact ⟨p1,l2,l3,rfl,Sx.SL.mono s (by omega),e5⟩
theorem SN.put {L:Lp} {K:Value→Hp→Prop} {h:Hp} {b:Nat} {p:Option Addr} {l c:Nat} {xs:List ByteArray} (v:SN h b p l c xs) {i:Nat} (hi:i<xs.length) (x:ByteArray) {a:Addr} (ha:p=some a) {k:T}
  (hk:∀ h',SN h' b p l c (xs.set i x)→Ch (az p) h h'→h'.size=h.size→k L K h'):T.ao (a.add (i*1)) [.string x] k L K h:=by
 refine SL.store (P:=Tryz.prog) v (i:=i) (vs:=yM x) (by rw [List.length_map]; exact hi) rfl rfl ha ?_;intro h' s' ch z;refine hk h' ?_ ch z;unfold SN;rw [List.map_set];exact s'
theorem BE (zs:List ByteArray) (j:Nat) (hj:0<j) (hl:j<zs.length):(zs.set j (zs[j-1]'(by omega))).eraseIdx (j-1)=zs.eraseIdx j:=by
 apply List.ext_getElem?;intro k;rw [List.getElem?_eraseIdx,List.getElem?_eraseIdx]
 by_cases h1:k<j-1
 ·rw [if_pos h1,if_pos (by omega),List.getElem?_set_ne (by omega)]
 ·rw [if_neg h1]
  by_cases h2:k<j
  ·have:k=j-1:=by omega
   subst this;rw [if_pos h2,show j-1+1=j by omega,List.getElem?_set_self hl,List.getElem?_eq_getElem (by omega)]
  ·rw [if_neg h2,List.getElem?_set_ne (by omega)]
theorem Jq (zs:List ByteArray) (j:Nat) (hl:j<zs.length) (x s:ByteArray):fJ (zs.set j x) s=(fJ (zs.eraseIdx j) s || decide (x=s)):=by
 unfold fJ;rw [List.set_eq_take_append_cons_drop,if_pos hl,List.eraseIdx_eq_take_drop_succ];simp only [List.any_append,List.any_cons]
 all_goals (cases List.any (zs.take j) (fun t=>decide (t=s)) <;> cases List.any (zs.drop (j+1)) (fun t=>decide (t=s)) <;> cases decide (x=s) <;> rfl)
theorem px {D:List ByteArray} {s:ByteArray}:fJ D s=true↔s∈D:=by
 unfold fJ;rw [List.any_eq_true];constructor
 ·rintro ⟨t,ht,e⟩;rw [← of_decide_eq_true e];exact ht
 ·intro hs;exact ⟨s,hs,decide_eq_true rfl⟩
theorem mz (l:List ByteArray) (x:ByteArray):(l++[x]).Nodup↔l.Nodup∧x∉l:=by
 rw [List.nodup_append];constructor
 ·rintro ⟨a,_,c⟩;exact ⟨a,fun hx=>c x hx x (by simp) rfl⟩
 ·rintro ⟨a,b⟩;refine ⟨a,by simp,fun y hy z hz e=>?_⟩;rw [List.mem_singleton.1 hz] at e;exact b (e▸hy)
theorem zt {h : Hp} {b : Nat} {p : Option Addr} {l c : Nat} {xs : List ByteArray} (v : SN h b p l c xs) (hm : xs.length ≤ 2 ^ 30) :
    HC Tryz.prog 22 #[.slice p l c] h fun w h' => ∃ p' c' ys, w = .slice p' (ys : List ByteArray).length c' ∧ ys.length ≤ xs.length ∧ (ys.length = xs.length ↔ xs.Nodup) ∧ Ext h h' := by
  refine aL (args := [.slice p l c]) mixed Tryz.func22 (by kernel_rfl) (kJ p l c) ?_;unfold gV;have n := SN.len v
  refine aY (cs := [(false, [.slice 0]), (false, [.int .i64])]) (fun y m h' => ∃ (i : Nat) (ys : List ByteArray), y.2.1 = (i : Int) ∧ m = xs.length - i ∧ i ≤ xs.length ∧ Ext h h' ∧ SN h' h.size y.1.1 y.1.2.1 y.1.2.2 ys ∧ ys.length ≤ i ∧ (∀ s, fJ ys s = fJ (xs.take i) s) ∧ (ys.length = i ↔ (xs.take i).Nodup)) ((none, 0, 0), (0 : Int), ()) xs.length rfl
    ⟨0, [], rfl, rfl, by omega, Ch.refl _ _, SL.nil _ _ _ _, by simp, fun s => rfl, by simp⟩ ?_
  rintro ⟨⟨p1, l2, l3⟩, n4, ⟨⟩⟩ m h1 ⟨i, ys, hi, rfl, hle, e1, s, hyl, hin, hnd⟩;simp only at hi s;subst hi;dsimp only [flat, aD, aj, nA, cA];have hz := e1.size;have ny := SN.len s;refine ah (fun q => ?_) (fun q => ?_)
  · have q := of_decide_eq_true q
    have hil : i < xs.length := by omega
    have hx : ∀ {g}, Ext h g → ∃ a, p = some a ∧ aH g (a.add (i * 1)) 0 [.string xs[i]] := by
      intro g e;obtain ⟨a, ha, hc⟩ := SN.cell v hil;exact ⟨a, ha, bj e (by simp) _ _ hc⟩
    have htk : xs.take (i + 1) = xs.take i ++ [xs[i]] := List.take_succ_eq_append_getElem hil;generalize hxv : xs[i] = x at hx htk;obtain ⟨a, ha, hc⟩ := hx e1;refine aA ⟨by omega, by omega⟩ (ai ha ?_);rw [show Int.toNat (i : Int) = i by omega];refine aE (x, ()) hc ?_;dsimp only [flat, aD, aj, nA, cA];refine aI (KU s (by omega) x) ?_;rw [hin];have hinx : fJ (xs.take i) x = true ↔ x ∈ xs.take i := px;refine ah (fun r => ?_) (fun r => ?_)
    · have r2 := hinx.1 r
      refine aK (cs := [(false, [.slice 0]), (false, [.int .i64])]) ((p1, l2, l3), ((i + 1 : Nat) : Int), ()) (xs.length - (i + 1)) rfl (by omega) (by rw [wrap_i64 (by omega) (by omega)]; rfl) ?_;refine ⟨i + 1, ys, rfl, rfl, by omega, e1, s, by omega, fun t => ?_, ?_⟩
      · rw [hin, htk]
        by_cases e : x = t
        · subst e
          rw [r];exact (px.2 (List.mem_append.2 (.inl r2))).symm
        · unfold fJ
          rw [List.any_append];simp [e]
      · rw [htk, mz]
        exact ⟨fun k => by omega, fun k => absurd r2 k.2⟩
    · have r2 : x ∉ xs.take i := fun k => by rw [hinx.2 k] at r; cases r
      refine aA ⟨by omega, by omega⟩ (ai ha ?_);refine aE (x, ()) hc ?_;dsimp only [flat, aD, aj, nA, cA];refine SN.push s x (by omega) hz ?_;intro p' c' h2 s2 k2;have e2 := SN.ext e1 s (Nat.le_refl _) k2
      refine aY (cs := [(false, [.int .i64])]) (fun y m h' => ∃ (j : Nat) (zs : List ByteArray), y.1 = (j : Int) ∧ m = j ∧ j ≤ ys.length ∧ zs.length = ys.length + 1 ∧ zs.eraseIdx j = ys ∧ Ext h h' ∧ SN h' h.size p' (l2 + 1) c' zs) ((l2 : Int), ()) ys.length rfl
        ⟨ys.length, ys ++ [x], by rw [ny], rfl, by omega, by simp, by rw [List.eraseIdx_append_of_length_le (by omega)]; simp, e2, s2⟩ ?_
      rintro ⟨n16, ⟨⟩⟩ m h3 ⟨j, zs, hj, rfl, hjl, hzl, hze, e3, s3⟩;simp only at hj;subst hj;dsimp only [flat, aD, aj, nA, cA]
      have hpl : ∃ a2, p' = some a2 := by
        obtain ⟨a2, h2, _⟩ := SN.cell s3 (i := 0) (by omega);exact ⟨a2, h2⟩
      obtain ⟨a2, ha2⟩ := hpl
      have last : (T.need (((0 : Int) ≤ (i : Int)) ∧ ((i : Int) < (l : Int))) <|
         T.aw p fun (a21 : Addr) =>
         T.ae (a21.add ((Int.toNat (i : Int)) * 1)) [.string] <| fun (s22 : ByteArray) =>
         T.need (((0 : Int) ≤ (m : Int)) ∧ ((m : Int) < ((l2 + 1 : Nat) : Int))) <|
         T.aw p' fun (a23 : Addr) =>
         T.ao (a23.add ((Int.toNat (m : Int)) * 1)) [.string s22] <|
         T.again 0 [.slice p' (l2 + 1) c', .int .i64 (IntKind.wrap .i64 ((i : Int) + (1 : Int)))])
         ([] ++ [Jl (cs := [(false, [.slice 0]), (false, [.int .i64])]) (fun y m h' => ∃ (i : Nat) (ys : List ByteArray), y.2.1 = (i : Int) ∧ m = xs.length - i ∧ i ≤ xs.length ∧ Ext h h' ∧ SN h' h.size y.1.1 y.1.2.1 y.1.2.2 ys ∧ ys.length ≤ i ∧ (∀ s, fJ ys s = fJ (xs.take i) s) ∧ (ys.length = i ↔ (xs.take i).Nodup)) (xs.length - i)] ++
          [Jl (cs := [(false, [.int .i64])]) (fun y m h' => ∃ (j : Nat) (zs : List ByteArray), y.1 = (j : Int) ∧ m = j ∧ j ≤ ys.length ∧ zs.length = ys.length + 1 ∧ zs.eraseIdx j = ys ∧ Ext h h' ∧ SN h' h.size p' (l2 + 1) c' zs) m])
         (fun w h' => ∃ p' c' ys, w = .slice p' (ys : List ByteArray).length c' ∧ ys.length ≤ xs.length ∧ (ys.length = xs.length ↔ xs.Nodup) ∧ Ext h h') h3 := by
        obtain ⟨a, ha, hc⟩ := hx e3;refine aA ⟨by omega, by omega⟩ (ai ha ?_);rw [show Int.toNat (i : Int) = i by omega];refine aE (x, ()) hc ?_;dsimp only [flat, aD, aj, nA, cA];refine aA ⟨by omega, by omega⟩ (ai ha2 ?_);rw [show Int.toNat (m : Int) = m by omega];refine SN.put s3 (by omega) x ha2 ?_;intro h4 s4 k4 z4;refine aK (cs := [(false, [.slice 0]), (false, [.int .i64])]) ((p', l2 + 1, c'), ((i + 1 : Nat) : Int), ()) (xs.length - (i + 1)) rfl (by omega) (by rw [wrap_i64 (by omega) (by omega)]; rfl) ?_;refine ⟨i + 1, zs.set m x, rfl, rfl, by omega, SN.ext e3 s3 (Nat.le_refl _) k4, s4, by rw [List.length_set]; omega, fun t => ?_, ?_⟩
        · rw [Jq zs m (by omega), hze, hin, htk]
          unfold fJ;rw [List.any_append]
          simp
        · rw [List.length_set, htk, mz, ← hnd, hzl]
          exact ⟨fun k => ⟨by omega, r2⟩, fun k => by omega⟩
      refine ah (fun q2 => ?_) (fun q2 => last);have q2 := of_decide_eq_true q2;rw [wrap_i64 (by omega) (by omega)];obtain ⟨a3, ha3, hc3⟩ := SN.cell s3 (i := m - 1) (by omega);refine aA ⟨by omega, by omega⟩ (ai ha3 ?_);rw [show Int.toNat ((m : Int) - 1) = m - 1 by omega];refine aE (zs[m - 1]'(by omega), ()) hc3 ?_;dsimp only [flat, aD, aj, nA, cA];obtain ⟨a, ha, hc⟩ := hx e3;refine aA ⟨by omega, by omega⟩ (ai ha ?_);refine aE (x, ()) hc ?_;dsimp only [flat, aD, aj, nA, cA];refine ah (fun q3 => ?_) (fun q3 => ?_)
      · refine aA ⟨by omega, by omega⟩ (ai ha3 ?_)
        refine aE (zs[m - 1]'(by omega), ()) hc3 ?_;dsimp only [flat, aD, aj, nA, cA];refine aA ⟨by omega, by omega⟩ (ai ha2 ?_);rw [show Int.toNat (m : Int) = m by omega];refine SN.put s3 (by omega) _ ha2 ?_;intro h4 s4 k4 z4;refine aK (cs := [(false, [.int .i64])]) (((m - 1 : Nat) : Int), ()) (m - 1) rfl (by omega) (by rw [show (m : Int) - 1 = ((m - 1 : Nat) : Int) by omega]; rfl) ?_;exact ⟨m - 1, _, rfl, rfl, by omega, by rw [List.length_set]; exact hzl, by rw [BE zs m (by omega) (by omega)]; exact hze, SN.ext e3 s3 (Nat.le_refl _) k4, s4⟩
      · have := last
        rw [show Int.toNat (i : Int) = i by omega] at this;exact this
  · have q := of_decide_eq_false q
    have : i = xs.length := by omega
    subst this;rw [List.take_length] at hnd;exact ⟨p1, l3, ys, by rw [ny], hyl, hnd, e1⟩
end Go.Sx.Ob
set_option linter.unusedVariables false
set_option linter.unusedSimpArgs false
set_option maxRecDepth 100000
namespace Go.Sx.Ob
open Go.Proofs
structure eF where
 text:List bD
 data:List bD
 aQ:List kl
 names:List ByteArray
 aG:List (ByteArray × Nat)
 sec:Nat
def gH:eF:=⟨[],[],[],[],[],0⟩
def xj (s:ByteArray):bD:={ cU 1 with name:=s }
def kg (dP:ByteArray) (t:kV):List bD:=(if dP=bT then [] else [xj dP])++t.items
def jt (w:eF) (n:Nat) (dP:ByteArray) (t:kV):eF :=
 let jZ:=kg dP t
 let nm:=w.names++(if dP=bT then [] else [dP])
 { text:=if w.sec=0 then w.text++jZ else w.text,data:=if w.sec=0 then w.data else w.data++jZ,aQ:=if t.kind=3 then w.aQ++[(t.name,t.e)] else w.aQ,names:=if t.kind=3 then nm++[t.name] else nm,aG:=if t.kind=4 then w.aG++[(t.name,n)] else w.aG,sec:=if t.kind=5 then t.sec else w.sec }
def uP (w:eF) (dP:ByteArray) (t:kV):Prop:=(dP≠bT∧fJ w.names dP=true)∨(t.kind=3∧(fJ w.names t.name=true∨t.name=dP))
instance (w:eF) (dP:ByteArray) (t:kV):Decidable (uP w dP t):=by unfold uP; infer_instance
def ew (w:eF) (n:Nat) (s:ByteArray):Except Nat eF :=
 if (aN s).2.2≠0 then .error (aN s).2.2
 else if (aN s).1.label≠bT∧bo (aN s).1.label.data.toList=false then .error 21
 else match dQ (aN s).1 (decide (w.sec=1)) with
  | .error e=>.error e
  | .ok t=>if uP w (aN s).1.label t then .error 22
   else if 8192<w.text.length+w.data.length+(kg (aN s).1.label t).length then .error 4
   else .ok (jt w n (aN s).1.label t)
def aX:Nat→List UInt8→List (List UInt8)
 | 0,_=>[]
 | _+1,[]=>[]
 | f+1,s=>(s.takeWhile (·≠10))::aX f ((s.dropWhile (·≠10)).drop 1)
def gD (s:ByteArray):List ByteArray:=(aX (s.size+1) s.data.toList).map fun l=>⟨l.toArray⟩
def gF:eF→Nat→List ByteArray→Except (Nat × Nat) eF
 | w,_,[]=>.ok w
 | w,n,s::l=>match ew w n s with
  | .error e=>.error (n,e)
  | .ok w=>gF w (n+1) l
def Jt (w:eF):Option (ByteArray × Nat):=w.aG.find? fun g=>!fJ w.names g.1
def np (s:ByteArray):List ByteArray→List ByteArray
 | []=>[s]
 | t::l=>if kP s t then s::t::l else if s=t then t::l else t::np s l
def cP (l:List ByteArray):List ByteArray:=l.foldl (fun d s=>np s d) []
def eA (src:ByteArray):Except (Nat × Nat) fU :=
 if 65536<src.size then .error (0,3)
 else if 4096<(gD src).length then .error (4097,4)
 else match gF gH 1 (gD src) with
  | .error e=>.error e
  | .ok w=>match Jt w with
   | some g=>.error (g.2,23)
   | none=>.ok ⟨w.text,w.data,w.aQ,cP (w.aG.map (·.1))⟩
/-! What is put is right. -/
structure CE (w:eF):Prop where
 text:∀ x,x∈w.text→dj x 0=true∧Good x.e
 data:∀ x,x∈w.data→dj x 1=true∧Good x.e
 aQ:∀ x,x∈w.aQ→bo x.1.data.toList=true∧Good x.2
 perm:w.names.Perm (dR w.text++dR w.data++w.aQ.map (·.1))
 Mt:w.names.Nodup
 aG:∀ g,g∈w.aG→bo g.1.data.toList=true
 sec:w.sec≤1
 many:w.text.length+w.data.length≤8192
theorem CE.z:CE gH:=⟨by simp [gH],by simp [gH],by simp [gH],by simp [gH,dR],by simp [gH],by simp [gH],by simp [gH],by simp [gH]⟩
/-! No line's own items are labels. -/
theorem E6 {x y:bD} {r:DP} {ts:List Tok} (h:dV x r ts=.ok y):y.kind=x.kind:=by
 unfold dV at h;split at h
 ·split at h
  ·cases h
  ·injection h with h
   subst h;split
   ·rfl
   ·split
    ·rfl
    ·rfl
 ·split at h
  ·cases h
  ·injection h with h
   subst h;rfl
 ·split at h
  ·cases h
  ·injection h with h
   subst h;rfl
theorem xO:∀ (rs:List DP) (args:List (List Tok)) (x y:bD),ef x rs args=.ok y→y.kind=x.kind
 | [],args,x,y,h=>by
  have h:Except.ok x=(Except.ok y:Except Nat bD):=by cases args <;> exact h
  injection h with h
  rw [h]
 | r::rs,[],x,y,h=>by
  simp only [ef] at h;injection h with h
  rw [h]
 | r::rs,a::args,x,y,h=>by
  simp only [ef] at h;split at h
  ·cases h
  ·rename_i z hz;rw [xO rs args z y h,E6 hz]
theorem De {op:Int} {args:List (List Tok)} {y:bD} (h:eN op args=.ok y):y.kind=2:=by
 unfold eN at h;split at h
 ·cases h
 ·rw [xO _ _ _ _ h]; rfl
theorem nK {k:Nat} (hk:k=5∨k=6):∀ (args:List (List Tok)) (l:List bD),cQ k args=.ok l→∀ x,x∈l→x.kind≠1
 | [],l,h=>by
  simp only [cQ] at h;injection h with h
  subst h
  simp
 | a::args,l,h=>by
  simp only [cQ] at h;split at h
  ·cases h
  ·rename_i x hx;split at h
   ·cases h
   ·rename_i l' hl;injection h with h
    subst h;intro y hy;rcases List.mem_cons.1 hy with rfl | hy
    ·unfold jI at hx;rcases hk with rfl | rfl
     ·rw [if_pos rfl] at hx;split at hx
      ·cases hx
      ·injection hx with hx
       subst hx;simp [cU]
     ·rw [if_neg (by decide)] at hx;split at hx
      ·cases hx
      ·injection hx with hx
       subst hx;simp [cU]
    ·exact nK hk args l' hl y hy
theorem Dg {op:ByteArray} {args:List (List Tok)} {t:kV} {w:Nat} (h:gG op args=.ok (t,w)):(∀ x,x∈t.items→x.kind≠1)∧(t.kind=3→t.items=[]):=by
 unfold gG at h;simp only at h;split at h
 ·cases h
 split at h
 ·injection h with h; injection h with h _; subst h
  exact ⟨by simp [fh,cU],by simp [fh]⟩
 split at h
 ·split at h
  ·cases h
  split at h
  ·injection h with h; injection h with h _; subst h
   exact ⟨by simp [fh,cU],by simp [fh]⟩
  ·cases h
 split at h
 ·split at h
  ·cases h
  injection h with h; injection h with h _; subst h
  exact ⟨by simp [fh,cU],by simp [fh]⟩
 split at h
 ·split at h
  ·cases h
  split at h
  ·cases h
  rename_i l hh;injection h with h; injection h with h _; subst h
  exact ⟨nK (.inl rfl) _ _ hh,by simp⟩
 split at h
 ·split at h
  ·cases h
  split at h
  ·cases h
  rename_i l hh;injection h with h; injection h with h _; subst h
  exact ⟨nK (.inr rfl) _ _ hh,by simp⟩
 split at h
 ·split at h
  ·cases h
  split at h
  ·cases h
  injection h with h; injection h with h _; subst h
  exact ⟨by simp [bM],by simp [bM]⟩
 split at h
 ·split at h
  ·cases h
  injection h with h; injection h with h _; subst h
  exact ⟨by simp [bM],by simp [bM]⟩
 split at h
 ·split at h
  ·injection h with h; injection h with h _; subst h
   exact ⟨by simp [bM],by simp [bM]⟩
  split at h
  ·injection h with h; injection h with h _; subst h
   exact ⟨by simp [bM],by simp [bM]⟩
  ·cases h
 ·cases h
theorem Cr {l:Ln} {data:Bool} {t:kV} (h:dQ l data=.ok t):(∀ x,x∈t.items→x.kind≠1)∧(t.kind=3→t.items=[]):=by
 unfold dQ at h;split at h
 ·injection h with h
  subst h;exact ⟨by simp [bM],by simp [bM]⟩
 split at h
 ·split at h
  ·cases h
  rename_i x hx;split at h
  ·cases h
  injection h with h
  subst h;exact ⟨by simp [fh,De hx],by simp [fh]⟩
 split at h
 ·cases h
 rename_i t' w' hd
 by_cases g:w'=2∨w'=(if data then 1 else 0)
 ·rw [if_pos g] at h;injection h with h
  subst h;exact Dg hd
 ·rw [if_neg g] at h;cases h
theorem wG (a b:List bD):dR (a++b)=dR a++dR b:=by simp [dR]
theorem Ga (dP:ByteArray) {t:kV} (h:∀ x,x∈t.items→x.kind≠1):dR (kg dP t)=if dP=bT then [] else [dP]:=by
 unfold kg;rw [wG]
 have:dR t.items=[]:=by
  unfold dR;rw [List.map_eq_nil_iff,List.filter_eq_nil_iff];intro x hx;simpa using h x hx
 rw [this,List.append_nil];split
 ·rfl
 ·rfl
theorem H3 {s:ByteArray} (h:bo s.data.toList=true) (k:Nat):dj (xj s) k=true∧Good (xj s).e:=by
 refine ⟨?_,Good.z⟩;unfold dj;rw [if_pos (show (xj s).kind=1 from rfl)];simp [xj,cU,z2,z3,z4,EP,h]
theorem Cb {w w':eF} {n:Nat} {s:ByteArray} (hs:s.size≤2^20) (W:CE w) (h:ew w n s=.ok w'):CE w':=by
 unfold ew at h;split at h
 ·cases h
 split at h
 ·cases h
 rename_i hl;split at h
 ·cases h
 rename_i t ht;split at h
 ·cases h
 rename_i hd;split at h
 ·cases h
 rename_i hm;injection h with h
 have f:=ix s hs;have ok:=uL (fun a ha=>(f a ha).1) ht;obtain ⟨nl,n3⟩:=Cr ht;generalize (aN s).1.label=dP at *;have hlab:dP≠bT→bo dP.data.toList=true:=by
  intro g
  by_cases q:bo dP.data.toList=true
  ·exact q
  ·exact absurd ⟨g,by simpa using q⟩ hl
 have hits:∀ x,x∈kg dP t→dj x w.sec=true∧Good x.e:=by
  intro x hx;unfold kg at hx;rcases List.mem_append.1 hx with hx | hx
  ·split at hx
   ·simp at hx
   ·rename_i g
    have:x=xj dP:=by simpa using hx
    rw [this];exact H3 (hlab g) _
  ·have h1:=ok.items x hx;have hs:=W.sec;rcases (show w.sec=0∨w.sec=1 by omega) with e | e
   ·rw [e] at h1 ⊢; simpa using h1
   ·rw [e] at h1 ⊢; simpa using h1
 have hlb:=Ga dP nl;have hsec:=W.sec;subst h;refine ⟨?_,?_,?_,?_,?_,?_,?_,?_⟩
 ·intro x hx;unfold jt at hx;simp only at hx;split at hx
  ·rename_i e;rcases List.mem_append.1 hx with hx | hx
   ·exact W.text x hx
   ·have:=hits x hx
    rwa [e] at this
  ·exact W.text x hx
 ·intro x hx;unfold jt at hx;simp only at hx;split at hx
  ·exact W.data x hx
  ·rename_i e;rcases List.mem_append.1 hx with hx | hx
   ·exact W.data x hx
   ·have:=hits x hx
    rwa [show w.sec=1 by omega] at this
 ·intro x hx;unfold jt at hx;simp only at hx;split at hx
  ·rename_i e;rcases List.mem_append.1 hx with hx | hx
   ·exact W.aQ x hx
   ·have:x=(t.name,t.e):=by simpa using hx
    rw [this];exact ⟨ok.name (.inl e),ok.e⟩
  ·exact W.aQ x hx
 ·unfold jt;simp only;have P:=W.perm;generalize hlw:(if dP=bT then ([]:List ByteArray) else [dP])=lw at *;have base:(w.names++lw).Perm (dR (if w.sec=0 then w.text++kg dP t else w.text)++dR (if w.sec=0 then w.data else w.data++kg dP t)++w.aQ.map (·.1)):=by
   refine (P.append_right lw).trans ?_;split
   ·rw [wG,hlb];simp only [List.append_assoc];refine List.Perm.append_left _ ?_;rw [← List.append_assoc,← List.append_assoc];exact List.perm_append_comm.trans (by simp)
   ·rw [wG,hlb];simp only [List.append_assoc];refine List.Perm.append_left _ (List.Perm.append_left _ ?_);exact List.perm_append_comm
  by_cases e:t.kind=3
  ·rw [if_pos e,if_pos e,List.map_append,← List.append_assoc];exact base.append_right _
  ·rw [if_neg e,if_neg e];exact base
 ·have hnd:∀ s',(s'∈w.names↔fJ w.names s'=true):=fun s'=>px.symm
  unfold uP at hd;unfold jt;simp only;have h1:(w.names++(if dP=bT then [] else [dP])).Nodup:=by
   split
   ·simpa using W.Mt
   ·rename_i g;rw [mz];refine ⟨W.Mt,fun hm=>hd (.inl ⟨g,(hnd _).1 hm⟩)⟩
  split
  ·rename_i e;rw [mz];refine ⟨h1,fun hm=>?_⟩;rcases List.mem_append.1 hm with hm | hm
   ·exact hd (.inr ⟨e,.inl ((hnd _).1 hm)⟩)
   ·split at hm
    ·simp at hm
    ·exact hd (.inr ⟨e,.inr (by simpa using hm)⟩)
  ·exact h1
 ·intro g hg;unfold jt at hg;simp only at hg;split at hg
  ·rename_i e;rcases List.mem_append.1 hg with hg | hg
   ·exact W.aG g hg
   ·have:g=(t.name,n):=by simpa using hg
    rw [this];exact ok.name (.inr e)
  ·exact W.aG g hg
 ·unfold jt;simp only;split
  ·exact ok.sec
  ·exact hsec
 ·unfold jt;simp only
  have:=W.many
  split
  ·rw [List.length_append]; omega
  ·rw [List.length_append]; omega
theorem wY (s:ByteArray):∀ (l:List ByteArray) (x:ByteArray),x∈np s l↔x=s∨x∈l
 | [],x=>by simp [np]
 | t::l,x=>by
  unfold np;split
  ·simp
  ·split
   ·rename_i e;subst e
    simp
   ·rw [List.mem_cons,wY s l,List.mem_cons];constructor
    ·rintro (h | h | h)
     ·exact .inr (.inl h)
     ·exact .inl h
     ·exact .inr (.inr h)
    ·rintro (h | h | h)
     ·exact .inr (.inl h)
     ·exact .inl h
     ·exact .inr (.inr h)
theorem yS (s:ByteArray):∀ (l:List ByteArray),l.Pairwise kP→(np s l).Pairwise kP
 | [],_=>by simp [np]
 | t::l,h=>by
  obtain ⟨h1,h2⟩:=List.pairwise_cons.1 h;unfold np;split
  ·rename_i g;refine List.pairwise_cons.2 ⟨fun x hx=>?_,h⟩;rcases List.mem_cons.1 hx with rfl | hx
   ·exact g
   ·exact ji g (h1 x hx)
  ·rename_i g;split
   ·exact h
   ·rename_i e;have g2:kP t s:=by
     by_cases k:kP t s
     ·exact k
     ·exact absurd (rR s t g k) e
    refine List.pairwise_cons.2 ⟨fun x hx=>?_,yS s l h2⟩;rcases (wY s l x).1 hx with rfl | hx
    ·exact g2
    ·exact h1 x hx
theorem y8:∀ (l d:List ByteArray) (x:ByteArray),x∈l.foldl (fun d s=>np s d) d↔x∈l∨x∈d
 | [],d,x=>by simp
 | s::l,d,x=>by
  rw [List.foldl_cons,y8 l,wY,List.mem_cons];constructor
  ·rintro (h | h | h)
   ·exact .inl (.inr h)
   ·exact .inl (.inl h)
   ·exact .inr h
  ·rintro ((h | h) | h)
   ·exact .inr (.inl h)
   ·exact .inl h
   ·exact .inr (.inr h)
theorem tu (l:List ByteArray) (x:ByteArray):x∈cP l↔x∈l:=by unfold cP; rw [y8]; simp
theorem wR:∀ (l d:List ByteArray),d.Pairwise kP→(l.foldl (fun d s=>np s d) d).Pairwise kP
 | [],d,h=>h
 | s::l,d,h=>wR l _ (yS s d h)
theorem xC (l:List ByteArray):(cP l).Pairwise kP:=wR l [] List.Pairwise.nil
theorem EA:∀ (l:List ByteArray) (w w':eF) (n:Nat),(∀ s,s∈l→s.size≤2^20)→CE w→gF w n l=.ok w'→CE w'
 | [],w,w',n,_,W,h=>by
  simp only [gF] at h;injection h with h
  subst h;exact W
 | s::l,w,w',n,hs,W,h=>by
  simp only [gF] at h;split at h
  ·cases h
  ·rename_i w1 h1;exact EA l w1 w' (n+1) (fun x hx=>hs x (by simp [hx])) (Cb (hs s (by simp)) W h1) h
theorem uJ:∀ (f:Nat) (s:List UInt8) (N:Nat),s.length≤N→∀ l,l∈aX f s→l.length≤N
 | 0,s,N,_,l,h=>by simp [aX] at h
 | f+1,[],N,_,l,h=>by simp [aX] at h
 | f+1,c::s,N,hN,l,h=>by
  simp only [aX] at h;rcases List.mem_cons.1 h with rfl | h
  ·exact Nat.le_trans (List.IsPrefix.length_le (List.takeWhile_prefix _)) hN
  ·refine uJ f _ N ?_ l h;have h1:((c::s).dropWhile (fun x=>decide (x≠10))).length≤(c::s).length:=by
    have:=List.IsSuffix.length_le (List.dropWhile_suffix (l:=c::s) (fun x=>decide (x≠10)))
    exact this
   rw [List.length_drop];omega
theorem kD (src:ByteArray):∀ s,s∈gD src→s.size≤src.size:=by
 intro s hs;unfold gD at hs;obtain ⟨l,hl,rfl⟩:=List.mem_map.1 hs
 have:=uJ _ _ src.size (by simp) l hl
 show l.toArray.size≤_;simpa using this
def nl:UInt8→Bool:=fun c=>decide (c≠10)
theorem xW:∀ (l:List UInt8),(∀ x,x∈l→nl x=true)→l.takeWhile nl=l∧l.dropWhile nl=[]
 | [],_=>⟨rfl,rfl⟩
 | c::l,h=>by
  have:=xW l (fun x hx=>h x (by simp [hx]))
  rw [List.takeWhile_cons,List.dropWhile_cons,if_pos (h c (by simp)),if_pos (h c (by simp)),this.1];exact ⟨rfl,this.2⟩
theorem nJ (f:Nat) (c:UInt8) (s:List UInt8):aX (f+1) (c::s)=((c::s).takeWhile nl)::aX f (((c::s).dropWhile nl).drop 1):=rfl
theorem Ew (s:List UInt8):((s.dropWhile nl).drop 1).length≤s.length-1:=by
 have:=List.IsSuffix.length_le (List.dropWhile_suffix (l:=s) nl)
 rw [List.length_drop];omega
theorem ie:∀ (f:Nat) (s:List UInt8),(aX f s).length≤s.length
 | 0,s=>by simp [aX]
 | f+1,[]=>by simp [aX]
 | f+1,c::s=>by
  rw [nJ];have h1:=Ew (c::s)
  have:=ie f (((c::s).dropWhile nl).drop 1)
  simp only [List.length_cons] at *;omega
def er (t:Tok):Tok:={ t with at_:=0 }
def eR:cV→cV
 | .error e=>.error e
 | .ok (x,r)=>.ok (x,r.map er)
def mW (f:List Tok→cV):Prop:=∀ ts,f (ts.map er)=eR (f ts)
theorem qV (t:Tok) (c:UInt8):fT (er t) c=fT t c:=rfl
theorem CQ {o:Option (List Tok→cV)} (ho:∀ f,o=some f→mW f):mW (qP o):=by
 intro ts;cases ts with
 | nil=>rfl
 | cons t r =>
  simp only [List.map_cons,qP];rw [show (er t).kind=t.kind from rfl,show (er t).text=t.text from rfl,show (er t).num=t.num from rfl,qV]
  by_cases h1:t.kind=1
  ·rw [if_pos h1,if_pos h1]
   by_cases h2:(jc t.text.data.toList).2.2=true
   ·rw [if_pos h2,if_pos h2]; rfl
   ·rw [if_neg h2,if_neg h2]; rfl
  rw [if_neg h1,if_neg h1]
  by_cases h2:t.kind=2
  ·rw [if_pos h2,if_pos h2]; rfl
  rw [if_neg h2,if_neg h2]
  by_cases h3:fT t 40=true
  ·rw [if_pos h3,if_pos h3];cases o with
   | none=>rfl
   | some f =>
    simp only;rw [ho f rfl r];cases f r with
    | error e=>rfl
    | ok q =>
     obtain ⟨x,r'⟩:=q;cases r' with
     | nil=>rfl
     | cons t' r'' =>
      simp only [eR,List.map_cons];rw [qV]
      by_cases h4:fT t' 41=true
      ·rw [if_pos h4,if_pos h4]
      ·rw [if_neg h4,if_neg h4]
  ·rw [if_neg h3,if_neg h3]; rfl
theorem xt {o:Option (List Tok→cV)} (ho:∀ f,o=some f→mW f) (b:Bool):mW (yc o b):=by
 intro ts;unfold yc;rw [CQ ho ts];cases qP o ts with
 | error e=>rfl
 | ok q=>rfl
theorem qW {o:Option (List Tok→cV)} (ho:∀ f,o=some f→mW f):∀ (ts:List Tok) (b:Bool),vN o b (ts.map er)=eR (vN o b ts)
 | [],b=>xt ho b []
 | t::r,b=>by
  simp only [List.map_cons,vN];rw [qV];split
  ·exact qW ho r _
  ·exact xt ho b (t::r)
theorem pe {fac:List Tok→cV} (hf:mW fac):∀ (n:Nat) (x:fa) (r:List Tok),iB fac n x (r.map er)=eR (iB fac n x r)
 | 0,x,r=>rfl
 | n+1,x,[]=>rfl
 | n+1,x,t::r=>by
  simp only [List.map_cons,iB];rw [qV];split
  ·rw [hf r];cases fac r with
   | error e=>rfl
   | ok q =>
    obtain ⟨y,r''⟩:=q;simp only [eR];split
    ·rfl
    split
    ·exact pe hf n _ _
    ·exact pe hf n _ _
  ·rfl
theorem uk {fac:List Tok→cV} (hf:mW fac):mW (oP fac):=by
 intro ts;unfold oP;rw [hf ts];cases fac ts with
 | error e=>rfl
 | ok q =>
  obtain ⟨x,r⟩:=q;simp only [eR,List.length_map];exact pe hf _ _ _
theorem qO {part:List Tok→cV} (hf:mW part):∀ (n:Nat) (x:fa) (r:List Tok),kL part n x (r.map er)=eR (kL part n x r)
 | 0,x,r=>rfl
 | n+1,x,[]=>rfl
 | n+1,x,t::r=>by
  simp only [List.map_cons,kL];rw [qV,qV];split
  ·rw [hf r];cases part r with
   | error e=>rfl
   | ok q =>
    obtain ⟨y,r''⟩:=q;exact qO hf n _ _
  split
  ·rw [hf r];cases part r with
   | error e=>rfl
   | ok q =>
    obtain ⟨y,r''⟩:=q;exact qO hf n _ _
  ·rfl
theorem wL {part:List Tok→cV} (hf:mW part):mW (ly part):=by
 intro ts;unfold ly;rw [hf ts];cases part ts with
 | error e=>rfl
 | ok q =>
  obtain ⟨x,r⟩:=q;simp only [eR,List.length_map];exact qO hf _ _ _
theorem xX:∀ k,mW (nZ k)
 | 0=>wL (uk fun ts=>qW (o:=none) (fun f h=>by cases h) ts false)
 | k+1=>wL (uk fun ts=>qW (o:=some (nZ k)) (fun f h=>by cases h; exact xX k) ts false)
theorem lm (ts:List Tok):bY (ts.map er)=bY ts:=by
 unfold bY;rw [xX 32 ts];cases nZ 32 ts with
 | error e=>rfl
 | ok q =>
  obtain ⟨x,r⟩:=q;simp only [eR,List.map_eq_nil_iff]
theorem Jw (z:Bool) (ts:List Tok):nO z (ts.map er)=nO z ts:=by
 match ts with
 | []=>rfl
 | [t]=>rfl
 | t::u::r=>rfl
theorem J6 (ts:List Tok):nP (ts.map er)=nP ts:=by
 match ts with
 | []=>rfl
 | [t]=>rfl
 | t::u::r=>rfl
theorem AD (lo hi:Int) (ts:List Tok):iL lo hi (ts.map er)=iL lo hi ts:=by unfold iL; rw [lm]
theorem JJ (p:Bool) (ts:List Tok):rG p (ts.map er)=rG p ts:=by
 cases p with
 | false=>exact lm ts
 | true =>
  cases ts with
  | nil=>rfl
  | cons t r =>
   simp only [List.map_cons,rG];rw [qV,lm]
theorem Jd (x:bD) (r:DP) (ts:List Tok):dV x r (ts.map er)=dV x r ts:=by
 cases r with
 | vJ z s t=>simp only [dV,Jw]
 | JN lo hi=>simp only [dV,AD]
 | val p=>simp only [dV,JJ]
theorem Bk:∀ (rs:List DP) (args:List (List Tok)) (x:bD),ef x rs (args.map (·.map er))=ef x rs args
 | [],args,x=>by cases args <;> rfl
 | r::rs,[],x=>rfl
 | r::rs,a::args,x=>by
  simp only [List.map_cons,ef,Jd];cases dV x r a with
  | error e=>rfl
  | ok y=>exact Bk rs args y
theorem Hy (op:Int) (args:List (List Tok)):eN op (args.map (·.map er))=eN op args:=by unfold eN; rw [List.length_map,Bk]
theorem GH (k:Nat) (ts:List Tok):jI k (ts.map er)=jI k ts:=by unfold jI; rw [AD,lm]
theorem yK (k:Nat):∀ args:List (List Tok),cQ k (args.map (·.map er))=cQ k args
 | []=>rfl
 | a::args=>by simp only [List.map_cons,cQ,GH,yK k args]
theorem Mb (args:List (List Tok)) (i:Nat):ag (args.map (·.map er)) i=(ag args i).map er:=by
 unfold ag;rw [List.getD_eq_getElem?_getD,List.getD_eq_getElem?_getD,List.getElem?_map]
 all_goals (cases args[i]? <;> rfl)
theorem JB (op:ByteArray) (args:List (List Tok)):gG op (args.map (·.map er))=gG op args:=by
 unfold gG;simp only [List.length_map,Mb,AD,J6,lm,yK,List.map_eq_nil_iff];generalize ag args 0=a
 match a with
 | []=>rfl
 | [t]=>rfl
 | t::u::r=>rfl
theorem BO (dP op:ByteArray) (args:List (List Tok)) (d:Bool):dQ ⟨dP,op,args.map (·.map er)⟩ d=dQ ⟨dP,op,args⟩ d:=by
 unfold dQ;simp only [Hy,JB]
end Go.Sx.Ob
set_option linter.unusedVariables false
set_option linter.unusedSimpArgs false
set_option maxRecDepth 100000
namespace Go.Sx
open Go.Proofs
inductive Wr (s:ByteArray):Nat→Nat→Prop where
 | here (k:Nat):k≤s.size→oW (s.data.toList.drop (k+aV (s.data.toList.drop k) aP))=.cK→Wr s k (k+aV (s.data.toList.drop k) aP)
 | tok (k kind n m a:Nat):k≤s.size→oW (s.data.toList.drop (k+aV (s.data.toList.drop k) aP))=.tok kind n m→Wr s (k+aV (s.data.toList.drop k) aP+n) a→Wr s k a
theorem D8 {s:ByteArray} {k a:Nat} (h:Wr s k a):∀ (f:Nat) (acc:List Tok),s.size-k<f→kh s f k acc=([],a,20):=by
 have hsz:s.data.toList.length=s.size:=by simp
 induction h with
 | here k hk hD =>
  intro f acc hf;obtain ⟨f,rfl⟩:∃ f',f=f'+1:=⟨f-1,by omega⟩
  have hst:=gr hk;rw [hD] at hst;exact rz hst
 | tok k kind n m a hk hD hc ih =>
  intro f acc hf;obtain ⟨f,rfl⟩:∃ f',f=f'+1:=⟨f-1,by omega⟩
  have hst:=gr hk;rw [hD] at hst;obtain ⟨h1,h2⟩:=oi hD;have ha:=om hk;rw [List.length_drop] at h2;rw [oK hst,ih f _ (by omega)]
theorem Er {s:ByteArray}:∀ (f k:Nat) (acc:List Tok),k≤s.size→s.size-k<f→(∃ ts,iY s k ts)∨∃ a,Wr s k a
 | 0,k,acc,hk,hf=>by omega
 | f+1,k,acc,hk,hf=>by
  have ha:=om hk;have hsz:s.data.toList.length=s.size:=by simp
  cases hD:oW (s.data.toList.drop (k+aV (s.data.toList.drop k) aP)) with
  | stop=>exact .inl ⟨_,.stop k hk hD⟩
  | cK=>exact .inr ⟨_,.here k hk hD⟩
  | tok kind n m =>
   obtain ⟨h1,h2⟩:=oi hD;rw [List.length_drop] at h2;rcases Er (s:=s) f (k+aV (s.data.toList.drop k) aP+n) [] (by omega) (by omega) with ⟨ts,hc⟩ | ⟨a,hw⟩
   ·exact .inl ⟨_,.tok k kind n m ts hk hD hc⟩
   ·exact .inr ⟨a,.tok k kind n m a hk hD hw⟩
theorem I1 (s:ByteArray):(∃ ts,iY s 0 ts∧eC s=(ts,0,0))∨∃ a,Wr s 0 a∧eC s=([],a,20):=by
 rcases Er (s:=s) (s.size+1) 0 [] (by omega) (by omega) with ⟨ts,hc⟩ | ⟨a,hw⟩
 ·exact .inl ⟨ts,hc,wV hc⟩
 ·exact .inr ⟨a,hw,D8 hw _ _ (by omega)⟩
def sh (n:Nat) (t:Tok):Tok:=⟨t.kind,t.text,t.num,t.at_+n⟩
theorem xk {s s':ByteArray} {P:List UInt8} (hs':s'.data.toList=P++s.data.toList) (k:Nat):s'.data.toList.drop (k+P.length)=s.data.toList.drop k:=by
 rw [hs',Nat.add_comm,← List.drop_drop,List.drop_left]
theorem BF {s s':ByteArray} {P:List UInt8} (hs':s'.data.toList=P++s.data.toList) {k:Nat} {ts:List Tok} (h:iY s k ts):iY s' (k+P.length) (ts.map (sh P.length)):=by
 have hd:=xk hs';have hsz':s'.size=s.size+P.length:=by
  have:=congrArg List.length hs'
  simp at this; omega
 induction h with
 | stop k hk hD =>
  refine .stop _ (by omega) ?_;rw [hd,show k+P.length+aV (s.data.toList.drop k) aP=k+aV (s.data.toList.drop k) aP+P.length by omega,hd];exact hD
 | tok k kind n m ts hk hD hc ih =>
  have e1:k+P.length+aV (s'.data.toList.drop (k+P.length)) aP=k+aV (s.data.toList.drop k) aP+P.length:=by rw [hd]; omega
  have:=iY.tok (s:=s') (k+P.length) kind n m (ts.map (sh P.length)) (by omega) (by rw [e1,hd]; exact hD) (by rw [e1,show k+aV (s.data.toList.drop k) aP+P.length+n=k+aV (s.data.toList.drop k) aP+n+P.length by omega]; exact ih)
  rw [e1] at this;have e2:s'.extract (k+aV (s.data.toList.drop k) aP+P.length) (k+aV (s.data.toList.drop k) aP+P.length+n)=s.extract (k+aV (s.data.toList.drop k) aP) (k+aV (s.data.toList.drop k) aP+n):=by
   refine mh ?_;rw [iH,iH,hd]
   congr 1
   omega
  rw [e2] at this;exact this
theorem Gs {s s':ByteArray} {P:List UInt8} (hs':s'.data.toList=P++s.data.toList) {k a:Nat} (h:Wr s k a):Wr s' (k+P.length) (a+P.length):=by
 have hd:=xk hs';have hsz':s'.size=s.size+P.length:=by
  have:=congrArg List.length hs'
  simp at this; omega
 induction h with
 | here k hk hD =>
  have e1:k+P.length+aV (s'.data.toList.drop (k+P.length)) aP=k+aV (s.data.toList.drop k) aP+P.length:=by rw [hd]; omega
  have:=Wr.here (s:=s') (k+P.length) (by omega) (by rw [e1,hd]; exact hD)
  rw [e1] at this;exact this
 | tok k kind n m a hk hD hc ih =>
  have e1:k+P.length+aV (s'.data.toList.drop (k+P.length)) aP=k+aV (s.data.toList.drop k) aP+P.length:=by rw [hd]; omega
  exact Wr.tok (k+P.length) kind n m _ (by omega) (by rw [e1,hd]; exact hD) (by rw [e1,show k+aV (s.data.toList.drop k) aP+P.length+n=k+aV (s.data.toList.drop k) aP+n+P.length by omega]; exact ih)
theorem Ac {s:ByteArray} {k:Nat} {ts:List Tok} (hk:k≤s.size) (hb:aV s.data.toList aP=k+aV (s.data.toList.drop k) aP) (h:iY s k ts):iY s 0 ts:=by
 have e:0+aV (s.data.toList.drop 0) aP=k+aV (s.data.toList.drop k) aP:=by rw [List.drop_zero,hb,Nat.zero_add]
 cases h with
 | stop _ _ hD=>exact .stop 0 (by omega) (by rw [e]; exact hD)
 | tok _ kind n m ts _ hD hc =>
  have:=iY.tok (s:=s) 0 kind n m ts (by omega) (by rw [e]; exact hD) (by rw [e]; exact hc)
  rw [e] at this;exact this
theorem Fu {s:ByteArray} {k a:Nat} (hk:k≤s.size) (hb:aV s.data.toList aP=k+aV (s.data.toList.drop k) aP) (h:Wr s k a):Wr s 0 a:=by
 have e:0+aV (s.data.toList.drop 0) aP=k+aV (s.data.toList.drop k) aP:=by rw [List.drop_zero,hb,Nat.zero_add]
 cases h with
 | here _ _ hD =>
  have:=Wr.here (s:=s) 0 (by omega) (by rw [e]; exact hD)
  rw [e] at this;exact this
 | tok _ kind n m _ _ hD hc=>exact Wr.tok (s:=s) 0 kind n m a (by omega) (by rw [e]; exact hD) (by rw [e]; exact hc)
theorem wO (d n n':Nat):∀ (ts:List Tok) (done:List (List Tok)) (cd:List Tok),
  (∃ r,ec n ts done cd=.ok r∧ec n' (ts.map (sh d)) (done.map (List.map (sh d))) (cd.map (sh d))=.ok (r.map (List.map (sh d)))) ∨
  ∃ a a',ec n ts done cd=.error a∧ec n' (ts.map (sh d)) (done.map (List.map (sh d))) (cd.map (sh d))=.error a'∧(a'=a+d∨(a=n∧a'=n'))
 | [],done,cd=>by
  simp only [List.map_nil,ec,List.map_eq_nil_iff]
  by_cases h:cd=[]
  ·rw [if_pos h,if_pos h];exact .inr ⟨_,_,rfl,rfl,.inr ⟨rfl,rfl⟩⟩
  ·rw [if_neg h,if_neg h];exact .inl ⟨_,rfl,by simp⟩
 | t::ts,done,cd=>by
  have hdec:decide (cd.map (sh d)=[])=decide (cd=[]):=by simp
  simp only [List.map_cons,ec]
  by_cases h1:(fT t 58 || (fT t 44 && decide (cd=[])))=true
  ·rw [if_pos h1,if_pos (show (fT (sh d t) 58 || (fT (sh d t) 44 && decide (cd.map (sh d)=[])))=true by rw [hdec]; exact h1)];exact .inr ⟨_,_,rfl,rfl,.inl rfl⟩
  ·rw [if_neg h1,if_neg (show ¬ (fT (sh d t) 58 || (fT (sh d t) 44 && decide (cd.map (sh d)=[])))=true by rw [hdec]; exact h1)]
   by_cases h2:fT t 44=true
   ·rw [if_pos h2,if_pos (show fT (sh d t) 44=true from h2)]
    have:=wO d n n' ts (done++[cd]) []
    simpa using this
   ·rw [if_neg h2,if_neg (show ¬ fT (sh d t) 44=true from h2)]
    have:=wO d n n' ts done (cd++[t])
    simpa using this
def Ag (d n n':Nat) (r r':Ln × Nat × Nat):Prop :=
 (r.2.2=0∧r'.2.2=0∧r'.1.label=r.1.label∧r'.1.op=r.1.op∧r'.1.args=r.1.args.map (List.map (sh d)))∨(r.2.2=20∧r'.2.2=20∧(r'.2.1=r.2.1+d∨(r.2.1=n∧r'.2.1=n')))
theorem za (d n n':Nat) (lb:ByteArray) (us:List Tok):Ag d n n' (bV n lb us) (bV n' lb (us.map (sh d))):=by
 cases us with
 | nil=>exact .inl ⟨rfl,rfl,rfl,rfl,rfl⟩
 | cons t us =>
  simp only [List.map_cons,bV]
  by_cases h:t.kind≠1
  ·rw [if_pos h,if_pos (show (sh d t).kind≠1 from h)];exact .inr ⟨rfl,rfl,.inl rfl⟩
  ·rw [if_neg h,if_neg (show ¬ (sh d t).kind≠1 from h)];have hA:(∃ r,fj n us=.ok r∧fj n' (us.map (sh d))=.ok (r.map (List.map (sh d))))∨∃ a a',fj n us=.error a∧fj n' (us.map (sh d))=.error a'∧(a'=a+d∨(a=n∧a'=n')):=by
    unfold fj;simp only [List.map_eq_nil_iff]
    by_cases h2:us=[]
    ·rw [if_pos h2,if_pos h2];exact .inl ⟨_,rfl,rfl⟩
    ·rw [if_neg h2,if_neg h2]
     have:=wO d n n' us [] []
     simpa using this
   rcases hA with ⟨r,h1,h2⟩ | ⟨a,a',h1,h2,h3⟩
   ·rw [h1,h2];exact .inl ⟨rfl,rfl,rfl,rfl,rfl⟩
   ·rw [h1,h2];exact .inr ⟨rfl,rfl,h3⟩
theorem FN (d n n':Nat) (ts:List Tok):Ag d n n' (fe n ts) (fe n' (ts.map (sh d))):=by
 have hlab:Bo (ts.map (sh d))=Bo ts:=by
  match ts with
  | []=>rfl
  | [_]=>rfl
  | t::u::r=>rfl
 unfold fe;rw [hlab]
 by_cases h:Bo ts=true
 ·rw [if_pos h,if_pos h];have e1:(ts.map (sh d)).drop 2=(ts.drop 2).map (sh d):=by rw [List.map_drop]
  have e2:(((ts.map (sh d)).head?).map (·.text)).getD ⟨#[]⟩=((ts.head?).map (·.text)).getD ⟨#[]⟩:=by
   all_goals (cases ts <;> rfl)
  rw [e1,e2];exact za d n n' _ _
 ·rw [if_neg h,if_neg h];exact za d n n' _ _
theorem AL {P:List UInt8} (hP:aV P aP=P.length) {s s':ByteArray} (hs':s'.data.toList=P++s.data.toList):Ag P.length s.size s'.size (aN s) (aN s'):=by
 have hsz':P.length≤s'.size:=by
  have:=congrArg List.length hs'
  simp at this; omega
 have hbl:aV s'.data.toList aP=P.length+aV (s'.data.toList.drop P.length) aP:=by
  rw [hs',List.drop_left];exact vk (D:=P) hP
 rcases I1 s with ⟨ts,hc,he⟩ | ⟨a,hw,he⟩
 ·have hc':=Ac hsz' hbl (by simpa using BF (P:=P) hs' hc);have he':=wV hc';have h1:aN s=fe s.size ts:=by unfold aN; rw [he]; rfl
  have h2:aN s'=fe s'.size (ts.map (sh P.length)):=by unfold aN; rw [he']; rfl
  rw [h1,h2];exact FN P.length _ _ ts
 ·have hw':=Fu hsz' hbl (by simpa using Gs (P:=P) hs' hw);have he':eC s'=([],a+P.length,20):=D8 hw' _ _ (by omega);have h1:aN s=(ir,a,20):=by unfold aN; rw [he]; rfl
  have h2:aN s'=(ir,a+P.length,20):=by unfold aN; rw [he']; rfl
  rw [h1,h2];exact .inr ⟨rfl,rfl,.inl rfl⟩
end Go.Sx
set_option linter.unusedVariables false
set_option linter.unusedSimpArgs false
set_option maxRecDepth 100000
namespace Go.Sx.Ob
open Go.Proofs
structure Ek (w v:eF):Prop where
 text:v.text=w.text
 data:v.data=w.data
 aQ:v.aQ=w.aQ
 names:v.names=w.names
 aG:v.aG.map (·.1)=w.aG.map (·.1)
 sec:v.sec=w.sec
theorem Ek.kR (w:eF):Ek w w:=⟨rfl,rfl,rfl,rfl,rfl,rfl⟩
theorem Ek.trans {a b c:eF} (h:Ek a b) (k:Ek b c):Ek a c:=⟨k.text.trans h.text,k.data.trans h.data,k.aQ.trans h.aQ,k.names.trans h.names,k.aG.trans h.aG,k.sec.trans h.sec⟩
theorem GW {w v:eF} (e:Ek w v) (n n':Nat) (dP:ByteArray) (t:kV):Ek (jt w n dP t) (jt v n' dP t):=by
 unfold jt;simp only [e.text,e.data,e.aQ,e.names,e.sec];refine ⟨rfl,rfl,rfl,rfl,?_,rfl⟩;simp only;split
 ·rw [List.map_append,List.map_append,e.aG]; rfl
 ·exact e.aG
theorem EG {w v w1:eF} (e:Ek w v) {n n' d a b:Nat} {s s':ByteArray} (sp:Ag d a b (aN s) (aN s')) (h:ew w n s=.ok w1):∃ v1,ew v n' s'=.ok v1∧Ek w1 v1:=by
 unfold ew at h;split at h
 ·cases h
 rename_i h0;rcases sp with ⟨p1,p2,p3,p4,p5⟩ | ⟨p1,_,_⟩
 ·have hr:∀ dd,dQ (aN s').1 dd=dQ (aN s).1 dd:=by
   intro dd;generalize (aN s').1=q at *;generalize (aN s).1=q0 at *;obtain ⟨l1,o1,a1⟩:=q;obtain ⟨l2,o2,a2⟩:=q0;simp only at p3 p4 p5;subst p3 p4 p5;have h1:=BO l1 o1 (a2.map (List.map (sh d))) dd;have h2:=BO l1 o1 a2 dd;rw [← h1,← h2]
   congr 2
   rw [List.map_map];apply List.map_congr_left;intro x _;show (x.map (sh d)).map er=x.map er;rw [List.map_map];rfl
  unfold ew;rw [if_neg (by omega),p3,hr,e.sec];split at h
  ·cases h
  rename_i hl;rw [if_neg hl];split at h
  ·cases h
  rename_i t ht;split at h
  ·cases h
  rename_i hd;have hd':¬ uP v (aN s).1.label t:=by
   unfold uP at hd ⊢;rw [e.names];exact hd
  rw [if_neg hd',e.text,e.data];split at h
  ·cases h
  rename_i hm;rw [if_neg hm];injection h with h
  subst h;exact ⟨_,rfl,GW e n n' _ t⟩
 ·omega
theorem Ir:aN ⟨#[]⟩=(⟨bT,bT,[]⟩,0,0):=by kernel_rfl
theorem Fq (w:eF) (n:Nat) (hm:w.text.length+w.data.length≤8192):∃ w1,ew w n ⟨#[]⟩=.ok w1∧Ek w w1:=by
 unfold ew;rw [Ir];have hr:∀ d,dQ ⟨bT,bT,[]⟩ d=.ok bM:=fun d=>by unfold dQ; rw [if_pos rfl]
 simp only [hr];rw [if_neg (by decide),if_neg (by simp),if_neg (by unfold uP; simp [bM])];have hi:kg bT bM=[]:=by simp [kg,bM]
 rw [hi,if_neg (by simp; omega)];refine ⟨_,rfl,?_⟩;unfold jt;rw [hi];constructor <;> simp [bM]
theorem Ai:∀ (f:Nat) (x y:List UInt8),(∀ c,c∈x→nl c=true)→aX (f+1) (x++10::y)=x::aX f y:=by
 intro f x y hx;have h1:(x++10::y).takeWhile nl=x:=by
  rw [List.takeWhile_append,(xW x hx).1,if_pos rfl];simp [nl]
 have h2:(x++10::y).dropWhile nl=10::y:=by
  rw [List.dropWhile_append,(xW x hx).2];simp [nl]
 cases hq:x++10::y with
 | nil=>simp at hq
 | cons a l =>
  rw [nJ,← hq,h1,h2];rfl
theorem uB (f:Nat) (x:List UInt8) (hx:∀ c,c∈x→nl c=true) (hn:x≠[]):aX (f+1) x=[x]:=by
 cases x with
 | nil=>exact absurd rfl hn
 | cons a l =>
  rw [nJ,(xW _ hx).1,(xW _ hx).2]
  all_goals (cases f <;> rfl)
def AB (b:List UInt8) (s:List UInt8):List UInt8:=s.flatMap fun c=>if c=10 then 32::59::(b++[10,10,9,32]) else [c]
theorem D3:∀ (s:List UInt8),(∀ c,c∈s→nl c=true)∨∃ l r,s=l++10::r∧∀ c,c∈l→nl c=true
 | []=>.inl (by simp)
 | c::s=>by
  by_cases hc:c=10
  ·exact .inr ⟨[],s,by rw [hc]; rfl,by simp⟩
  ·rcases D3 s with h | ⟨l,r,h1,h2⟩
   ·refine .inl fun x hx=>?_
    rcases List.mem_cons.1 hx with rfl | hx
    ·simp [nl,hc]
    ·exact h x hx
   ·refine .inr ⟨c::l,r,by rw [h1]; rfl,fun x hx=>?_⟩;rcases List.mem_cons.1 hx with rfl | hx
    ·simp [nl,hc]
    ·exact h2 x hx
def ba (l:List UInt8):ByteArray:=⟨l.toArray⟩
def KZ (w:eF) (n:Nat) (f:Nat) (s:List UInt8):Except (Nat × Nat) eF:=gF w n ((aX f s).map ba)
theorem base {b:List UInt8} (w v w':eF) (n n' f g:Nat) (P:List UInt8) (hg:P.length+(AB b []).length<g) (hP:P=[]∨P=[9,32]) (e:Ek w v) (W:CE w) (h:KZ w n f []=.ok w'):∃ v',KZ v n' g (P++AB b [])=.ok v'∧Ek w' v':=by
 have hl:∀ k,aX k []=[]:=fun k=>by cases k <;> rfl
 unfold KZ at h ⊢;rw [hl] at h;simp only [List.map_nil,gF] at h;injection h with h
 subst h;have hs:AB b []=[]:=rfl;rw [hs,List.append_nil];rcases hP with rfl | rfl
 ·rw [hl];exact ⟨v,rfl,e⟩
 ·obtain ⟨g,rfl⟩:∃ k,g=k+1:=⟨g-1,by omega⟩
  rw [uB g [9,32] (by decide) (by simp)];simp only [List.map_cons,List.map_nil,gF];obtain ⟨v0,hv0,ev0⟩:=Fq v n' (by rw [e.text,e.data]; exact W.many);obtain ⟨v1,hv,ev⟩:=EG (n':=n') (Ek.kR v) (AL (P:=[9,32]) (by decide) (s:=⟨#[]⟩) (s':=ba [9,32]) rfl) hv0;rw [hv];exact ⟨v1,rfl,(e.trans ev0).trans ev⟩
theorem BT:∀ (l:List ByteArray) (w:eF) (n:Nat) (q:Nat × Nat),gF w n l=.error q→n≤q.1∧q.1<n+l.length
 | [],w,n,q,h=>by simp [gF] at h
 | s::l,w,n,q,h=>by
  simp only [gF] at h;split at h
  ·injection h with h
   subst h
   simp
  ·have:=BT l _ (n+1) q h
   rw [List.length_cons];omega
theorem CA {w w':eF} {n:Nat} {s:ByteArray} (h:ew w n s=.ok w'):∀ g,g∈w'.aG→g∈w.aG∨g.2=n:=by
 unfold ew at h;split at h
 ·cases h
 split at h
 ·cases h
 split at h
 ·cases h
 split at h
 ·cases h
 split at h
 ·cases h
 injection h with h
 subst h;intro g hg;unfold jt at hg;simp only at hg;split at hg
 ·rcases List.mem_append.1 hg with hg | hg
  ·exact .inl hg
  ·have:=List.mem_singleton.1 hg
   subst this;exact .inr rfl
 ·exact .inl hg
theorem vP:∀ (l:List ByteArray) (w w':eF) (n:Nat),gF w n l=.ok w'→∀ g,g∈w'.aG→g∈w.aG∨(n≤g.2∧g.2<n+l.length)
 | [],w,w',n,h,g,hg=>by
  simp only [gF] at h;injection h with h
  subst h;exact .inl hg
 | s::l,w,w',n,h,g,hg=>by
  simp only [gF] at h;split at h
  ·cases h
  ·rename_i w1 h1;rw [List.length_cons];rcases vP l w1 w' (n+1) h g hg with k | k
   ·rcases CA h1 g k with k | k
    ·exact .inl k
    ·exact .inr (by omega)
   ·exact .inr (by omega)
/-! The document goes on behind a refused line. -/
theorem Nt:Tryz.prog.underlying 24=some (.slice 99):=by kernel_rfl
def Ny:List Value:=[.string ⟨#[]⟩,.slice none 0 0,.int .u32 (0:Int)]
theorem Nk:(Tryz.prog.info? 99).map (fun i=>(i.zero,i.size,i.bytes))=some (some (.agg Ny.toArray),3,48):=by kernel_rfl
theorem My (s:ByteArray) (p:Option Addr) (l c:Nat) (n:Int):Instr.fill (fun j=>some (j*3,3)) ((Array.range (1*3)).map ((Value.agg Ny.toArray).cells[· % (Value.agg Ny.toArray).cells.size]!)) [(0,.agg #[.string s,.slice p l c,.int .u32 n])]=some #[.string s,.slice p l c,.int .u32 n]:=by kernel_rfl
theorem Nu:Tryz.prog.underlying 71=some (.slice 76):=by kernel_rfl
theorem M1:(Tryz.prog.info? 76).map (fun i=>(i.zero,i.size,i.bytes))=some (some (.agg #[.string ⟨#[]⟩,.int .i64 (0:Int)]),2,24):=by kernel_rfl
theorem LZ (s:ByteArray) (n:Int):Instr.fill (fun j=>some (j*2,2)) ((Array.range (1*2)).map ((Value.agg #[.string ⟨#[]⟩,.int .i64 (0:Int)]).cells[· % (Value.agg #[.string ⟨#[]⟩,.int .i64 (0:Int)]).cells.size]!)) [(0,.agg #[.string s,.int .i64 n])]=some #[.string s,.int .i64 n]:=by kernel_rfl
section
variable {P:Program} {h:Hp} {K:Value→Hp→Prop}
theorem zq {t ty e:TypeId} {i:TypeInfo} {z:Value} (ht:P.underlying t=some (.slice e)) (hi:P.info? e=some i) (hz:i.zero=some z) (hzs:z.cells.size=i.size)
  {b b':Nat} {p q:Option Addr} {l c m cc:Nat} {xs ys:List (List Value)} (s:SL h b e i.size p l c xs) (s':SL h b' e i.size q m cc ys) (hp:ys.flatten.all dA=true) (hby:(2*(l+m)+1024)*i.bytes≤2^48) (hl:l+m≤2^48) (hb:b≤h.size)
  (hk:∀ p' c' h',SL h' b e i.size p' (l+m) c' (xs++ys)→Ch (az p) h h'→(p'=p∨∃ a,p'=some a∧h.size≤a.block)→K (.slice p' (l+m) c') h') :
  aJ P (Builtin.append_ #[t,t] ty #[.slice p l c,.slice q m cc]) h K:=by
 cases q with
 | some a =>
  refine fL (ys:=ys) ht hi hz hzs s s'.1 s'.2.1 ?_ hp hby hl hb hk;obtain ⟨g,pre,rest,rfl,hbg,hlc,hbox,hr⟩:=s'.2.2;refine hbox.cells _ ?_;rw [List.drop_left,List.take_left]
 | none =>
  have h1:ys=[]:=s'.2.2.2;have h2:m=0:=by rw [s'.1,h1]; rfl
  subst h1 h2;have hroom:l+0≤c:=by
   cases p with
   | none =>
    have h3:c=0:=s.2.2.1;have h4:xs=[]:=s.2.2.2;have h5:l=0:=by rw [s.1,h4]; rfl
    omega
   | some a =>
    obtain ⟨g,pre,rest,rfl,hbg,hlc,hbox,hr⟩:=s.2.2;omega
  simp only [Nat.add_zero] at hroom;have hk:=hk p c h (by rw [List.append_nil]; exact s) (Ch.refl _ _) (.inl rfl);cases p with
  | none =>
   have h3:c=0:=s.2.2.1;have h4:xs=[]:=s.2.2.2;have h5:l=0:=by rw [s.1,h4]; rfl
   subst h3 h5;simp [Builtin.append_,ak,ay ht,aT hi,bJ hi,Builtin.lenOf,Builtin.firstCells];exact hk
  | some a =>
   simp [Builtin.append_,ak,ay ht,aT hi,bJ hi,Builtin.lenOf,Builtin.firstCells,hroom];exact hk
end
theorem xe {α:Type} (f:α→List Value) (hf:∀ x,(f x).all dA=true) (l:List α):(l.map f).flatten.all dA=true:=by
 rw [List.all_flatten,List.all_map];exact List.all_eq_true.2 fun x _=>hf x
theorem vX (u:bE × bD):(yf u).all dA=true:=rfl
def M7 (u:bE × kl):List Value:=rQ u.1.p u.1.l u.1.c u.2
def No (g:ByteArray × Nat):List Value:=[.string g.1,.int .i64 (g.2:Int)]
structure Core (h:Hp) (b:Nat) (tx dx:List bD) (ex:List kl) (t d e:bE) (ut ud:List (bE × bD)) (ue:List (bE × kl)) (ow:Nat→Nat):Prop where
 t1:SL h b 96 10 t.p t.l t.c (ut.map yf)
 t2:∀ u,u∈ut→SL h b 109 2 u.1.p u.1.l u.1.c (u.2.e.aC.map cj)
 t3:ut.map (·.2)=tx
 d1:SL h b 96 10 d.p d.l d.c (ud.map yf)
 d2:∀ u,u∈ud→SL h b 109 2 u.1.p u.1.l u.1.c (u.2.e.aC.map cj)
 d3:ud.map (·.2)=dx
 e1:SL h b 99 3 e.p e.l e.c (ue.map M7)
 e2:∀ u,u∈ue→SL h b 109 2 u.1.p u.1.l u.1.c (u.2.2.aC.map cj)
 e3:ue.map (·.2)=ex
 o3:∀ i,i∈az t.p→ow i=3
 o4:∀ i,i∈az d.p→ow i=4
 o5:∀ i,i∈az e.p→ow i=5
 ot:∀ u,u∈ut→∀ i,i∈az u.1.p→ow i=0
 od:∀ u,u∈ud→∀ i,i∈az u.1.p→ow i=0
 oe:∀ u,u∈ue→∀ i,i∈az u.1.p→ow i=0
section
variable {h h':Hp} {b:Nat} {tx dx:List bD} {ex:List kl} {t d e:bE} {ut ud:List (bE × bD)} {ue:List (bE × kl)} {ow:Nat→Nat}
theorem Core.nil (h:Hp) (b:Nat) (ow:Nat→Nat):Core h b [] [] [] fV fV fV [] [] [] ow :=
 ⟨SL.nil _ _ _ _,by simp,rfl,SL.nil _ _ _ _,by simp,rfl,SL.nil _ _ _ _,by simp,rfl,by simp [fV,az],by simp [fV,az],by simp [fV,az],by simp,by simp,by simp⟩
theorem SL.cJ {ws:List Nat} {e':TypeId} {sz:Nat} {p:Option Addr} {l c:Nat} {xs:List (List Value)} (s:SL h b e' sz p l c xs) (k:Ch ws h h') {k0:Nat} (ho:∀ i,i∈az p→ow i=k0) (hw:∀ i,i∈ws→i<h.size→b≤i→ow i≠k0):SL h' b e' sz p l c xs :=
 Sx.SL.aO s k fun i hi hm=>by
  have h1:=Sx.SL.bR s hi;exact hw i hm h1.2 h1.1 (ho i hi)
theorem Core.af {ws:List Nat} (C:Core h b tx dx ex t d e ut ud ue ow) (k:Ch ws h h') (hw:∀ i,i∈ws→i<h.size→b≤i→6≤ow i):Core h' b tx dx ex t d e ut ud ue ow:=by
 have n:∀ k0,k0<6→∀ i,i∈ws→i<h.size→b≤i→ow i≠k0:=fun k0 hk i h1 h2 h3=>by have:=hw i h1 h2 h3; omega
 exact ⟨SL.cJ C.t1 k C.o3 (n 3 (by omega)),fun u hu=>SL.cJ (C.t2 u hu) k (C.ot u hu) (n 0 (by omega)),C.t3,
  SL.cJ C.d1 k C.o4 (n 4 (by omega)),fun u hu=>SL.cJ (C.d2 u hu) k (C.od u hu) (n 0 (by omega)),C.d3,
  SL.cJ C.e1 k C.o5 (n 5 (by omega)),fun u hu=>SL.cJ (C.e2 u hu) k (C.oe u hu) (n 0 (by omega)),C.e3,C.o3,C.o4,C.o5,C.ot,C.od,C.oe⟩
theorem Core.relabel (C:Core h b tx dx ex t d e ut ud ue ow) {ow':Nat→Nat} (ho:∀ i,i<h.size→ow' i=ow i):Core h b tx dx ex t d e ut ud ue ow' :=
 ⟨C.t1,C.t2,C.t3,C.d1,C.d2,C.d3,C.e1,C.e2,C.e3,fun i hi=>(ho i (Sx.SL.bR C.t1 hi).2).trans (C.o3 i hi),fun i hi=>(ho i (Sx.SL.bR C.d1 hi).2).trans (C.o4 i hi),fun i hi=>(ho i (Sx.SL.bR C.e1 hi).2).trans (C.o5 i hi),
  fun u hu i hi=>(ho i (Sx.SL.bR (C.t2 u hu) hi).2).trans (C.ot u hu i hi),fun u hu i hi=>(ho i (Sx.SL.bR (C.d2 u hu) hi).2).trans (C.od u hu i hi),fun u hu i hi=>(ho i (Sx.SL.bR (C.e2 u hu) hi).2).trans (C.oe u hu i hi)⟩
def dP (n k:Nat) (ow:Nat→Nat):Nat→Nat:=fun i=>if i<n then ow i else k
theorem cG {n k:Nat} {ow:Nat→Nat} {i:Nat} (hi:i<n):dP n k ow i=ow i:=if_pos hi
theorem vG {n k:Nat} {ow:Nat→Nat} {i:Nat} (hi:n≤i):dP n k ow i=k:=if_neg (by omega)
theorem vF {p p':Option Addr} {n k:Nat} {ow:Nat→Nat} (ho:∀ i,i∈az p→ow i=k) (hl:∀ i,i∈az p→i<n) (hp:p'=p∨∃ a,p'=some a∧n≤a.block):∀ i,i∈az p'→dP n k ow i=k:=by
 intro i hi;rcases hp with rfl | ⟨a,rfl,ha⟩
 ·rw [cG (hl i hi)];exact ho i hi
 ·simp [az] at hi;exact vG (by omega)
variable {L:Lp} {K:Value→Hp→Prop}
theorem Core.NH (C:Core h b tx dx ex t d e ut ud ue ow) (hb:b≤h.size) {b':Nat} {s:bE} {us:List (bE × bD)} (hs:SL h b' 96 10 s.p s.l s.c (us.map yf)) (hu:∀ u,u∈us→SL h b 109 2 u.1.p u.1.l u.1.c (u.2.e.aC.map cj)) (ho:∀ u,u∈us→∀ i,i∈az u.1.p→ow i=0)
  (hm:t.l+s.l≤2^30) {k:Option Addr→Nat→Nat→T}
  (hk:∀ (t':bE) h',Core h' b (tx++us.map (·.2)) dx ex t' d e (ut++us) ud ue (dP h.size 3 ow)→Ch (az t.p) h h'→t'.l=t.l+s.l→k t'.p t'.l t'.c L K h') :
  T.aS Tryz.prog (Builtin.append_ #[23,23] 23 #[.slice t.p t.l t.c,.slice s.p s.l s.c]) false [(false,[.slice 0])] k L K h:=by
 obtain ⟨i,hi,hz,h1,h2⟩:=fF En;refine bN ?_;have t1:=C.t1;rw [← h1] at t1 hs;refine zq Je hi hz (by rw [h1]; rfl) t1 hs (xe _ vX _) (by rw [h2]; omega) (by omega) hb ?_;intro p' c' h' s' k' hp';have old:∀ {p:Option Addr} {k0:Nat},(∀ i,i∈az p→i<h.size)→(∀ i,i∈az p→ow i=k0)→∀ i,i∈az p→dP h.size 3 ow i=k0:=fun hl ho i hi=>(cG (hl i hi)).trans (ho i hi)
 have n:∀ k0,k0≠3→∀ i,i∈az t.p→i<h.size→b≤i→ow i≠k0:=fun k0 hk i h1 h2 h3=>by rw [C.o3 i h1]; omega
 refine ⟨p',t.l+s.l,c',rfl,hk ⟨p',t.l+s.l,c'⟩ h' ?_ k' rfl⟩;rw [h1,← List.map_append] at s';refine ⟨s',?_,by rw [List.map_append,C.t3],SL.cJ C.d1 k' C.o4 (n 4 (by omega)),fun u hu=>SL.cJ (C.d2 u hu) k' (C.od u hu) (n 0 (by omega)),C.d3,SL.cJ C.e1 k' C.o5 (n 5 (by omega)),fun u hu=>SL.cJ (C.e2 u hu) k' (C.oe u hu) (n 0 (by omega)),C.e3,?_,?_,?_,?_,?_,?_⟩
 ·intro u hu';rcases List.mem_append.1 hu' with hu' | hu'
  ·exact SL.cJ (C.t2 u hu') k' (C.ot u hu') (n 0 (by omega))
  ·exact SL.cJ (hu u hu') k' (ho u hu') (n 0 (by omega))
 ·exact vF C.o3 (fun i hi=>(Sx.SL.bR C.t1 hi).2) hp'
 ·exact old (fun i hi=>(Sx.SL.bR C.d1 hi).2) C.o4
 ·exact old (fun i hi=>(Sx.SL.bR C.e1 hi).2) C.o5
 ·intro u hu';rcases List.mem_append.1 hu' with hu' | hu'
  ·exact old (fun i hi=>(Sx.SL.bR (C.t2 u hu') hi).2) (C.ot u hu')
  ·exact old (fun i hi=>(Sx.SL.bR (hu u hu') hi).2) (ho u hu')
 ·exact fun u hu'=>old (fun i hi=>(Sx.SL.bR (C.d2 u hu') hi).2) (C.od u hu')
 ·exact fun u hu'=>old (fun i hi=>(Sx.SL.bR (C.e2 u hu') hi).2) (C.oe u hu')
theorem Core.M8 (C:Core h b tx dx ex t d e ut ud ue ow) (hb:b≤h.size) {b':Nat} {s:bE} {us:List (bE × bD)} (hs:SL h b' 96 10 s.p s.l s.c (us.map yf)) (hu:∀ u,u∈us→SL h b 109 2 u.1.p u.1.l u.1.c (u.2.e.aC.map cj)) (ho:∀ u,u∈us→∀ i,i∈az u.1.p→ow i=0)
  (hm:d.l+s.l≤2^30) {k:Option Addr→Nat→Nat→T}
  (hk:∀ (d':bE) h',Core h' b tx (dx++us.map (·.2)) ex t d' e ut (ud++us) ue (dP h.size 4 ow)→Ch (az d.p) h h'→d'.l=d.l+s.l→k d'.p d'.l d'.c L K h') :
  T.aS Tryz.prog (Builtin.append_ #[23,23] 23 #[.slice d.p d.l d.c,.slice s.p s.l s.c]) false [(false,[.slice 0])] k L K h:=by
 obtain ⟨i,hi,hz,h1,h2⟩:=fF En;refine bN ?_;have d1:=C.d1;rw [← h1] at d1 hs;refine zq Je hi hz (by rw [h1]; rfl) d1 hs (xe _ vX _) (by rw [h2]; omega) (by omega) hb ?_;intro p' c' h' s' k' hp';have old:∀ {p:Option Addr} {k0:Nat},(∀ i,i∈az p→i<h.size)→(∀ i,i∈az p→ow i=k0)→∀ i,i∈az p→dP h.size 4 ow i=k0:=fun hl ho i hi=>(cG (hl i hi)).trans (ho i hi)
 have n:∀ k0,k0≠4→∀ i,i∈az d.p→i<h.size→b≤i→ow i≠k0:=fun k0 hk i h1 h2 h3=>by rw [C.o4 i h1]; omega
 refine ⟨p',d.l+s.l,c',rfl,hk ⟨p',d.l+s.l,c'⟩ h' ?_ k' rfl⟩;rw [h1,← List.map_append] at s';refine ⟨SL.cJ C.t1 k' C.o3 (n 3 (by omega)),fun u hu=>SL.cJ (C.t2 u hu) k' (C.ot u hu) (n 0 (by omega)),C.t3,s',?_,by rw [List.map_append,C.d3],SL.cJ C.e1 k' C.o5 (n 5 (by omega)),fun u hu=>SL.cJ (C.e2 u hu) k' (C.oe u hu) (n 0 (by omega)),C.e3,?_,?_,?_,?_,?_,?_⟩
 ·intro u hu';rcases List.mem_append.1 hu' with hu' | hu'
  ·exact SL.cJ (C.d2 u hu') k' (C.od u hu') (n 0 (by omega))
  ·exact SL.cJ (hu u hu') k' (ho u hu') (n 0 (by omega))
 ·exact old (fun i hi=>(Sx.SL.bR C.t1 hi).2) C.o3
 ·exact vF C.o4 (fun i hi=>(Sx.SL.bR C.d1 hi).2) hp'
 ·exact old (fun i hi=>(Sx.SL.bR C.e1 hi).2) C.o5
 ·exact fun u hu'=>old (fun i hi=>(Sx.SL.bR (C.t2 u hu') hi).2) (C.ot u hu')
 ·intro u hu';rcases List.mem_append.1 hu' with hu' | hu'
  ·exact old (fun i hi=>(Sx.SL.bR (C.d2 u hu') hi).2) (C.od u hu')
  ·exact old (fun i hi=>(Sx.SL.bR (hu u hu') hi).2) (ho u hu')
 ·exact fun u hu'=>old (fun i hi=>(Sx.SL.bR (C.e2 u hu') hi).2) (C.oe u hu')
theorem Core.Az (C:Core h b tx dx ex t d e ut ud ue ow) (hb:b≤h.size) {st:List (Addr × List Value)} {s:bE} {x:kl} (hu:SL h b 109 2 s.p s.l s.c (x.2.aC.map cj)) (ho:∀ i,i∈az s.p→ow i=0)
  (hm:e.l+1≤2^30) {k:Option Addr→Nat→Nat→T} (hst:∀ h',Ext h h'→T.H2 h' st)
  (hk:∀ (e':bE) h',Core h' b tx dx (ex++[x]) t d e' ut ud (ue++[(s,x)]) (dP h.size 5 ow)→Ch (az e.p) h h'→e'.l=e.l+1→k e'.p e'.l e'.c L K h') :
  T.aS Tryz.prog (Instr.buildSlice 24 1 #[(0,.agg #[.string x.1,.slice s.p s.l s.c,.int .u32 (x.2.num:Int)])]) false [(false,[.slice 0])] (fun q m cc=>T.aB st (T.aS Tryz.prog (Builtin.append_ #[24,24] 24 #[.slice e.p e.l e.c,.slice q m cc]) false [(false,[.slice 0])] k)) L K h:=by
 refine sJ Nt Nk rfl (by omega) (by omega) (My x.1 s.p s.l s.c x.2.num) rfl rfl C.e1 hb (by omega) (by omega) hst ?_;intro p' c' h' s' k' hp';have old:∀ {p:Option Addr} {k0:Nat},(∀ i,i∈az p→i<h.size)→(∀ i,i∈az p→ow i=k0)→∀ i,i∈az p→dP h.size 5 ow i=k0:=fun hl ho i hi=>(cG (hl i hi)).trans (ho i hi)
 have n:∀ k0,k0≠5→∀ i,i∈az e.p→i<h.size→b≤i→ow i≠k0:=fun k0 hk i h1 h2 h3=>by rw [C.o5 i h1]; omega
 refine hk ⟨p',e.l+1,c'⟩ h' ?_ k' rfl;refine ⟨SL.cJ C.t1 k' C.o3 (n 3 (by omega)),fun u hu=>SL.cJ (C.t2 u hu) k' (C.ot u hu) (n 0 (by omega)),C.t3,SL.cJ C.d1 k' C.o4 (n 4 (by omega)),fun u hu=>SL.cJ (C.d2 u hu) k' (C.od u hu) (n 0 (by omega)),C.d3,by rw [List.map_append]; exact s',?_,by rw [List.map_append,C.e3]; rfl,?_,?_,?_,?_,?_,?_⟩
 ·intro u hu';rcases List.mem_append.1 hu' with hu' | hu'
  ·exact SL.cJ (C.e2 u hu') k' (C.oe u hu') (n 0 (by omega))
  ·have:=List.mem_singleton.1 hu'
   subst this;exact SL.cJ hu k' ho (n 0 (by omega))
 ·exact old (fun i hi=>(Sx.SL.bR C.t1 hi).2) C.o3
 ·exact old (fun i hi=>(Sx.SL.bR C.d1 hi).2) C.o4
 ·exact vF C.o5 (fun i hi=>(Sx.SL.bR C.e1 hi).2) hp'
 ·exact fun u hu'=>old (fun i hi=>(Sx.SL.bR (C.t2 u hu') hi).2) (C.ot u hu')
 ·exact fun u hu'=>old (fun i hi=>(Sx.SL.bR (C.d2 u hu') hi).2) (C.od u hu')
 ·intro u hu';rcases List.mem_append.1 hu' with hu' | hu'
  ·exact old (fun i hi=>(Sx.SL.bR (C.e2 u hu') hi).2) (C.oe u hu')
  ·have:=List.mem_singleton.1 hu'
   subst this;exact old (fun i hi=>(Sx.SL.bR hu hi).2) ho
end
structure Ab (b:Nat) (q:Nat→Prop) (ow:Nat→Nat) (h h':Hp):Prop where
 size:h.size≤h'.size
 same:∀ i,i<h.size→(i<b∨q i)→h'[i]?=h[i]?
 qs:∀ i,q i→i<h.size
 qo:∀ i,q i→ow i=9
theorem Ab.GS {b:Nat} {q:Nat→Prop} {ow:Nat→Nat} {h h':Hp} (k:Ext h h') (qs:∀ i,q i→i<h.size) (qo:∀ i,q i→ow i=9):Ab b q ow h h' :=
 ⟨k.size,fun i hi _=>k.same i hi (by simp),qs,qo⟩
theorem Ab.step {b:Nat} {q:Nat→Prop} {ow ow':Nat→Nat} {h h1 h2:Hp} {ws:List Nat} (a:Ab b q ow h h1) (k:Ch ws h1 h2) (hw:∀ i,i∈ws→i<h1.size→b≤i∧ow i≠9) (ho:∀ i,i<h1.size→ow' i=ow i):Ab b q ow' h h2:=by
 have hlt:∀ i,i<h.size→i<h1.size:=fun i hi=>Nat.lt_of_lt_of_le hi a.size
 refine ⟨Nat.le_trans a.size k.size,fun i hi hq=>?_,a.qs,fun i hq=>(ho i (hlt i (a.qs i hq))).trans (a.qo i hq)⟩;rw [← a.same i hi hq];refine k.same i (hlt i hi) fun hm=>?_
 have:=hw i hm (hlt i hi)
 rcases hq with hq | hq
 ·omega
 ·exact this.2 (a.qo i hq)
theorem Ab.BC {b:Nat} {q:Nat→Prop} {ow ow':Nat→Nat} {h h1 h2:Hp} (a:Ab b q ow h h1) (k:Ext h1 h2) (ho:∀ i,i<h1.size→ow' i=ow i):Ab b q ow' h h2:=a.step k (by simp) ho
theorem Ab.ext {b:Nat} {q:Nat→Prop} {ow:Nat→Nat} {h h':Hp} (k:Ab b q ow h h') (hb:h.size≤b):Ext h h':=⟨k.size,fun i hi _=>k.same i hi (.inl (by omega))⟩
def lM (t d e:bE) (sec items:Int) (g:Nat) (q:bE):List Value:=[t.v,d.v,e.v,.slice none 0 0,.int .i64 sec,.int .i64 items,.map (some g),q.v]
structure dz (h:Hp) (b A g:Nat) (w:eF) (t d e q:bE) (ut ud:List (bE × bD)) (ue:List (bE × kl)) (ow:Nat→Nat):Prop where
 core:Core h b w.text w.data w.aQ t d e ut ud ue ow
 box:aM h A 73 (lM t d e (w.sec:Int) ((w.text.length+w.data.length:Nat):Int) g q)
 names:qc h g w.names
 aG:SL h b 76 2 q.p q.l q.c (w.aG.map No)
 oA:ow A=6
 og:ow g=7
 oq:∀ i,i∈az q.p→ow i=8
 bA:b≤A
 bg:b≤g
section
variable {h h':Hp} {b A g:Nat} {w:eF} {t d e q:bE} {ut ud:List (bE × bD)} {ue:List (bE × kl)} {ow:Nat→Nat}
theorem dz.af {ws:List Nat} (a:dz h b A g w t d e q ut ud ue ow) (k:Ch ws h h') (hw:∀ i,i∈ws→i<h.size→b≤i→9≤ow i):dz h' b A g w t d e q ut ud ue ow :=
 ⟨a.core.af k (fun i h1 h2 h3=>by have:=hw i h1 h2 h3; omega),a.box.af k (fun hm=>by have:=hw A hm a.box.lt a.bA; have:=a.oA; omega),a.names.af k (fun hm=>by have:=hw g hm a.names.lt a.bg; have:=a.og; omega),
  SL.cJ a.aG k a.oq (fun i h1 h2 h3=>by have:=hw i h1 h2 h3; omega),a.oA,a.og,a.oq,a.bA,a.bg⟩
theorem dz.relabel (a:dz h b A g w t d e q ut ud ue ow) {ow':Nat→Nat} (ho:∀ i,i<h.size→ow' i=ow i):dz h b A g w t d e q ut ud ue ow' :=
 ⟨a.core.relabel ho,a.box,a.names,a.aG,(ho A a.box.lt).trans a.oA,(ho g a.names.lt).trans a.og,fun i hi=>(ho i (Sx.SL.bR a.aG hi).2).trans (a.oq i hi),a.bA,a.bg⟩
theorem rJ {α β:Type} {us:List (α × β)} {l:List β} (h:us.map (·.2)=l):us.length=l.length:=by rw [← h,List.length_map]
theorem dz.tl (a:dz h b A g w t d e q ut ud ue ow):t.l=w.text.length:=by rw [a.core.t1.1,List.length_map,rJ a.core.t3]
theorem dz.dl (a:dz h b A g w t d e q ut ud ue ow):d.l=w.data.length:=by rw [a.core.d1.1,List.length_map,rJ a.core.d3]
theorem dz.el (a:dz h b A g w t d e q ut ud ue ow):e.l=w.aQ.length:=by rw [a.core.e1.1,List.length_map,rJ a.core.e3]
theorem dz.ql (a:dz h b A g w t d e q ut ud ue ow):q.l=w.aG.length:=by rw [a.aG.1,List.length_map]
def ki (w:eF) (jZ:List bD):eF:={ w with text:=if w.sec=0 then w.text++jZ else w.text,data:=if w.sec=0 then w.data else w.data++jZ }
theorem wH (w:eF) (jZ:List bD):(ki w jZ).text.length+(ki w jZ).data.length=w.text.length+w.data.length+jZ.length:=by
 unfold ki;simp only;split
 ·rw [List.length_append]; omega
 ·rw [List.length_append]; omega
def Na (h:Hp) (b A g:Nat) (w:eF) (e q:bE) (us:List (bE × bD)) (ue:List (bE × kl)) (ow:Nat→Nat) (v:Value) (h':Hp):Prop :=
 v=.tuple #[]∧∃ t' d' ut' ud' ow',dz h' b A g (ki w (us.map (·.2))) t' d' e q ut' ud' ue ow'∧(∀ i,i<h.size→ow' i=ow i)∧∃ ws,Ch ws h h'∧∀ i,i∈ws→i<h.size→b≤i∧(ow i=3∨ow i=4∨ow i=6)
set_option maxHeartbeats 1000000 in
theorem Gv (a : dz h b A g w t d e q ut ud ue ow) (hb : b ≤ h.size) (hsec : w.sec ≤ 1) {b' : Nat} {s : bE} {us : List (bE × bD)} (hs : SL h b' 96 10 s.p s.l s.c (us.map yf)) (hu : ∀ u, u ∈ us → SL h b 109 2 u.1.p u.1.l u.1.c (u.2.e.aC.map cj)) (ho : ∀ u, u ∈ us → ∀ i, i ∈ az u.1.p → ow i = 0)
    (hm : w.text.length + w.data.length + us.length ≤ 2 ^ 29) : HC Tryz.prog 66 #[.pointer (some ⟨A, 0, none⟩), .int .i64 (w.sec : Int), .slice s.p s.l s.c] h (Na h b A g w e q us ue ow) := by
  refine aL (args := [.pointer (some ⟨A, 0, none⟩), .int .i64 (w.sec : Int), .slice s.p s.l s.c]) mixed Tryz.func66 (by kernel_rfl) (kK (some ⟨A, 0, none⟩) w.sec s.p s.l s.c) ?_;unfold gP;have hsl : s.l = us.length := by rw [hs.1, List.length_map]
  have htl := a.tl;have hdl := a.dl;have hlt := a.box.lt;refine ah (fun r => ?_) (fun r => ?_)
  · have r : w.sec = 1 := by have := eq_of_beq r; omega
    refine ai rfl ?_;rw [au];refine ad a.box ((d.p, d.l, d.c), ()) rfl ?_;dsimp only [flat, aD, aj, List.nil_append, List.cons_append];refine a.core.M8 hb hs hu ho (by omega) ?_;intro d' h1 C1 k1 l1;have nA : A ∉ az d.p := fun hm => by have := a.core.o4 A hm; have := a.oA; omega
    refine ai rfl ?_;rw [au];refine an (a.box.af k1 nA) rfl (by simp [lM]) ?_;intro h2 b2 k2 z2;have b2 : aM h2 A 73 (lM t d' e (w.sec : Int) ((w.text.length + w.data.length : Nat) : Int) g q) := b2;refine ai rfl ?_;rw [au];refine ad b2 (((w.text.length + w.data.length : Nat) : Int), ()) rfl ?_;dsimp only [flat, aD, aj, List.nil_append, List.cons_append];refine ai rfl ?_;rw [au];refine an b2 rfl (by simp [lM]) ?_;intro h3 b3 k3 z3;have b3 : aM h3 A 73 (lM t d' e (w.sec : Int) (IntKind.wrap .i64 (((w.text.length + w.data.length : Nat) : Int) + (s.l : Int))) g q) := b3;rw [wrap_i64 (by omega) (by omega), show (((w.text.length + w.data.length : Nat) : Int) + (s.l : Int)) = ((w.text.length + w.data.length + us.length : Nat) : Int) by omega] at b3;have oA1 : dP h.size 4 ow A = 6 := (cG hlt).trans a.oA;have C3 := (C1.af k2 (fun i hi _ _ => by have hi := List.mem_singleton.1 hi; subst hi; omega)).af k3 (fun i hi _ _ => by have hi := List.mem_singleton.1 hi; subst hi; omega);have ng : g ∉ az d.p := fun hm => by have := a.core.o4 g hm; have := a.og; omega
    have ngA : g ∉ [A] := fun hm => by have hm := List.mem_singleton.1 hm; subst hm; have := a.oA; have := a.og; omega
    have qd : ∀ i, i ∈ az q.p → i ∉ az d.p := fun i hi hm => by have := a.core.o4 i hm; have := a.oq i hi; omega
    have qA : ∀ i, i ∈ az q.p → i ∉ [A] := fun i hi hm => by have hm := List.mem_singleton.1 hm; subst hm; have := a.oA; have := a.oq i hi; omega
    refine ⟨rfl, t, d', ut, ud ++ us, dP h.size 4 ow, ⟨?_, ?_, ((a.names.af k1 ng).af k2 ngA).af k3 ngA, Sx.SL.aO (Sx.SL.aO (Sx.SL.aO a.aG k1 qd) k2 qA) k3 qA, oA1, (cG a.names.lt).trans a.og, fun i hi => (cG (Sx.SL.bR a.aG hi).2).trans (a.oq i hi), a.bA, a.bg⟩, fun i hi => cG hi, A :: az d.p, ?_, ?_⟩
    · unfold ki
      simp only;rw [if_neg (by omega), if_neg (by omega)];exact C3
    · rw [wH, List.length_map]
      exact b3
    · exact ((k1.mono (fun i hi _ => by simp [hi])).trans k2 (fun i hi _ => by have hi := List.mem_singleton.1 hi; simp [hi])).trans k3 (fun i hi _ => by have hi := List.mem_singleton.1 hi; simp [hi])
    · intro i hi hl
      rcases List.mem_cons.1 hi with rfl | hi
      · exact ⟨a.bA, .inr (.inr a.oA)⟩
      · exact ⟨(Sx.SL.bR a.core.d1 hi).1, .inr (.inl (a.core.o4 i hi))⟩
  · have r : w.sec = 0 := by have : ¬ w.sec = 1 := fun e => by rw [e] at r; simp at r
                             omega
    refine ai rfl ?_;refine ad a.box ((t.p, t.l, t.c), ()) rfl ?_;dsimp only [flat, aD, aj, List.nil_append, List.cons_append];refine a.core.NH hb hs hu ho (by omega) ?_;intro t' h1 C1 k1 l1;have nA : A ∉ az t.p := fun hm => by have := a.core.o3 A hm; have := a.oA; omega
    refine ai rfl ?_;refine an (a.box.af k1 nA) rfl (by simp [lM]) ?_;intro h2 b2 k2 z2;have b2 : aM h2 A 73 (lM t' d e (w.sec : Int) ((w.text.length + w.data.length : Nat) : Int) g q) := b2;refine ai rfl ?_;rw [au];refine ad b2 (((w.text.length + w.data.length : Nat) : Int), ()) rfl ?_;dsimp only [flat, aD, aj, List.nil_append, List.cons_append];refine ai rfl ?_;rw [au];refine an b2 rfl (by simp [lM]) ?_;intro h3 b3 k3 z3;have b3 : aM h3 A 73 (lM t' d e (w.sec : Int) (IntKind.wrap .i64 (((w.text.length + w.data.length : Nat) : Int) + (s.l : Int))) g q) := b3;rw [wrap_i64 (by omega) (by omega), show (((w.text.length + w.data.length : Nat) : Int) + (s.l : Int)) = ((w.text.length + w.data.length + us.length : Nat) : Int) by omega] at b3;have oA1 : dP h.size 3 ow A = 6 := (cG hlt).trans a.oA;have C3 := (C1.af k2 (fun i hi _ _ => by have hi := List.mem_singleton.1 hi; subst hi; omega)).af k3 (fun i hi _ _ => by have hi := List.mem_singleton.1 hi; subst hi; omega);have ng : g ∉ az t.p := fun hm => by have := a.core.o3 g hm; have := a.og; omega
    have ngA : g ∉ [A] := fun hm => by have hm := List.mem_singleton.1 hm; subst hm; have := a.oA; have := a.og; omega
    have qd : ∀ i, i ∈ az q.p → i ∉ az t.p := fun i hi hm => by have := a.core.o3 i hm; have := a.oq i hi; omega
    have qA : ∀ i, i ∈ az q.p → i ∉ [A] := fun i hi hm => by have hm := List.mem_singleton.1 hm; subst hm; have := a.oA; have := a.oq i hi; omega
    refine ⟨rfl, t', d, ut ++ us, ud, dP h.size 3 ow, ⟨?_, ?_, ((a.names.af k1 ng).af k2 ngA).af k3 ngA, Sx.SL.aO (Sx.SL.aO (Sx.SL.aO a.aG k1 qd) k2 qA) k3 qA, oA1, (cG a.names.lt).trans a.og, fun i hi => (cG (Sx.SL.bR a.aG hi).2).trans (a.oq i hi), a.bA, a.bg⟩, fun i hi => cG hi, A :: az t.p, ?_, ?_⟩
    · unfold ki
      simp only;rw [if_pos r, if_pos r];exact C3
    · rw [wH, List.length_map]
      exact b3
    · exact ((k1.mono (fun i hi _ => by simp [hi])).trans k2 (fun i hi _ => by have hi := List.mem_singleton.1 hi; simp [hi])).trans k3 (fun i hi _ => by have hi := List.mem_singleton.1 hi; simp [hi])
    · intro i hi hl
      rcases List.mem_cons.1 hi with rfl | hi
      · exact ⟨a.bA, .inr (.inr a.oA)⟩
      · exact ⟨(Sx.SL.bR a.core.t1 hi).1, .inl (a.core.o3 i hi)⟩
end
structure pZ (h:Hp) (b:Nat) (t:kV) (sl:bE) (us:List (bE × bD)) (se:bE) (ow:Nat→Nat):Prop where
 jZ:SL h b 96 10 sl.p sl.l sl.c (us.map yf)
 own:∀ u,u∈us→SL h b 109 2 u.1.p u.1.l u.1.c (u.2.e.aC.map cj)
 eq:us.map (·.2)=t.items
 e:SL h b 109 2 se.p se.l se.c (t.e.aC.map cj)
 o9:∀ i,i∈az sl.p→ow i=9
 ou:∀ u,u∈us→∀ i,i∈az u.1.p→ow i=0
 oe:∀ i,i∈az se.p→ow i=0
section
variable {h h':Hp} {b:Nat} {t:kV} {sl se:bE} {us:List (bE × bD)} {ow:Nat→Nat}
theorem pZ.af {ws:List Nat} (o:pZ h b t sl us se ow) (k:Ch ws h h') (hw:∀ i,i∈ws→i<h.size→b≤i→ow i≠0∧ow i≠9):pZ h' b t sl us se ow :=
 ⟨SL.cJ o.jZ k o.o9 (fun i h1 h2 h3=>(hw i h1 h2 h3).2),fun u hu=>SL.cJ (o.own u hu) k (o.ou u hu) (fun i h1 h2 h3=>(hw i h1 h2 h3).1),o.eq,SL.cJ o.e k o.oe (fun i h1 h2 h3=>(hw i h1 h2 h3).1),o.o9,o.ou,o.oe⟩
theorem pZ.relabel (o:pZ h b t sl us se ow) {ow':Nat→Nat} (ho:∀ i,i<h.size→ow' i=ow i):pZ h b t sl us se ow' :=
 ⟨o.jZ,o.own,o.eq,o.e,fun i hi=>(ho i (Sx.SL.bR o.jZ hi).2).trans (o.o9 i hi),fun u hu i hi=>(ho i (Sx.SL.bR (o.own u hu) hi).2).trans (o.ou u hu i hi),fun i hi=>(ho i (Sx.SL.bR o.e hi).2).trans (o.oe i hi)⟩
theorem pZ.NG {ws:List Nat} (o:pZ h b t sl us se ow) (k:Ch ws h h') (hw:∀ i,i∈ws→i<h.size→b≤i→ow i≠0∧ow i≠9) {ow':Nat→Nat} (ho:∀ i,i<h.size→ow' i=ow i):pZ h' b t sl us se ow' :=
 (o.relabel ho).af k (fun i h1 h2 h3=>by rw [ho i h2]; exact hw i h1 h2 h3)
theorem SL.ty {e1 e2:TypeId} {s1 s2 b1 b2:Nat} {p q:Option Addr} {l c m d:Nat} {xs ys:List (List Value)} (s:SL h b1 e1 s1 p l c xs) (r:SL h b2 e2 s2 q m d ys) (hne:e1≠e2):∀ i,i∈az p→i∉az q:=by
 intro i hi hj;cases p with
 | none=>simp [az] at hi
 | some a =>
  cases q with
  | none=>simp [az] at hj
  | some a' =>
   obtain ⟨g,pre,rest,rfl,hbg,hlc,hbox,hr⟩:=s.2.2;obtain ⟨g',pre',rest',rfl,hbg',hlc',hbox',hr'⟩:=r.2.2;simp [az] at hi hj;subst hi;subst hj;unfold aM at hbox hbox';rw [hbox] at hbox';injection hbox' with hbox'
   injection hbox' with _ hbox' _
   exact hne hbox'
open Classical in
theorem pZ.of {h0:Hp} {us:List (bE × bD)} (A:iM h h0.size t sl us se) (hb:b≤h0.size) (ow:Nat→Nat):∃ ow',(∀ i,i<h0.size→ow' i=ow i)∧pZ h b t sl us se ow':=by
 have ty:∀ {s:bE} {xs:List (List Value)},SL h h0.size 109 2 s.p s.l s.c xs→∀ i,i∈az s.p→i∉az sl.p:=fun r i hi hj=>SL.ty A.jZ.out r (by decide) i hj hi
 refine ⟨fun i=>if i<h0.size then ow i else if i∈az sl.p then 9 else 0,fun i hi=>if_pos hi,Sx.SL.mono A.jZ.out hb,fun u hu=>Sx.SL.mono (A.jZ.own u hu) hb,A.eq,Sx.SL.mono A.e hb,?_,?_,?_⟩
 ·intro i hi
  have:=(Sx.SL.bR A.jZ.out hi).1
  rw [if_neg (by omega),if_pos hi]
 ·intro u hu i hi
  have:=(Sx.SL.bR (A.jZ.own u hu) hi).1
  rw [if_neg (by omega),if_neg (ty (A.jZ.own u hu) i hi)]
 ·intro i hi
  have:=(Sx.SL.bR A.e hi).1
  rw [if_neg (by omega),if_neg (ty A.e i hi)]
end
theorem vO {s:ByteArray} (h:bo s.data.toList=true):s≠bT:=by
 rintro rfl;revert h;decide
theorem tG {s:ByteArray} (h:bo s.data.toList=true):s.size≤32:=by
 unfold bo at h;simp only [Bool.and_eq_true,decide_eq_true_eq] at h
 have:=h.1.1.1.2
 simpa using this
theorem CE.N2 {w:eF} (W:CE w):fJ w.names bT=false:=by
 cases h:fJ w.names bT with
 | false=>rfl
 | true =>
  have h:=W.perm.mem_iff.1 (px.1 h);exfalso;have key:∀ (l:List bD) (k:Nat),(∀ x,x∈l→dj x k=true∧Good x.e)→bT∉dR l:=by
   intro l k hl hm;unfold dR at hm;obtain ⟨x,hx,hn⟩:=List.mem_map.1 hm;obtain ⟨hx,hk⟩:=List.mem_filter.1 hx
   have:=(hl x hx).1
   have hk:x.kind=1:=by simpa using hk
   unfold dj at this;rw [if_pos hk] at this;simp only [Bool.and_eq_true] at this
   have:bo x.name.data.toList=true:=by
    rcases this with ⟨⟨⟨h1,h2⟩,h3⟩,h4⟩
    first | exact h1 | exact h2 | exact h3 | exact h4
   exact vO this hn
  rcases List.mem_append.1 h with h | h
  ·rcases List.mem_append.1 h with h | h
   ·exact key _ 0 W.text h
   ·exact key _ 1 W.data h
  ·obtain ⟨x,hx,hn⟩:=List.mem_map.1 h;exact vO (W.aQ x hx).1 hn
theorem qc.congr {h:Hp} {g:Nat} {D D':List ByteArray} (m:qc h g D) (e:∀ s,fJ D s=fJ D' s):qc h g D':=by
 obtain ⟨n,m⟩:=m;refine ⟨n,?_⟩
 have:(fun s=>if fJ D' s then some true else none)=(fun s=>if fJ D s then some true else none):=by funext s; rw [e]
 rw [this];exact m
theorem AJ (D:List ByteArray) (x s:ByteArray):fJ (x::D) s=fJ (D++[x]) s:=by
 unfold fJ;rw [List.any_cons,List.any_append,List.any_cons,List.any_nil,Bool.or_false,Bool.or_comm]
def BN (p0 : Option Addr) (n1 : Int) (a10 a30 : Addr) (n29 : Int) : T :=
    cond (n29 != (0 : Int))
     (T.ret (.int .i64 n29))
     (T.join [(false, [.string])]
      (T.ae a30 [.int .i64] <| fun (n31 : Int) =>
      cond (n31 == (3 : Int))
       (T.ae (a30.add 2) [.string] <| fun (Ap : ByteArray) =>
       T.again 0 [.string Ap])
       (T.again 0 [.string ⟨#[]⟩])) <| fun (s31 : ByteArray) =>
     T.join [(false, [.bool])]
      (T.ae a10 [.string] <| fun (Ap : ByteArray) =>
      cond (!((ByteArray.toList Ap) == []))
       (T.aw p0 <| fun (a33 : Addr) =>
       T.ae (a33.add 6) [.map 9 4] <| fun (r34 : Option Nat) =>
       T.ae a10 [.string] <| fun (s35 : ByteArray) =>
       T.aS Tryz.prog (Instr.lookup 70 (.map r34) (.string s35) false) false [(false, [.bool])] <| fun (b36 : Bool) =>
       T.aB [(a10, [.string Ap])] <|
       cond b36
        (T.again 0 [.bool true])
        (T.ae a10 [.string] <| fun (s37 : ByteArray) =>
        cond ((ByteArray.toList s37) == (ByteArray.toList s31))
         (T.again 0 [.bool true])
         (T.aw p0 <| fun (a38 : Addr) =>
         T.ae (a38.add 6) [.map 9 4] <| fun (r39 : Option Nat) =>
         T.aS Tryz.prog (Instr.lookup 70 (.map r39) (.string s31) false) false [(false, [.bool])] <| fun (b40 : Bool) =>
         T.aB [(a10, [.string s37]), (a10, [.string s35]), ((a33.add 6), [.map r34]), (a10, [.string Ap])] <|
         T.again 0 [.bool b40])))
       (T.aw p0 <| fun (a33 : Addr) =>
       T.ae (a33.add 6) [.map 9 4] <| fun (r34 : Option Nat) =>
       T.aS Tryz.prog (Instr.lookup 70 (.map r34) (.string s31) false) false [(false, [.bool])] <| fun (b35 : Bool) =>
       T.aB [(a10, [.string Ap])] <|
       T.again 0 [.bool b35])) <| fun (b32 : Bool) =>
     cond b32
      (T.ret (.int .i64 (22 : Int)))
      (T.ae (a30.add 1) [.slice 96] <| fun (p33 : Option Addr) (l34 : Nat) (l35 : Nat) =>
      T.join [(false, [.int .i64])]
       (T.ae a10 [.string] <| fun (s36 : ByteArray) =>
       cond (!((ByteArray.toList s36) == []))
        (T.again 0 [.int .i64 (IntKind.wrap .i64 ((l34 : Int) + (1 : Int)))])
        (T.again 0 [.int .i64 (l34 : Int)])) <| fun (n36 : Int) =>
      T.aw p0 <| fun (a37 : Addr) =>
      T.ae (a37.add 5) [.int .i64] <| fun (n38 : Int) =>
      cond (decide ((IntKind.wrap .i64 (n38 + n36)) > (8192 : Int)))
       (T.ret (.int .i64 (4 : Int)))
       (T.join []
        (T.ae a10 [.string] <| fun (s39 : ByteArray) =>
        cond (!((ByteArray.toList s39) == []))
         (T.aw p0 <| fun (a40 : Addr) =>
         T.ae (a40.add 6) [.map 9 4] <| fun (r41 : Option Nat) =>
         T.ae a10 [.string] <| fun (s42 : ByteArray) =>
         T.nr Tryz.prog (Instr.mapUpdate 70 (.map r41) (.string s42) (.bool true)) <|
         T.aw p0 <| fun (a43 : Addr) =>
         T.ae (a43.add 4) [.int .i64] <| fun (n44 : Int) =>
         T.ae a10 [.string] <| fun (s45 : ByteArray) =>
         T.aS Tryz.prog (Instr.buildSlice 23 1 #[(0, .agg #[.int .i64 (1 : Int), .string s45, .int .i64 (0 : Int), .int .i64 (0 : Int), .int .i64 (0 : Int), .int .i32 (0 : Int), .int .i64 (0 : Int), .slice none 0 0, .int .u32 (0 : Int), .int .i64 (0 : Int)])]) false [(false, [.slice 0])] <| fun (p46 : Option Addr) (l47 : Nat) (l48 : Nat) =>
         T.aB [(a10, [.string s45]), ((a43.add 4), [.int .i64 n44])] <|
         T.call Tryz.prog 66 [.pointer p0, .int .i64 n44, .slice p46 l47 l48] true [] <| T.aB [(a10, [.string s45])] <|
         T.again 0 [])
         (T.again 0 [])) <| T.aw p0 <| fun (a39 : Addr) =>
       T.ae (a39.add 4) [.int .i64] <| fun (n40 : Int) =>
       T.ae (a30.add 1) [.slice 96] <| fun (p41 : Option Addr) (l42 : Nat) (l43 : Nat) =>
       T.call Tryz.prog 66 [.pointer p0, .int .i64 n40, .slice p41 l42 l43] true [] <| T.join []
        (T.ae a30 [.int .i64] <| fun (n44 : Int) =>
        cond (n44 == (3 : Int))
         (T.aw p0 <| fun (a45 : Addr) =>
         T.ae (a45.add 6) [.map 9 4] <| fun (r46 : Option Nat) =>
         T.nr Tryz.prog (Instr.mapUpdate 70 (.map r46) (.string s31) (.bool true)) <|
         T.aw p0 <| fun (a47 : Addr) =>
         T.ae (a47.add 2) [.slice 99] <| fun (p48 : Option Addr) (l49 : Nat) (l50 : Nat) =>
         T.ae (a30.add 2) [.string] <| fun (s51 : ByteArray) =>
         T.ae (a30.add 3) [.slice 109, .int .u32] <| fun (p52 : Option Addr) (l53 : Nat) (l54 : Nat) (n55 : Int) =>
         T.aS Tryz.prog (Instr.buildSlice 24 1 #[(0, .agg #[.string s51, .slice p52 l53 l54, .int .u32 n55])]) false [(false, [.slice 0])] <| fun (p56 : Option Addr) (l57 : Nat) (l58 : Nat) =>
         T.aB [((a30.add 3), [.slice p52 l53 l54, .int .u32 n55]), ((a30.add 2), [.string s51]), ((a47.add 2), [.slice p48 l49 l50])] <|
         T.aS Tryz.prog (Builtin.append_ #[24, 24] 24 #[.slice p48 l49 l50, .slice p56 l57 l58]) false [(false, [.slice 0])] <| fun (p59 : Option Addr) (l60 : Nat) (l61 : Nat) =>
         T.aB [((a30.add 3), [.slice p52 l53 l54, .int .u32 n55]), ((a30.add 2), [.string s51])] <|
         T.aw p0 <| fun (a62 : Addr) =>
         T.ao (a62.add 2) [.slice p59 l60 l61] <|
         T.again 0 [])
         (cond (n44 == (4 : Int))
          (T.aw p0 <| fun (a45 : Addr) =>
          T.ae (a45.add 7) [.slice 76] <| fun (p46 : Option Addr) (l47 : Nat) (l48 : Nat) =>
          T.ae (a30.add 2) [.string] <| fun (s49 : ByteArray) =>
          T.aS Tryz.prog (Instr.buildSlice 71 1 #[(0, .agg #[.string s49, .int .i64 n1])]) false [(false, [.slice 0])] <| fun (p50 : Option Addr) (l51 : Nat) (l52 : Nat) =>
          T.aB [((a30.add 2), [.string s49]), ((a45.add 7), [.slice p46 l47 l48])] <|
          T.aS Tryz.prog (Builtin.append_ #[71, 71] 71 #[.slice p46 l47 l48, .slice p50 l51 l52]) false [(false, [.slice 0])] <| fun (p53 : Option Addr) (l54 : Nat) (l55 : Nat) =>
          T.aB [((a30.add 2), [.string s49])] <|
          T.aw p0 <| fun (a56 : Addr) =>
          T.ao (a56.add 7) [.slice p53 l54 l55] <|
          T.again 0 [])
          (cond (n44 == (5 : Int))
           (T.ae (a30.add 5) [.int .i64] <| fun (n45 : Int) =>
           T.aw p0 <| fun (a46 : Addr) =>
           T.ao (a46.add 4) [.int .i64 n45] <|
           T.again 0 [])
           (T.again 0 [])))) <| T.ret (.int .i64 (0 : Int)))))
def Kv (b A g:Nat) (qq:Nat→Prop) (h:Hp) (r:Except Nat eF) (v:Value) (h':Hp):Prop :=
 match r with
 | .error e=>v=.int .i64 (e:Int)∧e≠0∧Ext h h'
 | .ok w'=>v=.int .i64 0∧∃ t d e q ut ud ue ow,dz h' b A g w' t d e q ut ud ue ow∧Ab b qq ow h h'
def qL (w:eF) (n:Nat) (dP:ByteArray) (r:Except Nat kV):Except Nat eF :=
 match r with
 | .error e=>.error e
 | .ok t=>if uP w dP t then .error 22 else if 8192<w.text.length+w.data.length+(kg dP t).length then .error 4 else .ok (jt w n dP t)
def uX (t:kV):ByteArray:=if t.kind=3 then t.name else bT
theorem L8 {w:eF} {lb:ByteArray} {t:kV} (h:lb≠bT) (hi:fJ w.names lb=true):uP w lb t:=.inl ⟨h,hi⟩
theorem LH {w:eF} {lb:ByteArray} {t:kV} (h:lb≠bT) (hi:lb=uX t):uP w lb t:=by
 unfold uX at hi;split at hi
 ·rename_i k;exact .inr ⟨k,.inr hi.symm⟩
 ·exact absurd hi h
theorem KA {w:eF} (W:CE w) {lb:ByteArray} {t:kV} (ok:t.kind=3→bo t.name.data.toList=true) (h:¬ (lb≠bT∧(fJ w.names lb=true∨lb=uX t))):fJ w.names (uX t)=decide (uP w lb t):=by
 by_cases k:t.kind=3
 ·have he:uX t=t.name:=if_pos k;rw [he] at h ⊢;cases hi:fJ w.names t.name with
  | true=>exact (decide_eq_true (.inr ⟨k,.inl hi⟩)).symm
  | false =>
   refine (decide_eq_false ?_).symm;rintro (⟨h1,h2⟩ | ⟨_,h1 | h1⟩)
   ·exact h ⟨h1,.inl h2⟩
   ·rw [hi] at h1; cases h1
   ·exact h ⟨fun e=>vO (ok k) (h1.trans e),.inr h1.symm⟩
 ·have he:uX t=bT:=if_neg k;rw [he] at h ⊢;rw [W.N2];refine (decide_eq_false ?_).symm;rintro (⟨h1,h2⟩ | ⟨h1,_⟩)
  ·exact h ⟨h1,.inl h2⟩
  ·exact k h1
def eO (w:eF) (lb:ByteArray):eF:=if lb=bT then w else ki { w with names:=w.names++[lb] } [xj lb]
theorem Gm (w:eF) (lb:ByteArray):(eO w lb).sec=w.sec:=by unfold eO ki; split <;> rfl
theorem E3 (w:eF) (lb:ByteArray):(eO w lb).aQ=w.aQ:=by unfold eO ki; split <;> rfl
theorem Dw (w:eF) (lb:ByteArray):(eO w lb).aG=w.aG:=by unfold eO ki; split <;> rfl
theorem GD (w:eF) (lb:ByteArray):(eO w lb).text.length+(eO w lb).data.length≤w.text.length+w.data.length+1:=by
 unfold eO;split
 ·omega
 ·rw [wH]; simp
theorem vu (w:eF) (n:Nat) (lb:ByteArray) (t:kV):jt w n lb t={ text:=(ki (eO w lb) t.items).text,data:=(ki (eO w lb) t.items).data,aQ:=if t.kind=3 then (eO w lb).aQ++[(t.name,t.e)] else (eO w lb).aQ,names:=if t.kind=3 then (eO w lb).names++[t.name] else (eO w lb).names,aG:=if t.kind=4 then (eO w lb).aG++[(t.name,n)] else (eO w lb).aG,sec:=if t.kind=5 then t.sec else (eO w lb).sec }:=by
 unfold jt eO ki kg
 by_cases h:lb=bT
 ·simp only [if_pos h,List.nil_append,List.append_nil]
 ·by_cases s:w.sec=0
  ·simp [if_neg h,s,List.append_assoc]
  ·simp [if_neg h,s,List.append_assoc]
theorem JG (lb:ByteArray) (t:kV):(kg lb t).length=t.items.length+(if lb=bT then 0 else 1):=by
 unfold kg;rw [List.length_append];split <;> simp <;> omega
structure MQ (qq:Nat→Prop) (h0 h:Hp) (b A gm x y:Nat) (w:eF) (lb opn:ByteArray) (pA:Option Addr) (lA cA:Nat) (tg:kV) (t d e q sl se:bE) (ut ud us:List (bE × bD)) (ue:List (bE × kl)) (ow:Nat→Nat):Prop where
 a:dz h b A gm w t d e q ut ud ue ow
 bx:aM h x 130 [.string lb,.string opn,.slice pA lA cA]
 x9:aM h y 134 (sI tg.kind sl.p sl.l sl.c tg.name se.p se.l se.c tg.e.num tg.sec)
 o:pZ h b tg sl us se ow
 ox:ow x=9
 oy:ow y=9
 ab:Ab b qq ow h0 h
theorem MQ.size {qq:Nat→Prop} {h0 h:Hp} {b A gm x y:Nat} {w:eF} {lb opn:ByteArray} {pA:Option Addr} {lA cA:Nat} {tg:kV} {t d e q sl se:bE} {ut ud us:List (bE × bD)} {ue:List (bE × kl)} {ow:Nat→Nat} (s:MQ qq h0 h b A gm x y w lb opn pA lA cA tg t d e q sl se ut ud us ue ow) (hb:b≤h0.size):b≤h.size:=Nat.le_trans hb s.ab.size
theorem kr {s:ByteArray}:(!(ByteArray.toList s==[]))=true↔s≠bT:=by
 rw [ByteArray.toList_eq];constructor
 ·intro h e;subst e;simp [bT] at h
 ·intro h;simp only [Bool.not_eq_true',beq_eq_false_iff_ne,ne_eq];intro e;exact h (mh e)
theorem HW {s u:ByteArray}:(ByteArray.toList s==ByteArray.toList u)=true↔s=u:=by
 rw [ByteArray.toList_eq,ByteArray.toList_eq,beq_iff_eq];exact ⟨fun h=>mh h,fun h=>by rw [h]⟩
set_option maxHeartbeats 4000000 in
theorem ui {qq:Nat→Prop} {h h1:Hp} {b A gm x y:Nat} {w:eF} {t d e q sl se:bE} {ut ud us:List (bE × bD)} {ue:List (bE × kl)} {ow:Nat→Nat} {n:Nat} {lb opn:ByteArray} {pA:Option Addr} {lA cA:Nat} {tg:kV}
  (hb:b≤h.size) (ext:Ext h h1) (W:CE w) (hE:w.aQ.length≤2^20) (hG:w.aG.length≤2^20) (hn:n≤2^20)
  (s:MQ qq h h1 b A gm x y w lb opn pA lA cA tg t d e q sl se ut ud us ue ow) (hlab:lb≠bT→bo lb.data.toList=true) (ok:lh tg (decide (w.sec=1))) (sz:tg.items.length≤2^20) :
  BN (some ⟨A,0,none⟩) n ⟨x,0,none⟩ ⟨y,0,none⟩ 0 [] (Kv b A gm qq h (qL w n lb (.ok tg))) h1:=by
 unfold BN;have hsec:=W.sec;have hmany:=W.many;have okn:tg.kind=3→bo tg.name.data.toList=true:=fun k=>ok.name (.inl k)
 have hul:us.length=tg.items.length:=rJ s.o.eq;have hsl:sl.l=tg.items.length:=by rw [s.o.jZ.1,List.length_map,hul]
 refine bw rfl ?_;refine de (cs:=[(false,[.string])]) (fun z h'=>h'=h1∧z.1=uX tg) ?_ ?_
 ·refine ad s.x9 ((tg.kind:Int),()) rfl ?_;dsimp only [flat,aD,aj,List.nil_append,List.cons_append];refine ah (fun r=>?_) (fun r=>?_)
  ·have r:tg.kind=3:=by have:=eq_of_beq r; omega
   rw [au];refine ad s.x9 (tg.name,()) rfl ?_;dsimp only [flat,aD,aj,List.nil_append,List.cons_append];exact bh (cs:=[(false,[.string])]) (tg.name,()) rfl rfl ⟨rfl,(if_pos r).symm⟩
  ·have r:¬ tg.kind=3:=fun e=>by rw [e] at r; simp at r
   exact bh (cs:=[(false,[.string])]) (bT,()) rfl rfl ⟨rfl,(if_neg r).symm⟩
 rintro ⟨s31,⟨⟩⟩ h2 ⟨e2,hs31⟩;simp only at hs31;have e2:=e2.symm;subst e2;subst hs31;dsimp only [flat,aD,aj,List.nil_append,List.cons_append];refine de (cs:=[(false,[.bool])]) (fun z h'=>h'=h1∧z.1=decide (uP w lb tg)) ?_ ?_
 ·refine ad s.bx (lb,()) rfl ?_;dsimp only [flat,aD,aj,List.nil_append,List.cons_append];refine ah (fun r=>?_) (fun r=>?_)
  ·have r:=kr.1 r;refine ai rfl ?_;rw [au];refine ad s.a.box (some gm,()) rfl ?_;dsimp only [flat,aD,aj,List.nil_append,List.cons_append];refine ad s.bx (lb,()) rfl ?_;dsimp only [flat,aD,aj,List.nil_append,List.cons_append];refine xw s.a.names lb ?_;refine ⟨⟨s.bx.cells _ rfl,trivial⟩,?_⟩;refine ah (fun q1=>?_) (fun q1=>?_)
   ·exact bh (cs:=[(false,[.bool])]) (true,()) rfl rfl ⟨rfl,(decide_eq_true (L8 r q1)).symm⟩
   refine ad s.bx (lb,()) rfl ?_;dsimp only [flat,aD,aj,List.nil_append,List.cons_append];refine ah (fun q2=>?_) (fun q2=>?_)
   ·exact bh (cs:=[(false,[.bool])]) (true,()) rfl rfl ⟨rfl,(decide_eq_true (LH r (HW.1 q2))).symm⟩
   refine ai rfl ?_;refine ad s.a.box (some gm,()) rfl ?_;dsimp only [flat,aD,aj,List.nil_append,List.cons_append];refine xw s.a.names (uX tg) ?_;refine ⟨⟨s.bx.cells _ rfl,s.bx.cells _ rfl,s.a.box.cells _ rfl,s.bx.cells _ rfl,trivial⟩,?_⟩;refine bh (cs:=[(false,[.bool])]) (fJ w.names (uX tg),()) rfl rfl ⟨rfl,KA W okn ?_⟩;rintro ⟨_,k | k⟩
   ·rw [k] at q1; cases q1
   ·rw [HW.2 k] at q2; cases q2
  ·have r:lb=bT:=by
    by_cases e:lb=bT
    ·exact e
    ·rw [kr.2 e] at r; cases r
   refine ai rfl ?_;rw [au];refine ad s.a.box (some gm,()) rfl ?_;dsimp only [flat,aD,aj,List.nil_append,List.cons_append];refine xw s.a.names (uX tg) ?_;refine ⟨⟨s.bx.cells _ rfl,trivial⟩,?_⟩;exact bh (cs:=[(false,[.bool])]) (fJ w.names (uX tg),()) rfl rfl ⟨rfl,KA W okn fun k=>k.1 r⟩
 rintro ⟨b32,⟨⟩⟩ h2 ⟨e2,hb32⟩;simp only at hb32;have e2:=e2.symm;subst e2;subst hb32;dsimp only [flat,aD,aj,List.nil_append,List.cons_append];refine ah (fun r=>?_) (fun r=>?_)
 ·have r:=of_decide_eq_true r;unfold qL;simp only;rw [if_pos r];exact ⟨rfl,by decide,ext⟩
 have nd:=of_decide_eq_false r;rw [au];refine ad s.x9 ((sl.p,sl.l,sl.c),()) rfl ?_;dsimp only [flat,aD,aj,List.nil_append,List.cons_append];have hil:=JG lb tg;refine de (cs:=[(false,[.int .i64])]) (fun z h'=>h'=h1∧z.1=((kg lb tg).length:Int)) ?_ ?_
 ·refine ad s.bx (lb,()) rfl ?_;dsimp only [flat,aD,aj,List.nil_append,List.cons_append];refine ah (fun r=>?_) (fun r=>?_)
  ·have r:=kr.1 r;rw [if_neg r] at hil;exact bh (cs:=[(false,[.int .i64])]) (((kg lb tg).length:Int),()) rfl (by rw [wrap_i64 (by omega) (by omega),show ((sl.l:Int)+1)=((kg lb tg).length:Int) by omega]; rfl) ⟨rfl,rfl⟩
  ·have r:lb=bT:=by
    by_cases e:lb=bT
    ·exact e
    ·rw [kr.2 e] at r; cases r
   rw [if_pos r] at hil;exact bh (cs:=[(false,[.int .i64])]) (((kg lb tg).length:Int),()) rfl (by rw [show (sl.l:Int)=((kg lb tg).length:Int) by omega]; rfl) ⟨rfl,rfl⟩
 rintro ⟨n36,⟨⟩⟩ h2 ⟨e2,hn36⟩;simp only at hn36;have e2:=e2.symm;subst e2;subst hn36;dsimp only [flat,aD,aj,List.nil_append,List.cons_append];refine ai rfl ?_;rw [au];refine ad s.a.box (((w.text.length+w.data.length:Nat):Int),()) rfl ?_;dsimp only [flat,aD,aj,List.nil_append,List.cons_append];have hi1:(kg lb tg).length≤2^20+1:=by rw [hil]; split <;> omega
 rw [wrap_i64 (by omega) (by omega)];refine ah (fun r=>?_) (fun r=>?_)
 ·have r:=of_decide_eq_true r;unfold qL;simp only;rw [if_neg nd,if_pos (by omega)];exact ⟨rfl,by decide,ext⟩
 have nm:=of_decide_eq_false r;have hres:qL w n lb (.ok tg)=.ok (jt w n lb tg):=by
  unfold qL;simp only;rw [if_neg nd,if_neg (by omega)]
 rw [hres];refine de (cs:=[]) (fun _ h'=>∃ t d ut ud ow,MQ qq h h' b A gm x y (eO w lb) lb opn pA lA cA tg t d e q sl se ut ud us ue ow) ?_ ?_
 ·refine ad s.bx (lb,()) rfl ?_;dsimp only [flat,aD,aj,List.nil_append,List.cons_append];refine ah (fun r=>?_) (fun r=>?_)
  ·have r:=kr.1 r;have hlw:eO w lb=ki { w with names:=w.names++[lb] } [xj lb]:=if_neg r;refine ai rfl ?_;rw [au];refine ad s.a.box (some gm,()) rfl ?_;dsimp only [flat,aD,aj,List.nil_append,List.cons_append];refine ad s.bx (lb,()) rfl ?_;dsimp only [flat,aD,aj,List.nil_append,List.cons_append];refine GV s.a.names (by have:=tG (hlab r); unfold maxLen; omega) ?_;intro h3 m3 k3 z3;have og:=s.a.og;have w3:∀ i,i∈[gm]→i<h1.size→b≤i→ow i=7:=fun i hi _ _=>by have hi:=List.mem_singleton.1 hi; subst hi; exact og
   have nA:A∉[gm]:=fun hm=>by have hm:=List.mem_singleton.1 hm; have:=s.a.oA; rw [hm] at this; omega
   have nx:x∉[gm]:=fun hm=>by have hm:=List.mem_singleton.1 hm; have:=s.ox; rw [hm] at this; omega
   have ny:y∉[gm]:=fun hm=>by have hm:=List.mem_singleton.1 hm; have:=s.oy; rw [hm] at this; omega
   have a3:dz h3 b A gm { w with names:=w.names++[lb] } t d e q ut ud ue ow :=
    ⟨s.a.core.af k3 (fun i h1 h2 h3=>by have:=w3 i h1 h2 h3; omega),s.a.box.af k3 nA,m3.congr (AJ w.names lb),SL.cJ s.a.aG k3 s.a.oq (fun i h1 h2 h3=>by have:=w3 i h1 h2 h3; omega),s.a.oA,s.a.og,s.a.oq,s.a.bA,s.a.bg⟩
   have bx3:=s.bx.af k3 nx;have by3:=s.x9.af k3 ny;have o3:=s.o.af k3 (fun i h1 h2 h3=>by have:=w3 i h1 h2 h3; omega);have ab3:Ab b qq ow h h3:=s.ab.step k3 (fun i hi _=>by have hi:=List.mem_singleton.1 hi; subst hi; exact ⟨s.a.bg,by omega⟩) (fun _ _=>rfl);refine ai rfl ?_;rw [au];refine ad a3.box ((w.sec:Int),()) rfl ?_;dsimp only [flat,aD,aj,List.nil_append,List.cons_append];refine ad bx3 (lb,()) rfl ?_;dsimp only [flat,aD,aj,List.nil_append,List.cons_append];refine kC (p:=none) (l:=0) (c:=0) (x:=xj lb) ?_;intro h4 s4 e4 z4;have rl:∀ i,i<h3.size→dP h3.size 9 ow i=ow i:=fun i hi=>cG hi
   have a4:=(a3.relabel rl).af e4 (by simp);have bx4:=bx3.af e4 (by simp);have by4:=by3.af e4 (by simp);have o4:=(o3.relabel rl).af e4 (by simp);have ab4:=ab3.BC e4 rl;have ox4:=(rl x bx3.lt).trans s.ox;have oy4:=(rl y by3.lt).trans s.oy;have sz4:=e4.size;have zb3:=ab3.size;refine ⟨⟨bx4.cells _ rfl,a4.box.cells _ rfl,trivial⟩,?_⟩;refine aF (Gv a4 (by omega) hsec (s:=⟨some ⟨h3.size,0,none⟩,1,1⟩) (us:=[(⟨none,0,0⟩,xj lb)]) s4 (fun u hu=>by have hu:=List.mem_singleton.1 hu; subst hu; exact SL.nil _ _ _ _) (fun u hu i hi=>by have hu:=List.mem_singleton.1 hu; subst hu; simp [az] at hi) (by show w.text.length+w.data.length+1≤_; omega)) ?_;rintro _ h5 ⟨rfl,t',d',ut',ud',ow',a5,ho5,ws,k5,hw5⟩;refine ⟨(),rfl,?_⟩;dsimp only [flat,aD,aj,List.nil_append,List.cons_append];have nx5:x∉ws:=fun hm=>by have:=(hw5 x hm bx4.lt).2; omega
   have ny5:y∉ws:=fun hm=>by have:=(hw5 y hm by4.lt).2; omega
   have bx5:=bx4.af k5 nx5;refine ⟨⟨bx5.cells _ rfl,trivial⟩,?_⟩;refine bh (cs:=[]) () rfl rfl ⟨t',d',ut',ud',ow',?_,bx5,by4.af k5 ny5,o4.NG k5 (fun i h1 h2 _=>by have:=(hw5 i h1 h2).2; omega) ho5,(ho5 x bx4.lt).trans ox4,(ho5 y by4.lt).trans oy4,ab4.step k5 (fun i h1 h2=>⟨(hw5 i h1 h2).1,by have:=(hw5 i h1 h2).2; omega⟩) ho5⟩;rw [hlw];exact a5
  ·have r:lb=bT:=by
    by_cases e:lb=bT
    ·exact e
    ·rw [kr.2 e] at r; cases r
   have hlw:eO w lb=w:=if_pos r;exact bh (cs:=[]) () rfl rfl ⟨t,d,ut,ud,ow,by rw [hlw]; exact s⟩
 rintro ⟨⟩ h3 ⟨t,d,ut,ud,ow,s3⟩;dsimp only [flat,aD,aj,List.nil_append,List.cons_append];have hb3:=s3.size hb;have hs3:=Gm w lb;have hl3:=GD w lb;have he3:=E3 w lb;have hg3:=Dw w lb;refine ai rfl ?_;rw [au];refine ad s3.a.box (((eO w lb).sec:Int),()) rfl ?_;dsimp only [flat,aD,aj,List.nil_append,List.cons_append];refine ad s3.x9 ((sl.p,sl.l,sl.c),()) rfl ?_;dsimp only [flat,aD,aj,List.nil_append,List.cons_append];refine aF (Gv s3.a hb3 (by omega) s3.o.jZ s3.o.own s3.o.ou (by omega)) ?_;rintro _ h4 ⟨rfl,t',d',ut',ud',ow',a4,ho4,ws,k4,hw4⟩;refine ⟨(),rfl,?_⟩;dsimp only [flat,aD,aj,List.nil_append,List.cons_append];rw [s3.o.eq] at a4;have ny4:y∉ws:=fun hm=>by have:=(hw4 y hm s3.x9.lt).2; have:=s3.oy; omega
 have by4:=s3.x9.af k4 ny4;have oy4:ow' y=9:=(ho4 y s3.x9.lt).trans s3.oy;have E4:SL h4 b 109 2 se.p se.l se.c (tg.e.aC.map cj):=SL.cJ s3.o.e k4 s3.o.oe (fun i h1 h2 _=>by have:=(hw4 i h1 h2).2; omega);have oe4:∀ i,i∈az se.p→ow' i=0:=fun i hi=>(ho4 i (Sx.SL.bR s3.o.e hi).2).trans (s3.o.oe i hi)
 have ab4:=s3.ab.step k4 (fun i h1 h2=>⟨(hw4 i h1 h2).1,by have:=(hw4 i h1 h2).2; omega⟩) ho4;have hb4:b≤h4.size:=Nat.le_trans hb ab4.size;have el4:=a4.el;have ql4:=a4.ql;have ee4:(ki (eO w lb) tg.items).aQ=w.aQ:=he3;have gg4:(ki (eO w lb) tg.items).aG=w.aG:=hg3;rw [ee4] at el4;rw [gg4] at ql4;clear s3 k4 hw4 ho4 s;refine de (cs:=[]) (fun _ h'=>∃ t d e q ut ud ue ow,dz h' b A gm (jt w n lb tg) t d e q ut ud ue ow∧Ab b qq ow h h') ?_ ?_
 ·refine ad by4 ((tg.kind:Int),()) rfl ?_;dsimp only [flat,aD,aj,List.nil_append,List.cons_append];refine ah (fun r=>?_) (fun r=>?_)
  ·have r:tg.kind=3:=by have:=eq_of_beq r; omega
   have heq:uX tg=tg.name:=if_pos r;rw [heq];refine ai rfl ?_;rw [au];refine ad a4.box (some gm,()) rfl ?_;dsimp only [flat,aD,aj,List.nil_append,List.cons_append];refine GV a4.names (by have:=tG (okn r); unfold maxLen; omega) ?_;intro h5 m5 k5 z5;have og:=a4.og;have w5:∀ i,i∈[gm]→i<h4.size→b≤i→ow' i=7:=fun i hi _ _=>by have hi:=List.mem_singleton.1 hi; subst hi; exact og
   have nA:A∉[gm]:=fun hm=>by have hm:=List.mem_singleton.1 hm; have:=a4.oA; rw [hm] at this; omega
   have ny:y∉[gm]:=fun hm=>by have hm:=List.mem_singleton.1 hm; rw [hm] at oy4; omega
   have C5:=a4.core.af k5 (fun i h1 h2 h3=>by have:=w5 i h1 h2 h3; omega);have B5:=a4.box.af k5 nA;have M5:qc h5 gm ((eO w lb).names++[tg.name]):=m5.congr (AJ _ _);have G5:=SL.cJ a4.aG k5 a4.oq (fun i h1 h2 h3=>by have:=w5 i h1 h2 h3; omega);have by5:=by4.af k5 ny;have E5:=SL.cJ E4 k5 oe4 (fun i h1 h2 h3=>by have:=w5 i h1 h2 h3; omega);have ab5:Ab b qq ow' h h5:=ab4.step k5 (fun i hi _=>by have hi:=List.mem_singleton.1 hi; subst hi; exact ⟨a4.bg,by omega⟩) (fun _ _=>rfl);have hb5:b≤h5.size:=Nat.le_trans hb ab5.size;refine ai rfl ?_;rw [au];refine ad B5 ((e.p,e.l,e.c),()) rfl ?_;dsimp only [flat,aD,aj,List.nil_append,List.cons_append];rw [au];refine ad by5 (tg.name,()) rfl ?_;dsimp only [flat,aD,aj,List.nil_append,List.cons_append];rw [au];refine ad by5 ((se.p,se.l,se.c),(tg.e.num:Int),()) rfl ?_;dsimp only [flat,aD,aj,List.nil_append,List.cons_append];refine C5.Az (s:=se) (x:=(tg.name,tg.e)) hb5 E5 oe4 (by omega) (fun h' x=>⟨(by5.af x (by simp)).cells _ rfl,(by5.af x (by simp)).cells _ rfl,(B5.af x (by simp)).cells _ rfl,trivial⟩) ?_;intro e' h6 C6 k6 l6;have w6:∀ i,i∈az e.p→ow' i=5:=C5.o5
   have nA6:A∉az e.p:=fun hm=>by have:=w6 A hm; have:=a4.oA; omega
   have ny6:y∉az e.p:=fun hm=>by have:=w6 y hm; omega
   have ng6:gm∉az e.p:=fun hm=>by have:=w6 gm hm; omega
   have by6:=by5.af k6 ny6;have rl:∀ i,i<h5.size→dP h5.size 5 ow' i=ow' i:=fun i hi=>cG hi
   refine ⟨⟨by6.cells _ rfl,by6.cells _ rfl,trivial⟩,?_⟩;refine ai rfl ?_;rw [au];refine an (B5.af k6 nA6) rfl (by simp [lM]) ?_;intro h7 b7 k7 z7;have oA7:dP h5.size 5 ow' A=6:=(rl A B5.lt).trans a4.oA;have og7:dP h5.size 5 ow' gm=7:=(rl gm M5.lt).trans og;have oq7:∀ i,i∈az q.p→dP h5.size 5 ow' i=8:=fun i hi=>(rl i (Sx.SL.bR G5 hi).2).trans (a4.oq i hi)
   have w7:∀ i,i∈[A]→dP h5.size 5 ow' i=6:=fun i hi=>by have hi:=List.mem_singleton.1 hi; subst hi; exact oA7
   have ng7:gm∉[A]:=fun hm=>by have:=w7 gm hm; omega
   refine bh (cs:=[]) () rfl rfl ⟨t',d',e',q,ut',ud',ue++[(se,(tg.name,tg.e))],dP h5.size 5 ow',?_,(ab5.step k6 (fun i hi _=>⟨(Sx.SL.bR C5.e1 hi).1,by have:=w6 i hi; omega⟩) rl).step k7 (fun i hi _=>⟨by have hi:=List.mem_singleton.1 hi; subst hi; exact a4.bA,by have:=w7 i hi; omega⟩) (fun _ _=>rfl)⟩;rw [vu,if_pos r,if_pos r,if_neg (by omega),if_neg (by omega)];have b7:aM h7 A 73 (lM t' d' ⟨e'.p,e'.l,e'.c⟩ ((eO w lb).sec:Int) (((ki (eO w lb) tg.items).text.length+(ki (eO w lb) tg.items).data.length:Nat):Int) gm q):=b7;refine ⟨C6.af k7 (fun i hi _ _=>by have:=w7 i hi; omega),b7,(M5.af k6 ng6).af k7 ng7,?_,oA7,og7,oq7,a4.bA,a4.bg⟩;refine Sx.SL.aO (Sx.SL.aO G5 k6 (fun i hi hm=>?_)) k7 (fun i hi hm=>?_)
   ·have:=w6 i hm; have:=a4.oq i hi; omega
   ·have:=w7 i hm; have:=oq7 i hi; omega
  have r3:¬ tg.kind=3:=fun e=>by rw [e] at r; simp at r
  refine ah (fun r=>?_) (fun r=>?_)
  ·have r:tg.kind=4:=by have:=eq_of_beq r; omega
   refine ai rfl ?_;rw [au];refine ad a4.box ((q.p,q.l,q.c),()) rfl ?_;dsimp only [flat,aD,aj,List.nil_append,List.cons_append];rw [au];refine ad by4 (tg.name,()) rfl ?_;dsimp only [flat,aD,aj,List.nil_append,List.cons_append];refine sJ (z:=.agg #[.string ⟨#[]⟩,.int .i64 (0:Int)]) Nu M1 rfl (by omega) (by omega) (LZ tg.name n) rfl rfl a4.aG hb4 (by omega) (by omega) (fun h' x=>⟨(by4.af x (by simp)).cells _ rfl,(a4.box.af x (by simp)).cells _ rfl,trivial⟩) ?_;intro p' c' h5 s5 k5 hp5;have w5:∀ i,i∈az q.p→ow' i=8:=a4.oq
   have nA5:A∉az q.p:=fun hm=>by have:=w5 A hm; have:=a4.oA; omega
   have ny5:y∉az q.p:=fun hm=>by have:=w5 y hm; omega
   have ng5:gm∉az q.p:=fun hm=>by have:=w5 gm hm; have:=a4.og; omega
   have by5:=by4.af k5 ny5;have rl:∀ i,i<h4.size→dP h4.size 8 ow' i=ow' i:=fun i hi=>cG hi
   refine ⟨⟨by5.cells _ rfl,trivial⟩,?_⟩;refine ai rfl ?_;rw [au];refine an (a4.box.af k5 nA5) rfl (by simp [lM]) ?_;intro h6 b6 k6 z6;have oA6:dP h4.size 8 ow' A=6:=(rl A a4.box.lt).trans a4.oA;have og6:dP h4.size 8 ow' gm=7:=(rl gm a4.names.lt).trans a4.og;have oq6:∀ i,i∈az p'→dP h4.size 8 ow' i=8:=vF a4.oq (fun i hi=>(Sx.SL.bR a4.aG hi).2) hp5
   have w6:∀ i,i∈[A]→dP h4.size 8 ow' i=6:=fun i hi=>by have hi:=List.mem_singleton.1 hi; subst hi; exact oA6
   have ng6:gm∉[A]:=fun hm=>by have:=w6 gm hm; omega
   have C5:=(a4.core.relabel rl).af k5 (fun i hi h1 _=>by rw [rl i h1]; have:=w5 i hi; omega);refine bh (cs:=[]) () rfl rfl ⟨t',d',e,⟨p',q.l+1,c'⟩,ut',ud',ue,dP h4.size 8 ow',?_,(ab4.step k5 (fun i hi _=>⟨(Sx.SL.bR a4.aG hi).1,by have:=w5 i hi; omega⟩) rl).step k6 (fun i hi _=>⟨by have hi:=List.mem_singleton.1 hi; subst hi; exact a4.bA,by have:=w6 i hi; omega⟩) (fun _ _=>rfl)⟩;rw [vu,if_neg r3,if_neg r3,if_pos r,if_neg (by omega)];have b6:aM h6 A 73 (lM t' d' e ((eO w lb).sec:Int) (((ki (eO w lb) tg.items).text.length+(ki (eO w lb) tg.items).data.length:Nat):Int) gm ⟨p',q.l+1,c'⟩):=b6;refine ⟨C5.af k6 (fun i hi _ _=>by have:=w6 i hi; omega),b6,(a4.names.af k5 ng5).af k6 ng6,?_,oA6,og6,oq6,a4.bA,a4.bg⟩;refine Sx.SL.aO (by rw [List.map_append]; exact s5) k6 (fun i hi hm=>?_)
   have:=w6 i hm; have:=oq6 i hi; omega
  have r4:¬ tg.kind=4:=fun e=>by rw [e] at r; simp at r
  refine ah (fun r=>?_) (fun r=>?_)
  ·have r:tg.kind=5:=by have:=eq_of_beq r; omega
   rw [au];refine ad by4 ((tg.sec:Int),()) rfl ?_;dsimp only [flat,aD,aj,List.nil_append,List.cons_append];refine ai rfl ?_;rw [au];refine an a4.box rfl (by simp [lM]) ?_;intro h5 b5 k5 z5;have w5:∀ i,i∈[A]→ow' i=6:=fun i hi=>by have hi:=List.mem_singleton.1 hi; subst hi; exact a4.oA
   have ng5:gm∉[A]:=fun hm=>by have:=w5 gm hm; have:=a4.og; omega
   refine bh (cs:=[]) () rfl rfl ⟨t',d',e,q,ut',ud',ue,ow',?_,ab4.step k5 (fun i hi _=>⟨by have hi:=List.mem_singleton.1 hi; subst hi; exact a4.bA,by have:=w5 i hi; omega⟩) (fun _ _=>rfl)⟩;rw [vu,if_neg r3,if_neg r3,if_neg r4,if_pos r];have b5:aM h5 A 73 (lM t' d' e (tg.sec:Int) (((ki (eO w lb) tg.items).text.length+(ki (eO w lb) tg.items).data.length:Nat):Int) gm q):=b5;exact ⟨a4.core.af k5 (fun i hi _ _=>by have:=w5 i hi; omega),b5,a4.names.af k5 ng5,SL.cJ a4.aG k5 a4.oq (fun i hi _ _=>by have:=w5 i hi; omega),a4.oA,a4.og,a4.oq,a4.bA,a4.bg⟩
  have r5:¬ tg.kind=5:=fun e=>by rw [e] at r; simp at r
  refine bh (cs:=[]) () rfl rfl ⟨t',d',e,q,ut',ud',ue,ow',?_,ab4⟩;rw [vu,if_neg r3,if_neg r3,if_neg r4,if_neg r5];exact ⟨a4.core,a4.box,a4.names,a4.aG,a4.oA,a4.og,a4.oq,a4.bA,a4.bg⟩
 rintro ⟨⟩ h5 a5;exact ⟨rfl,a5⟩
theorem Gi (w:eF) (n:Nat) (s:ByteArray):ew w n s=if (aN s).2.2≠0 then .error (aN s).2.2 else if (aN s).1.label≠bT∧bo (aN s).1.label.data.toList=false then .error 21 else qL w n (aN s).1.label (dQ (aN s).1 (decide (w.sec=1))):=by
 unfold ew qL;split
 ·rfl
 split
 ·rfl
 all_goals (cases dQ (aN s).1 (decide (w.sec=1)) <;> rfl)
theorem sv (n:Nat) (lb:ByteArray):∀ (ts:List Tok),(bV n lb ts).1.label=lb∨(bV n lb ts).1.label=bT
 | []=>.inl rfl
 | t::ts=>by
  simp only [bV];split
  ·exact .inr rfl
  ·cases fj n ts with
   | error a=>exact .inr rfl
   | ok l=>exact .inl rfl
theorem DG (s:ByteArray):(aN s).1.label.size≤s.size:=by
 have z:bT.size≤s.size:=Nat.zero_le _;unfold aN;split
 ·exact z
 ·unfold fe;split
  ·rcases sv s.size (((eC s).1.head?.map (·.text)).getD ⟨#[]⟩) ((eC s).1.drop 2) with e | e
   ·rw [e];cases hq:(eC s).1 with
    | nil=>exact z
    | cons t r=>exact zF s t (by rw [hq]; simp)
   ·rw [e]; exact z
  ·rcases sv s.size ⟨#[]⟩ (eC s).1 with e | e
   ·rw [e]; exact z
   ·rw [e]; exact z
theorem JL (n:Nat):decide ((n:Int)=1)=decide (n=1):=by
 by_cases h:n=1
 ·subst h; rfl
 ·rw [decide_eq_false h,decide_eq_false (by omega)]
theorem AM {h h':Hp} {e:Nat} {u:Value} (q:EL h (.error e) u h'):u=.tuple #[.agg zT.toArray,.int .i64 (e:Int)]∧e≠0:=q.2
theorem DV {h h':Hp} {t:kV} {u:Value} (q:EL h (.ok t) u h'):∃ sl us se,u=.tuple #[KQ t.kind sl t.name se t.e.num t.sec,.int .i64 0]∧iM h' h.size t sl us se:=q.2
set_option maxHeartbeats 4000000 in
theorem JO {h:Hp} (tb:pO h) (ld:Laid h) {b A gm:Nat} {w:eF} {t d e q:bE} {ut ud:List (bE × bD)} {ue:List (bE × kl)} {ow:Nat→Nat} (a:dz h b A gm w t d e q ut ud ue ow) (hb:b≤h.size) (W:CE w) (hE:w.aQ.length≤2^20) (hG:w.aG.length≤2^20) {n:Nat} (hn:n≤2^20) (s:ByteArray) (hs:s.size≤2^18) {qq:Nat→Prop} (qs:∀ i,qq i→i<h.size) (qo:∀ i,qq i→ow i=9) :
  HC Tryz.prog 33 #[.pointer (some ⟨A,0,none⟩),.int .i64 (n:Int),.string s] h (Kv b A gm qq h (ew w n s)):=by
 refine aL (args:=[.pointer (some ⟨A,0,none⟩),.int .i64 (n:Int),.string s]) mixed Tryz.func33 (by kernel_rfl) (kd (some ⟨A,0,none⟩) n s) ?_;unfold gj;refine aF (Hv s h (by omega) ld) ?_;rintro _ h1 ⟨e1,p,c,al,rfl,Ar,ha⟩;refine ⟨((aN s).1.label,(aN s).1.op,(p,al.length,c),((aN s).2.1:Int),((aN s).2.2:Int),()),rfl,?_⟩;dsimp only [flat,aD,aj,nA,cA];refine aW ?_;intro h2 b2 e2 z2;refine an b2 rfl (by simp) ?_;intro h3 b3 k3 z3;have b3:aM h3 h1.size 130 [.string (aN s).1.label,.string (aN s).1.op,.slice p al.length c]:=b3;have e13:Ext h1 h3:=Ch.trans e2 k3 (fun i hi hl=>by simp at hi; omega);have e03:=e1.trans e13;rw [Gi];refine ah (fun r=>?_) (fun r=>?_)
 ·have r:(aN s).2.2≠0:=by simpa using r
  rw [if_pos r];exact ⟨rfl,r,e03⟩
 have r:¬ (aN s).2.2≠0:=by simpa using r
 rw [if_neg r];refine de (cs:=[(false,[.bool])]) (fun z h'=>h'=h3∧z.1=decide ((aN s).1.label≠bT∧bo (aN s).1.label.data.toList=false)) ?_ ?_
 ·refine ad b3 ((aN s).1.label,()) rfl ?_;dsimp only [flat,aD,aj,nA,cA];refine ah (fun q=>?_) (fun q=>?_)
  ·have q:=kr.1 q;refine ad b3 ((aN s).1.label,()) rfl ?_;dsimp only [flat,aD,aj,nA,cA];have hl:(aN s).1.label.size≤9223372036854775807:=by
    have:=DG s
    omega
   refine aI (lG _ _ hl) ?_;refine bh (cs:=[(false,[.bool])]) (_,()) rfl rfl ⟨rfl,?_⟩;cases hh:bo (aN s).1.label.data.toList with
   | true=>exact (decide_eq_false (by simp)).symm
   | false=>exact (decide_eq_true ⟨q,rfl⟩).symm
  ·refine bh (cs:=[(false,[.bool])]) (false,()) rfl rfl ⟨rfl,(decide_eq_false ?_).symm⟩;rintro ⟨q1,_⟩;rw [kr.2 q1] at q;cases q
 rintro ⟨b11,⟨⟩⟩ h9 ⟨e9,hb11⟩;simp only at hb11;have e9:=e9.symm;subst e9;subst hb11;dsimp only [flat,aD,aj,nA,cA];refine ah (fun q=>?_) (fun q=>?_)
 ·rw [if_pos (of_decide_eq_true q)];exact ⟨rfl,by decide,e03⟩
 have q:=of_decide_eq_false q;rw [if_neg q];have hlab:(aN s).1.label≠bT→bo (aN s).1.label.data.toList=true:=fun g=>by
  cases hh:bo (aN s).1.label.data.toList with
  | true=>rfl
  | false=>exact absurd ⟨g,hh⟩ q
 clear q;have z03:=e03.size;have z01:=e1.size;have a3:=(a.relabel (ow':=dP h.size 9 ow) (fun i hi=>cG hi)).af e03 (by simp);have ox3:dP h.size 9 ow h1.size=9:=vG z01;have Ar3:=(Ar.mono (Nat.le_refl _)).af e13 (by simp) (by simp);obtain ⟨v,hal⟩:=DR.parse s (by omega) Ar3 ha;have tb3:=tb.af e03 (by simp);have hln:(aN s).1=⟨(aN s).1.label,(aN s).1.op,al.map In.ts⟩:=by rw [ha]
 have facts:=ix s (by omega);have hok:∀ tg,dQ (aN s).1 (decide (w.sec=1))=.ok tg→lh tg (decide (w.sec=1))∧tg.items.length≤2^20:=fun tg hr =>
  ⟨uL (fun a ha=>(facts a ha).1) hr,(AZ (n:=2^20) (by omega) (fun a ha=>⟨(facts a ha).1,by have:=(eQ s).1 a ha; omega⟩) (by have:=(eQ s).2; omega) hr).many⟩
 have hrd:dQ ⟨(aN s).1.label,(aN s).1.op,al.map In.ts⟩ (decide ((w.sec:Int)=1))=dQ (aN s).1 (decide (w.sec=1)):=by rw [JL,← hln]
 refine ad b3 ((aN s).1.label,(aN s).1.op,(p,al.length,c),()) rfl ?_;dsimp only [flat,aD,aj,nA,cA];refine ai rfl ?_;rw [au];refine ad a3.box ((w.sec:Int),()) rfl ?_;dsimp only [flat,aD,aj,nA,cA];generalize hrr:dQ (aN s).1 (decide (w.sec=1))=rr at *;have tail:∀ {h4 h6:Hp} {y:Nat} {u:Value},Ext h3 h4→h4.size=h4.size→True:=fun _ _=>trivial
 refine ⟨?_,?_,trivial⟩
 ·refine aF (DY tb3 v hal (w.sec:Int)) ?_;rintro u h4 qq;rw [hrd] at qq;have e4:=qq.1;have e04:=e03.trans e4;cases rr with
  | error er =>
   obtain ⟨rfl,hne⟩:=AM qq;refine ⟨((0:Int),(none,0,0),bT,(none,0,0),(0:Int),(0:Int),(er:Int),()),rfl,?_⟩;dsimp only [flat,aD,aj,nA,cA];refine aW ?_;intro h5 b5 e5 z5;have e35:=e4.trans e5;refine ⟨⟨(a3.box.af e35 (by simp)).cells _ rfl,(b3.af e35 (by simp)).cells _ rfl,trivial⟩,?_⟩;refine an b5 rfl (by simp) ?_;intro h6 b6 k6 z6;refine bC (by simp; omega) ?_;exact ⟨rfl,hne,Ch.trans (e04.trans e5) k6 (fun i hi hl=>by have:=e04.size; simp at hi; omega)⟩
  | ok tg =>
   obtain ⟨sl,us,se,rfl,At⟩:=DV qq;obtain ⟨ok,sz⟩:=hok tg rfl;refine ⟨((tg.kind:Int),(sl.p,sl.l,sl.c),tg.name,(se.p,se.l,se.c),(tg.e.num:Int),(tg.sec:Int),(0:Int),()),rfl,?_⟩;dsimp only [flat,aD,aj,nA,cA];refine aW ?_;intro h5 b5 e5 z5;have e35:=e4.trans e5;refine ⟨⟨(a3.box.af e35 (by simp)).cells _ rfl,(b3.af e35 (by simp)).cells _ rfl,trivial⟩,?_⟩;refine an b5 rfl (by simp) ?_;intro h6 b6 k6 z6;have b6:aM h6 h4.size 134 (sI tg.kind sl.p sl.l sl.c tg.name se.p se.l se.c tg.e.num tg.sec):=b6;have z34:=e4.size;have e46:Ext h4 h6:=Ch.trans e5 k6 (fun i hi hl=>by simp at hi; omega);have e36:=e4.trans e46;have At6:=At.af e46 (by simp);obtain ⟨ow1,ho1,O⟩:=pZ.of (b:=b) At6 (by omega) (dP h.size 9 ow);have rl:∀ i,i<h3.size→dP h4.size 9 ow1 i=dP h.size 9 ow i:=fun i hi=>(cG (by omega)).trans (ho1 i hi)
   have O6:pZ h6 b tg sl us se (dP h4.size 9 ow1):=⟨O.jZ,O.own,O.eq,O.e,fun i hi=>(cG (Sx.SL.bR At.jZ.out hi).2).trans (O.o9 i hi),fun u hu i hi=>(cG (Sx.SL.bR (At.jZ.own u hu) hi).2).trans (O.ou u hu i hi),fun i hi=>(cG (Sx.SL.bR At.e hi).2).trans (O.oe i hi)⟩
   exact ui hb (e03.trans e36) W hE hG hn ⟨(a3.relabel rl).af e36 (by simp),b3.af e36 (by simp),b6,O6,(rl h1.size b3.lt).trans ox3,vG (Nat.le_refl _),Ab.GS (e03.trans e36) qs (fun i hi=>(rl i (by have:=qs i hi; omega)).trans ((cG (qs i hi)).trans (qo i hi)))⟩ hlab ok sz
 ·refine aW ?_;intro h5 b5 e5 z5;have e05:=e03.trans e5;refine ⟨⟨(a3.box.af e5 (by simp)).cells _ rfl,(b3.af e5 (by simp)).cells _ rfl,trivial⟩,?_⟩;refine aF (DY (tb3.af e5 (by simp)) (v.af e5) hal (w.sec:Int)) ?_;rintro u h4 qq;rw [hrd] at qq;have e4:=qq.1;have e04:=e05.trans e4;have b54:=b5.af e4 (by simp);cases rr with
  | error er =>
   obtain ⟨rfl,hne⟩:=AM qq;refine ⟨((0:Int),(none,0,0),bT,(none,0,0),(0:Int),(0:Int),(er:Int),()),rfl,?_⟩;dsimp only [flat,aD,aj,nA,cA];refine an b54 rfl (by simp) ?_;intro h6 b6 k6 z6;refine bC (by simp; omega) ?_;exact ⟨rfl,hne,Ch.trans e04 k6 (fun i hi hl=>by simp at hi; omega)⟩
  | ok tg =>
   obtain ⟨sl,us,se,rfl,At⟩:=DV qq;obtain ⟨ok,sz⟩:=hok tg rfl;refine ⟨((tg.kind:Int),(sl.p,sl.l,sl.c),tg.name,(se.p,se.l,se.c),(tg.e.num:Int),(tg.sec:Int),(0:Int),()),rfl,?_⟩;dsimp only [flat,aD,aj,nA,cA];refine an b54 rfl (by simp) ?_;intro h6 b6 k6 z6;have b6:aM h6 h3.size 134 (sI tg.kind sl.p sl.l sl.c tg.name se.p se.l se.c tg.e.num tg.sec):=b6;have z54:=e4.size;have e36:Ext h3 h6:=Ch.trans (e5.trans e4) k6 (fun i hi hl=>by simp at hi; omega);have At6:=At.af k6 (fun i hi _=>by simp at hi; omega);obtain ⟨ow1,ho1,O6⟩:=pZ.of (b:=b) At6 (by omega) (dP h.size 9 ow);exact ui hb (e03.trans e36) W hE hG hn ⟨(a3.relabel (ow':=ow1) (fun i hi=>ho1 i (by omega))).af e36 (by simp),b3.af e36 (by simp),b6,O6,(ho1 h1.size (by have:=b3.lt; omega)).trans ox3,(ho1 h3.size (by omega)).trans (vG (by omega)),Ab.GS (e03.trans e36) qs (fun i hi=>(ho1 i (by have:=qs i hi; omega)).trans ((cG (qs i hi)).trans (qo i hi)))⟩ hlab ok sz
def MY (t d e:bE) (sec:Int) (N G Li:bE):List Value:=[t.v,d.v,e.v,.slice none 0 0,.int .i64 sec,N.v,G.v,Li.v]
def MA (n:Nat):List Value:=[.int .i64 (n:Int)]
structure qB (h:Hp) (b B:Nat) (w:eF) (t d e N G Li:bE) (ut ud:List (bE × bD)) (ue:List (bE × kl)) (ow:Nat→Nat):Prop where
 core:Core h b w.text w.data w.aQ t d e ut ud ue ow
 box:aM h B 142 (MY t d e (w.sec:Int) N G Li)
 names:SN h b N.p N.l N.c w.names
 aG:SN h b G.p G.l G.c (w.aG.map (·.1))
 lines:SL h b 3 1 Li.p Li.l Li.c ((w.aG.map (·.2)).map MA)
 oB:ow B=6
 oN:∀ i,i∈az N.p→ow i=7
 oG:∀ i,i∈az G.p→ow i=8
 oL:∀ i,i∈az Li.p→ow i=12
 bB:b≤B
section
variable {h h':Hp} {b B:Nat} {w:eF} {t d e N G Li:bE} {ut ud:List (bE × bD)} {ue:List (bE × kl)} {ow:Nat→Nat}
theorem qB.af {ws:List Nat} (a:qB h b B w t d e N G Li ut ud ue ow) (k:Ch ws h h') (hw:∀ i,i∈ws→i<h.size→b≤i→ow i=9):qB h' b B w t d e N G Li ut ud ue ow:=by
 have n:∀ k0,k0≠9→∀ i,i∈ws→i<h.size→b≤i→ow i≠k0:=fun k0 hk i h1 h2 h3=>by have:=hw i h1 h2 h3; omega
 exact ⟨a.core.af k (fun i h1 h2 h3=>by have:=hw i h1 h2 h3; omega),a.box.af k (fun hm=>by have:=hw B hm a.box.lt a.bB; have:=a.oB; omega),SL.cJ a.names k a.oN (n 7 (by omega)),SL.cJ a.aG k a.oG (n 8 (by omega)),SL.cJ a.lines k a.oL (n 12 (by omega)),a.oB,a.oN,a.oG,a.oL,a.bB⟩
theorem qB.dl (a:qB h b B w t d e N G Li ut ud ue ow):d.l=w.data.length:=by rw [a.core.d1.1,List.length_map,rJ a.core.d3]
theorem qB.nl (a:qB h b B w t d e N G Li ut ud ue ow):N.l=w.names.length:=SN.len a.names
theorem qB.ll (a:qB h b B w t d e N G Li ut ud ue ow):Li.l=w.aG.length:=by rw [a.lines.1,List.length_map,List.length_map]
end
structure NF (qq:Nat→Prop) (h0 h:Hp) (b B x y:Nat) (w:eF) (lb opn:ByteArray) (pA:Option Addr) (lA cA:Nat) (tg:kV) (t d e N G Li sl se:bE) (ut ud us:List (bE × bD)) (ue:List (bE × kl)) (ow:Nat→Nat):Prop where
 a:qB h b B w t d e N G Li ut ud ue ow
 bx:aM h x 191 [.string lb,.string opn,.slice pA lA cA]
 x9:aM h y 194 (sI tg.kind sl.p sl.l sl.c tg.name se.p se.l se.c tg.e.num tg.sec)
 o:pZ h b tg sl us se ow
 ox:ow x=9
 oy:ow y=9
 ab:Ab b qq ow h0 h
theorem NF.ext {qq:Nat→Prop} {h0 h h':Hp} {b B x y:Nat} {w:eF} {lb opn:ByteArray} {pA:Option Addr} {lA cA:Nat} {tg:kV} {t d e N G Li sl se:bE} {ut ud us:List (bE × bD)} {ue:List (bE × kl)} {ow:Nat→Nat} (s:NF qq h0 h b B x y w lb opn pA lA cA tg t d e N G Li sl se ut ud us ue ow) (k:Ext h h') :
  NF qq h0 h' b B x y w lb opn pA lA cA tg t d e N G Li sl se ut ud us ue ow :=
 ⟨s.a.af k (by simp),s.bx.af k (by simp),s.x9.af k (by simp),s.o.af k (by simp),s.ox,s.oy,s.ab.BC k (fun _ _=>rfl)⟩
set_option maxHeartbeats 4000000 in
theorem xq:∀ (l cd r:List UInt8),(∀ c,c∈l→nl c=true)→dT cd (l++10::r)=(cd++l)::dT [] r
 | [],cd,r,_=>by simp [oZ]
 | c::l,cd,r,h=>by
  have hc:¬ c=10:=by simpa [nl] using h c (by simp)
  rw [List.cons_append,oZ,if_neg hc,xq l (cd++[c]) r (fun x hx=>h x (by simp [hx]))]
  simp
theorem ux:∀ (l cd:List UInt8),(∀ c,c∈l→nl c=true)→dT cd l=if cd++l=[] then [] else [cd++l]
 | [],cd,_=>by simp [DK]
 | c::l,cd,h=>by
  have hc:¬ c=10:=by simpa [nl] using h c (by simp)
  rw [oZ,if_neg hc,ux l (cd++[c]) (fun x hx=>h x (by simp [hx]))]
  simp
theorem BA:∀ (f:Nat) (s:List UInt8),s.length<f→aX f s=dT [] s
 | 0,s,h=>by omega
 | f+1,s,h=>by
  by_cases s0:s=[]
  ·subst s0; rfl
  rcases D3 s with hn | ⟨l,r,rfl,hl⟩
  ·rw [uB f s hn s0,ux s [] hn,List.nil_append,if_neg s0]
  ·simp only [List.length_append,List.length_cons] at h;rw [Ai f l r hl,xq l [] r hl,BA f r (by omega)];rfl
theorem xc (s:ByteArray):JH s=gD s:=by
 refine (Lk ?_).symm;unfold gD;rw [List.map_map,BA _ _ (by simp)]
 have:∀ l:List (List UInt8),l.map ((fun x:ByteArray=>x.data.toList) ∘ fun l=>(⟨l.toArray⟩:ByteArray))=l:=fun l=>by
  induction l with
  | nil=>rfl
  | cons x l ih=>rw [List.map_cons,ih]; simp
 exact this _
/-! Faults,a line more. -/
theorem wz {w w':eF} {n:Nat} {s:ByteArray} (h:ew w n s=.ok w'):w'.aQ.length≤w.aQ.length+1∧w'.aG.length≤w.aG.length+1:=by
 unfold ew at h;split at h
 ·cases h
 split at h
 ·cases h
 split at h
 ·cases h
 split at h
 ·cases h
 split at h
 ·cases h
 injection h with h
 subst h;unfold jt;simp only;constructor
 ·split
  ·simp
  ·omega
 ·split
  ·simp
  ·omega
/-! Sizes. -/
structure MP (n:Nat) (w:eF):Prop where
 text:∀ x,x∈w.text→Bd n x
 data:∀ x,x∈w.data→Bd n x
 aQ:∀ x,x∈w.aQ→x.2.aC.length≤n
theorem Il {w w':eF} {n k:Nat} {s:ByteArray} (hs:s.size+1≤n) (hb:s.size≤2^20) (S:MP n w) (h:ew w k s=.ok w'):MP n w':=by
 unfold ew at h;split at h
 ·cases h
 split at h
 ·cases h
 split at h
 ·cases h
 rename_i t ht;split at h
 ·cases h
 split at h
 ·cases h
 injection h with h
 have f:=ix s hb;have z:=AZ (n:=n) (by omega) (fun a ha=>⟨(f a ha).1,by have:=(eQ s).1 a ha; omega⟩) (by have:=(eQ s).2; omega) ht;generalize (aN s).1.label=lb at *;have hits:∀ x,x∈kg lb t→Bd n x:=by
  intro x hx;unfold kg at hx;rcases List.mem_append.1 hx with hx | hx
  ·split at hx
   ·simp at hx
   ·have:=List.mem_singleton.1 hx
    subst this;simp [Bd,xj,cU,dZ]
  ·exact z.item x hx
 subst h;refine ⟨?_,?_,?_⟩
 ·intro x hx;unfold jt at hx;simp only at hx;split at hx
  ·rcases List.mem_append.1 hx with hx | hx
   ·exact S.text x hx
   ·exact hits x hx
  ·exact S.text x hx
 ·intro x hx;unfold jt at hx;simp only at hx;split at hx
  ·exact S.data x hx
  ·rcases List.mem_append.1 hx with hx | hx
   ·exact S.data x hx
   ·exact hits x hx
 ·intro x hx;unfold jt at hx;simp only at hx;split at hx
  ·rcases List.mem_append.1 hx with hx | hx
   ·exact S.aQ x hx
   ·have:=List.mem_singleton.1 hx
    subst this;exact z.e
  ·exact S.aQ x hx
theorem D6 {n:Nat}:∀ (l:List ByteArray) (w w':eF) (k:Nat),(∀ s,s∈l→s.size+1≤n∧s.size≤2^20)→MP n w→gF w k l=.ok w'→MP n w'
 | [],w,w',k,_,S,h=>by
  simp only [gF] at h;injection h with h
  subst h;exact S
 | s::l,w,w',k,hs,S,h=>by
  simp only [gF] at h;split at h
  ·cases h
  ·rename_i w1 h1;exact D6 l w1 w' (k+1) (fun x hx=>hs x (by simp [hx])) (Il (hs s (by simp)).1 (hs s (by simp)).2 S h1) h
def lO (h:Hp) (b:Nat) (a b' c d:bE) (u:fU):Prop:=∃ ut ud ue ow,Core h b u.text u.data u.aQ a b' c ut ud ue ow∧SN h b d.p d.l d.c u.aG
theorem lO.zero (h:Hp) (b:Nat):lO h b fV fV fV fV tS:=⟨[],[],[],fun _=>0,Core.nil _ _ _,SL.nil _ _ _ _⟩
end Go.Sx.Ob
