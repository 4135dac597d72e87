/- Contracts over heaps, and plain laws, for the functions that the laws of chapter 9 call, part 5: The sizes of what is read, and the law's own comparisons, over heaps. Lists of n Condition: as each statement says. -/
import Derived.Test.YtfkjiiapldkoeaaGreatDoorP4
import Derived.Test.YtfkjiiapldkoeaaGreatDoorAtL
set_option linter.unusedVariables false
set_option linter.unusedSimpArgs false
set_option maxRecDepth 100000
namespace Go.Sx.Ob
open Go.Proofs
variable {K:Value→Hp→Prop}
theorem lJ {ts:List Tok} {x:eS} (hw:Wf ts) (h:bU ts=.ok x):x.aw.length≤ts.length:=by
 unfold bU at h
 have:=kJ 32 ts hw
 cases hs:mS 32 ts with
 | error e=>rw [hs] at h; cases h
 | ok q =>
  rw [hs] at h this;simp only at h;split at h
  ·injection h with h
   subst h;obtain ⟨_,_,_,h4⟩:=this;omega
  ·cases h
theorem F1 {pool:Bool} {ts:List Tok} {x:eS} (hw:Wf ts) (h:rC pool ts=.ok x):x.aw.length≤ts.length:=by
 unfold rC at h;split at h
 ·exact lJ hw h
 ·split at h
  ·cases h
  ·split at h
   ·have:=lJ hw.tail h
    simp only [List.length_cons]; omega
   ·cases h
def Bd (n:Nat) (x:bC):Prop:=x.e.aw.length≤n
theorem F5 {n:Nat} {x y:bC} {r:Dt} {ts:List Tok} (hw:Wf ts) (hn:ts.length≤n) (hx:Bd n x) (h:dH x r ts=.ok y):Bd n y:=by
 unfold dH at h;unfold Bd at *;split at h
 ·split at h
  ·cases h
  ·injection h with h
   subst h;split
   ·exact hx
   ·split
    ·exact hx
    ·exact hx
 ·split at h
  ·cases h
  ·injection h with h
   subst h;exact hx
 ·split at h
  ·cases h
  ·rename_i hv;injection h with h
   subst h
   have:=F1 hw hv
   simp only [zi]; omega
theorem xI {n:Nat}:∀ (rs:List Dt) (args:List (List Tok)) (x y:bC),(∀ a,a∈args→Wf a∧a.length≤n)→Bd n x→dQ x rs args=.ok y→Bd n y
 | [],args,x,y,_,hx,h=>by
  have h:Except.ok x=(Except.ok y:Except Nat bC):=by cases args <;> exact h
  injection h with h
  subst h;exact hx
 | r::rs,[],x,y,_,hx,h=>by
  simp only [dQ] at h;injection h with h
  subst h;exact hx
 | r::rs,a::args,x,y,ha,hx,h=>by
  simp only [dQ] at h;split at h
  ·cases h
  ·rename_i z hz;exact xI rs args z y (fun b hb=>ha b (by simp [hb])) (F5 (ha a (by simp)).1 (ha a (by simp)).2 hx hz) h
theorem ES {n:Nat} {op:Int} {args:List (List Tok)} {y:bC} (ha:∀ a,a∈args→Wf a∧a.length≤n) (h:eC op args=.ok y):Bd n y:=by
 unfold eC at h;split at h
 ·cases h
 ·exact xI _ _ _ _ ha (by simp [Bd,dT,cR,dN]) h
theorem EE {n k:Nat} {ts:List Tok} {y:bC} (hw:Wf ts) (hn:ts.length≤n) (h:jq k ts=.ok y):Bd n y:=by
 unfold jq at h;split at h
 ·split at h
  ·cases h
  ·injection h with h
   subst h;simp [Bd,cR,dN]
 ·split at h
  ·cases h
  ·rename_i x hx;injection h with h
   subst h
   have:=lJ hw hx
   unfold Bd; simp only; omega
theorem pW {n k:Nat}:∀ (args:List (List Tok)) (l:List bC),(∀ a,a∈args→Wf a∧a.length≤n)→cF k args=.ok l→l.length=args.length∧∀ x,x∈l→Bd n x
 | [],l,_,h=>by
  simp only [cF] at h;injection h with h
  subst h
  simp
 | a::args,l,ha,h=>by
  simp only [cF] at h;split at h
  ·cases h
  ·rename_i x hx;split at h
   ·cases h
   ·rename_i l' hl;injection h with h
    subst h
    have:=pW args l' (fun b hb=>ha b (by simp [hb])) hl
    refine ⟨by simp [this.1],fun y hy=>?_⟩;rcases List.mem_cons.1 hy with rfl | hy
    ·exact EE (ha a (by simp)).1 (ha a (by simp)).2 hx
    ·exact this.2 y hy
structure na (n:Nat) (t:kg):Prop where
 many:t.items.length≤n
 item:∀ x,x∈t.items→Bd n x
 e:t.e.aw.length≤n
theorem na.z (n:Nat):na n bF:=⟨by simp [bF],by simp [bF],by simp [bF,dN]⟩
theorem na.one {n:Nat} {x:bC} (hn:1≤n) (h:Bd n x):na n (fc x):=⟨by simp [fc]; omega,by simp [fc]; exact h,by simp [fc,bF,dN]⟩
theorem HF {n:Nat} {op:ByteArray} {args:List (List Tok)} {t:kg} {w:Nat} (hn:1≤n) (ha:∀ a,a∈args→Wf a∧a.length≤n) (hl:args.length≤n) (h:fZ op args=.ok (t,w)):na n t:=by
 have hag:∀ i,Wf (ag args i)∧(ag args i).length≤n:=by
  intro i;unfold ag;rw [List.getD_eq_getElem?_getD];cases hh:args[i]? with
  | none=>exact ⟨fun t ht=>by simp at ht,by simp⟩
  | some a=>exact ha a (List.mem_of_getElem? hh)
 have z:∀ x:bC,x.e=dN→Bd n x:=fun x hx=>by unfold Bd; rw [hx]; simp [dN]
 unfold fZ at h;simp only at h;split at h
 ·cases h
 split at h
 ·injection h with h; injection h with h _; subst h
  exact na.one hn (z _ rfl)
 split at h
 ·split at h
  ·cases h
  split at h
  ·injection h with h; injection h with h _; subst h
   exact na.one hn (z _ rfl)
  ·cases h
 split at h
 ·split at h
  ·cases h
  injection h with h; injection h with h _; subst h
  exact na.one hn (z _ rfl)
 split at h
 ·split at h
  ·cases h
  split at h
  ·cases h
  rename_i l hh;injection h with h; injection h with h _; subst h
  have:=pW args l ha hh
  exact ⟨by simp only; omega,this.2,by simp [bF,dN]⟩
 split at h
 ·split at h
  ·cases h
  split at h
  ·cases h
  rename_i l hh;injection h with h; injection h with h _; subst h
  have:=pW args l ha hh
  exact ⟨by simp only; omega,this.2,by simp [bF,dN]⟩
 split at h
 ·split at h
  ·cases h
  split at h
  ·cases h
  rename_i x hx;injection h with h; injection h with h _; subst h
  have:=lJ (hag 1).1 hx
  exact ⟨by simp [bF],by simp [bF],by have:=(hag 1).2; simp only; omega⟩
 split at h
 ·split at h
  ·cases h
  injection h with h; injection h with h _; subst h
  exact ⟨by simp [bF],by simp [bF],by simp [bF,dN]⟩
 split at h
 ·split at h
  ·injection h with h; injection h with h _; subst h
   exact ⟨by simp [bF],by simp [bF],by simp [bF,dN]⟩
  split at h
  ·injection h with h; injection h with h _; subst h
   exact ⟨by simp [bF],by simp [bF],by simp [bF,dN]⟩
  ·cases h
 ·cases h
theorem AI {n:Nat} {l:Ln} {data:Bool} {t:kg} (hn:1≤n) (ha:∀ a,a∈l.args→Wf a∧a.length≤n) (hl:l.args.length≤n) (h:dF l data=.ok t):na n t:=by
 unfold dF at h;split at h
 ·injection h with h
  subst h;exact na.z n
 split at h
 ·split at h
  ·cases h
  rename_i x hx;split at h
  ·cases h
  injection h with h
  subst h;exact na.one hn (ES ha hx)
 split at h
 ·cases h
 rename_i t' w' hd
 by_cases g:w'=2∨w'=(if data then 1 else 0)
 ·rw [if_pos g] at h;injection h with h
  subst h;exact HF hn ha hl hd
 ·rw [if_neg g] at h;cases h
theorem Kg {op:Int} (h:cK op≠0):Sm op:=by
 unfold cK at h;unfold Sm;split at h
 ·exact absurd rfl h
 ·by_cases g:op≤43
  ·omega
  ·exfalso;apply h;rw [List.getD_eq_getElem?_getD,List.getElem?_eq_none (by simp only [bT,List.length_cons,List.length_nil]; omega)] <;> rfl
def Hv (s:ByteArray):List Value:=[.string s]
abbrev SN (h:Hp) (b:Nat) (p:Option Addr) (l c:Nat) (xs:List ByteArray):Prop:=SL h b 9 1 p l c (xs.map Hv)
theorem SN.len {h:Hp} {b:Nat} {p:Option Addr} {l c:Nat} {xs:List ByteArray} (s:SN h b p l c xs):l=xs.length:=by
 have:=s.1
 rwa [List.length_map] at this
theorem SN.cell {h:Hp} {b:Nat} {p:Option Addr} {l c:Nat} {xs:List ByteArray} (s:SN h b p l c xs) {i:Nat} (hi:i<xs.length):∃ a,p=some a∧aH h (a.add (i*1)) 0 [.string xs[i]]:=by
 obtain ⟨a,ha,hc⟩:=SL.cells s (i:=i) (by rw [List.length_map]; exact hi);refine ⟨a,ha,?_⟩;rw [List.getElem_map] at hc;exact hc
theorem Md (D:List ByteArray) (s:ByteArray) (i:Nat) (hi:i<D.length):eQ (D.take (i+1)) s=(eQ (D.take i) s || decide (D[i]=s)):=by
 unfold eQ;rw [List.take_succ_eq_append_getElem hi,List.any_append]
 simp
theorem JJ {h:Hp} {b:Nat} {p:Option Addr} {l c:Nat} {xs:List ByteArray} (v:SN h b p l c xs) (hl:xs.length≤2^61) (s:ByteArray):ur Tryz.prog 50 [.slice p l c,.string s] h (.bool (eQ xs s)):=by
 refine ec mixed Tryz.func50 (by kernel_rfl) (mn p l c s) ?_;unfold iW;have n:=SN.len v;refine bm (cs:=[(false,[.bool]),(false,[.int .i64])]) (fun y m h'=>∃ i:Nat,y.2.1=(i:Int)∧m=xs.length-i∧i≤xs.length∧h'=h∧eQ (xs.take i) s=false) (false,(0:Int),()) xs.length rfl
  ⟨0,rfl,rfl,by omega,rfl,rfl⟩ ?_
 rintro ⟨b2,n3,⟨⟩⟩ m h' ⟨i,hi,rfl,hle,rfl,hn⟩;simp only at hi;subst hi;dsimp only [flat,aB,ai,nA,cA];refine af (fun q=>?_) (fun q=>?_)
 ·have q:=of_decide_eq_true q;have hil:i<xs.length:=by omega
  obtain ⟨a,ha,hc⟩:=SN.cell v hil;refine aA ⟨by omega,by omega⟩ (an ha ?_);rw [show Int.toNat (i:Int)=i by omega];refine aG (xs[i],()) hc ?_;dsimp only [flat,aB,ai,nA,cA];have hs:=Md xs s i hil;rw [H'];refine af (fun r=>?_) (fun r=>?_)
  ·have r:=of_decide_eq_true r;refine ⟨congrArg Value.bool ?_,rfl⟩;unfold eQ;exact (List.any_eq_true.2 ⟨_,List.getElem_mem hil,decide_eq_true r⟩).symm
  ·rw [hn,r] at hs;refine aM (cs:=[(false,[.bool]),(false,[.int .i64])]) (b2,((i+1:Nat):Int),()) (xs.length-(i+1)) rfl (by omega) (by rw [wrap_i64 (by omega) (by omega)]; rfl) ?_;exact ⟨i+1,rfl,rfl,by omega,rfl,hs⟩
 ·have q:=of_decide_eq_false q
  have:i=xs.length:=by omega
  subst this;rw [List.take_length] at hn;exact ⟨by rw [hn],rfl⟩
def dw (l:List bC):List ByteArray:=(l.filter fun x=>decide (x.kind=1)).map (·.name)
theorem DV (l:List bC) (i:Nat) (hi:i<l.length):dw (l.take (i+1))=dw (l.take i)++if l[i].kind=1 then [l[i].name] else []:=by
 unfold dw;rw [List.take_succ_eq_append_getElem hi,List.filter_append,List.map_append]
 congr 1
 by_cases hk:l[i].kind=1 <;> simp [hk]
theorem SN.push {L:Lp} {h:Hp} {b:Nat} {p:Option Addr} {l c:Nat} {xs:List ByteArray} (v:SN h b p l c xs) (x:ByteArray) (hl:xs.length≤2^40) (hb:b≤h.size) {k:Option Addr→Nat→Nat→T}
  (hk:∀ p' c' h',SN h' b p' (l+1) c' (xs++[x])→Ch (az p) h h'→k p' (l+1) c' L K h') :
  T.aY Tryz.prog (Instr.buildSlice 25 1 #[(0,.string x)]) false [(false,[.slice 0])] (fun q m cc=>T.aY Tryz.prog (Builtin.append_ #[25,25] 25 #[.slice p l c,.slice q m cc]) false [(false,[.slice 0])] k) L K h:=by
 have n:=SN.len v;refine nS (vs:=[.string x]) FI Ku rfl (by omega) (by omega) (by kernel_rfl) rfl rfl v hb (by omega) (by omega) ?_;intro p' c' h' s' ch _;refine hk p' c' h' ?_ ch;unfold SN;rw [List.map_append];exact s'
theorem SN.ext {h a b':Hp} {b:Nat} {p:Option Addr} {l c:Nat} {xs:List ByteArray} (e:Ext h a) (v:SN a b p l c xs) (hb:h.size≤b) (k:Ch (az p) a b'):Ext h b' :=
 Ch.trans e k (fun i hi hl=>by have:=(Ob.SL.bO v i hi).1; omega)
theorem xJ {h:Hp} {p:Option Addr} {l c:Nat} {us:List bC} (v:Cs h p l us) (hm:us.length≤2^20) :
  HC Tryz.prog 52 #[.slice p l c] h fun w h'=>∃ p' l' c',w=.slice p' l' c'∧SN h' h.size p' l' c' (dw us)∧Ext h h':=by
 refine aL (args:=[.slice p l c]) mixed Tryz.func52 (by kernel_rfl) (j0 p l c) ?_;unfold gB;have n:=v.len;refine bm (cs:=[(false,[.slice 0]),(false,[.int .i64])]) (fun y m h'=>∃ i:Nat,y.2.1=(i:Int)∧m=us.length-i∧i≤us.length∧Ext h h'∧(dw (us.take i)).length≤i∧SN h' h.size y.1.1 y.1.2.1 y.1.2.2 (dw (us.take i))) ((none,0,0),(0:Int),()) us.length rfl
  ⟨0,rfl,rfl,by omega,Ch.refl _ _,by simp [dw],SL.nil _ _ _ _⟩ ?_
 rintro ⟨⟨p1,l2,l3⟩,n4,⟨⟩⟩ m h1 ⟨i,hi,rfl,hle,e1,hll,s⟩;simp only at hi s;subst hi;dsimp only [flat,aB,ai,nA,cA];have hz:=e1.size;refine af (fun q=>?_) (fun q=>?_)
 ·have q:=of_decide_eq_true q;have hil:i<us.length:=by omega
  obtain ⟨aa,pp,ll,cc,pD,hc,va⟩:=(v.ah e1).cells i hil;have ht:=DV us i hil;generalize us[i]=x at hc va ht;refine aA ⟨by omega,by omega⟩ (an pD ?_);rw [show Int.toNat (i:Int)=i by omega];refine aG (x.kind,()) ⟨hc.1,trivial⟩ ?_;dsimp only [flat,aB,ai,nA,cA];refine af (fun r=>?_) (fun r=>?_)
  ·have r:x.kind=1:=by simpa using r
   rw [if_pos r] at ht;refine aA ⟨by omega,by omega⟩ (an pD ?_);refine aG (x.name,()) ⟨by rw [add_add]; exact hc.2.1,trivial⟩ ?_;dsimp only [flat,aB,ai,nA,cA];refine SN.push s x.name (by omega) (by omega) ?_;intro p' c' h2 s2 k2;refine aM (cs:=[(false,[.slice 0]),(false,[.int .i64])]) ((p',l2+1,c'),((i+1:Nat):Int),()) (us.length-(i+1)) rfl (by omega) (by rw [wrap_i64 (by omega) (by omega)]; rfl) ?_;exact ⟨i+1,rfl,rfl,by omega,SN.ext e1 s (Nat.le_refl _) k2,by rw [ht,List.length_append]; simp; omega,by rw [ht]; exact s2⟩
  ·have r:¬ x.kind=1:=by simpa using r
   rw [if_neg r,List.append_nil] at ht;refine aM (cs:=[(false,[.slice 0]),(false,[.int .i64])]) ((p1,l2,l3),((i+1:Nat):Int),()) (us.length-(i+1)) rfl (by omega) (by rw [wrap_i64 (by omega) (by omega)]; rfl) ?_;exact ⟨i+1,rfl,rfl,by omega,e1,by rw [ht]; omega,by rw [ht]; exact s⟩
 ·have q:=of_decide_eq_false q
  have:i=us.length:=by omega
  subst this;rw [List.take_length] at s;exact ⟨p1,l2,l3,rfl,s,e1⟩
theorem HD {L:Lp} {h:Hp} {k:Option Addr→Nat→Nat→T} {b b':Nat} {p:Option Addr} {l c:Nat} {xs:List ByteArray} (s:SN h b p l c xs) {q:Option Addr} {m d:Nat} {us:List ByteArray} (v:SN h b' q m d us)
  (hl:l+m≤2^40) (hb:b≤h.size)
  (hk:∀ p' c' h',SN h' b p' (l+m) c' (xs++us)→Ch (az p) h h'→k p' (l+m) c' L K h') :
  T.aY Tryz.prog (Builtin.append_ #[25,25] 25 #[.slice p l c,.slice q m d]) false [(false,[.slice 0])] k L K h:=by
 obtain ⟨i,hi,hz,hsz,hby⟩:=nI Ku;refine cV ?_;cases q with
 | none =>
  have h1:us=[]:=by
   have:=v.2.2.2
   simpa using this
  have h0:m=0:=by have:=SN.len v; rw [h1] at this; exact this
  have hd:d=0:=v.2.2.1;subst h0 h1 hd;have hc0:l≤c:=by
   cases p with
   | none =>
    have h2:=s.2.2.2;have h3:=s.1;rw [h2] at h3;simp at h3;omega
   | some a =>
    obtain ⟨g,pre,rest,rfl,hbg,hlc,_⟩:=s.2.2;exact hlc.1
  simp [Builtin.append_,aj,ay FI,bk hi,cQ hi,Builtin.lenOf,Builtin.firstCells,hc0];have hfin:∃ p' l' c',Value.slice p l c=.slice p' l' c'∧k p' l' c' L K h:=⟨p,l,c,rfl,by simpa using hk p c h (by simpa using s) (Ch.refl _ _)⟩
  cases p with
  | none=>exact hfin
  | some a=>exact hfin
 | some a =>
  have hc:aH h a 0 (us.map Hv).flatten:=by
   obtain ⟨g,pre,rest,rfl,hbg,hlc,hbox,hr⟩:=v.2.2;refine hbox.cells _ ?_;rw [List.drop_left,List.take_left]
  have hpl:(us.map Hv).flatten.all dY=true:=by
   rw [List.all_eq_true];intro x hx;obtain ⟨y,hy,hxy⟩:=List.mem_flatten.1 hx;obtain ⟨z,_,rfl⟩:=List.mem_map.1 hy;rw [List.mem_singleton.1 hxy] <;> rfl
  refine kR FI hi hz (by rw [hsz]; rfl) (by rw [hsz]; exact s) (ys:=us.map Hv) (by rw [List.length_map]; exact SN.len v) (fun y hy=>?_) hc hpl (by rw [hby]; omega) (by omega) hb ?_
  ·obtain ⟨t,_,rfl⟩:=List.mem_map.1 hy;rw [hsz] <;> rfl
  ·intro p' c' h' s' k' hp';rw [hsz,← List.map_append] at s';exact ⟨_,_,_,rfl,hk p' c' h' s' k'⟩
def BX (u:ig):List ByteArray:=dw u.text++dw u.data++u.aV.map (·.1)
theorem AS (l:List bC):(dw l).length≤l.length:=by
 unfold dw;rw [List.length_map];exact List.length_filter_le _ _
theorem CD {h:Hp} {a b c d:bL} {u:ig} (v:fO h a b c d u) (h1:u.text.length≤2^20) (h2:u.data.length≤2^20) (h3:u.aV.length≤2^20) :
  HC Tryz.prog 23 #[oD a b c d] h fun w h'=>∃ p' l' c',w=.slice p' l' c'∧SN h' h.size p' l' c' (BX u)∧Ext h h':=by
 refine aL (args:=[oD a b c d]) mixed Tryz.func23 (by kernel_rfl) (mi a.p a.l a.c b.p b.l b.c c.p c.l c.c d.p d.l d.c) ?_;unfold jj;refine aW ?_;intro g1 b1 e1 z1;have b1:aO g1 h.size 27 [a.v,b.v,c.v,d.v]:=b1;simp only [ao];refine ad b1 ((a.p,a.l,a.c),()) rfl ?_;dsimp only [flat,aB,ai,nA,cA];refine ad b1 ((b.p,b.l,b.c),()) rfl ?_;dsimp only [flat,aB,ai,nA,cA];refine aC (xJ (c:=a.c) (v.text.ah e1) h1) ?_;rintro _ g2 ⟨p8,l9,l10,rfl,s8,e2⟩;refine ⟨((p8,l9,l10),()),rfl,?_⟩;dsimp only [flat,aB,ai,nA,cA];have b2:=b1.ah e2 (by simp);refine ⟨⟨b2.cells _ rfl,trivial⟩,?_⟩;refine aC (xJ (c:=b.c) (v.data.ah (e1.trans e2)) h2) ?_;rintro _ g3 ⟨p11,l12,l13,rfl,s11,e3⟩;refine ⟨((p11,l12,l13),()),rfl,?_⟩;dsimp only [flat,aB,ai,nA,cA];have b3:=b2.ah e3 (by simp);have q1:=e1.size;have q2:=e2.size;have q3:=e3.size;refine ⟨⟨b3.cells _ rfl,trivial⟩,?_⟩;have s8':SN g3 g1.size p8 l9 l10 (dw u.text):=s8.ah e3 (by simp);have n8:=SN.len s8;have n11:=SN.len s11;have k8:=AS u.text;have k11:=AS u.data;have e03:=(e1.trans e2).trans e3;refine HD s8' s11 (by omega) (by omega) ?_;intro p14 c14 g4 s14 k4;have e4:=SN.ext e03 s8' (by omega) k4;have nb:h.size∉az p8:=fun hi=>by have:=(Ob.SL.bO s8' _ hi).1; omega
 have b4:=b3.ah k4 nb;refine ⟨⟨b4.cells _ rfl,b4.cells _ rfl,trivial⟩,?_⟩;have nc:=v.aV.len;have hu:∀ i,i<u.aV.length→dw u.text++dw u.data++(u.aV.take (i+1)).map (·.1)=(dw u.text++dw u.data++(u.aV.take i).map (·.1))++[(u.aV.getD i (bK,dN)).1]:=by
  intro i hi;rw [List.take_succ_eq_append_getElem hi,List.map_append,← List.append_assoc,List.getD_eq_getElem?_getD,List.getElem?_eq_getElem hi] <;> rfl
 refine bm (cs:=[(false,[.slice 0]),(false,[.int .i64])]) (fun y m h'=>∃ i:Nat,y.2.1=(i:Int)∧m=u.aV.length-i∧i≤u.aV.length∧(Ext h h'∧g1.size≤h'.size)∧aO h' h.size 27 [a.v,b.v,c.v,d.v]∧SN h' g1.size y.1.1 y.1.2.1 y.1.2.2 (dw u.text++dw u.data++(u.aV.take i).map (·.1))) ((p14,l9+l12,c14),(0:Int),()) u.aV.length rfl
  ⟨0,rfl,rfl,by omega,⟨e4,by have:=k4.size; omega⟩,b4,by simpa using s14⟩ ?_
 rintro ⟨⟨p1,l2,l3⟩,n4,⟨⟩⟩ m g5 ⟨i,hi,rfl,hle,⟨e5,z5⟩,b5,s⟩;simp only at hi s;subst hi;dsimp only [flat,aB,ai,nA,cA];have hz:=e5.size;refine ad b5 ((c.p,c.l,c.c),()) rfl ?_;dsimp only [flat,aB,ai,nA,cA];refine af (fun q=>?_) (fun q=>?_)
 ·have q:=of_decide_eq_true q;have hil:i<u.aV.length:=by omega
  refine ad b5 ((c.p,c.l,c.c),()) rfl ?_;dsimp only [flat,aB,ai,nA,cA];obtain ⟨aa,pp,ll,cc,pD,hc,va,vn⟩:=(v.aV.ah e5).cells i hil;refine aA ⟨by omega,by omega⟩ (an pD ?_);rw [show Int.toNat (i:Int)=i by omega];refine aG (u.aV[i].1,()) ⟨hc.1,trivial⟩ ?_;dsimp only [flat,aB,ai,nA,cA];have ns:=SN.len s;have hg:(u.aV.getD i (bK,dN)).1=u.aV[i].1:=by
   rw [List.getD_eq_getElem?_getD,List.getElem?_eq_getElem hil] <;> rfl
  refine SN.push s _ (by simp only [List.length_append,List.length_map,List.length_take]; omega) z5 ?_;intro p' c' h2 s2 k2;have nb2:h.size∉az p1:=fun hi=>by have:=(Ob.SL.bO s _ hi).1; omega
  refine aM (cs:=[(false,[.slice 0]),(false,[.int .i64])]) ((p',l2+1,c'),((i+1:Nat):Int),()) (u.aV.length-(i+1)) rfl (by omega) (by rw [wrap_i64 (by omega) (by omega)]; rfl) ?_;exact ⟨i+1,rfl,rfl,by omega,⟨SN.ext e5 s (by omega) k2,by have:=k2.size; omega⟩,b5.ah k2 nb2,by rw [hu i hil,hg]; exact s2⟩
 ·have q:=of_decide_eq_false q
  have:i=u.aV.length:=by omega
  subst this;rw [List.take_length] at s;exact ⟨p1,l2,l3,rfl,Sx.SL.mono s (by omega),e5⟩
theorem SN.put {L:Lp} {h:Hp} {b:Nat} {p:Option Addr} {l c:Nat} {xs:List ByteArray} (v:SN h b p l c xs) {i:Nat} (hi:i<xs.length) (x:ByteArray) {a:Addr} (ha:p=some a) {k:T}
  (hk:∀ h',SN h' b p l c (xs.set i x)→Ch (az p) h h'→h'.size=h.size→k L K h'):T.ap (a.add (i*1)) [.string x] k L K h:=by
 refine SL.store (P:=Tryz.prog) v (i:=i) (vs:=Hv x) (by rw [List.length_map]; exact hi) rfl rfl ha ?_;intro h' s' ch z;refine hk h' ?_ ch z;unfold SN;rw [List.map_set];exact s'
theorem Au (zs:List ByteArray) (j:Nat) (hj:0<j) (hl:j<zs.length):(zs.set j (zs[j-1]'(by omega))).eraseIdx (j-1)=zs.eraseIdx j:=by
 apply List.ext_getElem?;intro k;rw [List.getElem?_eraseIdx,List.getElem?_eraseIdx]
 by_cases h1:k<j-1
 ·rw [if_pos h1,if_pos (by omega),List.getElem?_set_ne (by omega)]
 ·rw [if_neg h1]
  by_cases h2:k<j
  ·have:k=j-1:=by omega
   subst this;rw [if_pos h2,show j-1+1=j by omega,List.getElem?_set_self hl,List.getElem?_eq_getElem (by omega)]
  ·rw [if_neg h2,List.getElem?_set_ne (by omega)]
theorem IY (zs:List ByteArray) (j:Nat) (hl:j<zs.length) (x s:ByteArray):eQ (zs.set j x) s=(eQ (zs.eraseIdx j) s || decide (x=s)):=by
 unfold eQ;rw [List.set_eq_take_append_cons_drop,if_pos hl,List.eraseIdx_eq_take_drop_succ];simp only [List.any_append,List.any_cons]
 all_goals (cases List.any (zs.take j) (fun t=>decide (t=s)) <;> cases List.any (zs.drop (j+1)) (fun t=>decide (t=s)) <;> cases decide (x=s) <;> rfl)
theorem fm {D:List ByteArray} {s:ByteArray}:eQ D s=true↔s∈D:=by
 unfold eQ;rw [List.any_eq_true];constructor
 ·rintro ⟨t,ht,e⟩;rw [← of_decide_eq_true e];exact ht
 ·intro hs;exact ⟨s,hs,decide_eq_true rfl⟩
theorem lB (l:List ByteArray) (x:ByteArray):(l++[x]).Nodup↔l.Nodup∧x∉l:=by
 rw [List.nodup_append];constructor
 ·rintro ⟨a,_,c⟩;exact ⟨a,fun hx=>c x hx x (by simp) rfl⟩
 ·rintro ⟨a,b⟩;refine ⟨a,by simp,fun y hy z hz e=>?_⟩;rw [List.mem_singleton.1 hz] at e;exact b (e▸hy)
theorem yJ {h : Hp} {b : Nat} {p : Option Addr} {l c : Nat} {xs : List ByteArray} (v : SN h b p l c xs) (hm : xs.length ≤ 2 ^ 30) :
    HC Tryz.prog 22 #[.slice p l c] h fun w h' => ∃ p' c' ys, w = .slice p' (ys : List ByteArray).length c' ∧ ys.length ≤ xs.length ∧ (ys.length = xs.length ↔ xs.Nodup) ∧ Ext h h' := by
  refine aL (args := [.slice p l c]) mixed Tryz.func22 (by kernel_rfl) (kf p l c) ?_;unfold gn;have n := SN.len v
  refine bm (cs := [(false, [.slice 0]), (false, [.int .i64])]) (fun y m h' => ∃ (i : Nat) (ys : List ByteArray), y.2.1 = (i : Int) ∧ m = xs.length - i ∧ i ≤ xs.length ∧ Ext h h' ∧ SN h' h.size y.1.1 y.1.2.1 y.1.2.2 ys ∧ ys.length ≤ i ∧ (∀ s, eQ ys s = eQ (xs.take i) s) ∧ (ys.length = i ↔ (xs.take i).Nodup)) ((none, 0, 0), (0 : Int), ()) xs.length rfl
    ⟨0, [], rfl, rfl, by omega, Ch.refl _ _, SL.nil _ _ _ _, by simp, fun s => rfl, by simp⟩ ?_
  rintro ⟨⟨p1, l2, l3⟩, n4, ⟨⟩⟩ m h1 ⟨i, ys, hi, rfl, hle, e1, s, hyl, hin, hnd⟩;simp only at hi s;subst hi;dsimp only [flat, aB, ai, nA, cA];have hz := e1.size;have ny := SN.len s;refine af (fun q => ?_) (fun q => ?_)
  · have q := of_decide_eq_true q
    have hil : i < xs.length := by omega
    have hx : ∀ {g}, Ext h g → ∃ a, p = some a ∧ aH g (a.add (i * 1)) 0 [.string xs[i]] := by
      intro g e;obtain ⟨a, ha, hc⟩ := SN.cell v hil;exact ⟨a, ha, bt e (by simp) _ _ hc⟩
    have htk : xs.take (i + 1) = xs.take i ++ [xs[i]] := List.take_succ_eq_append_getElem hil;generalize hxv : xs[i] = x at hx htk;obtain ⟨a, ha, hc⟩ := hx e1;refine aA ⟨by omega, by omega⟩ (an ha ?_);rw [show Int.toNat (i : Int) = i by omega];refine aG (x, ()) hc ?_;dsimp only [flat, aB, ai, nA, cA];refine aE (JJ s (by omega) x) ?_;rw [hin];have hinx : eQ (xs.take i) x = true ↔ x ∈ xs.take i := fm;refine af (fun r => ?_) (fun r => ?_)
    · have r2 := hinx.1 r
      refine aM (cs := [(false, [.slice 0]), (false, [.int .i64])]) ((p1, l2, l3), ((i + 1 : Nat) : Int), ()) (xs.length - (i + 1)) rfl (by omega) (by rw [wrap_i64 (by omega) (by omega)]; rfl) ?_;refine ⟨i + 1, ys, rfl, rfl, by omega, e1, s, by omega, fun t => ?_, ?_⟩
      · rw [hin, htk]
        by_cases e : x = t
        · subst e
          rw [r];exact (fm.2 (List.mem_append.2 (.inl r2))).symm
        · unfold eQ
          rw [List.any_append];simp [e]
      · rw [htk, lB]
        exact ⟨fun k => by omega, fun k => absurd r2 k.2⟩
    · have r2 : x ∉ xs.take i := fun k => by rw [hinx.2 k] at r; cases r
      refine aA ⟨by omega, by omega⟩ (an ha ?_);refine aG (x, ()) hc ?_;dsimp only [flat, aB, ai, nA, cA];refine SN.push s x (by omega) hz ?_;intro p' c' h2 s2 k2;have e2 := SN.ext e1 s (Nat.le_refl _) k2
      refine bm (cs := [(false, [.int .i64])]) (fun y m h' => ∃ (j : Nat) (zs : List ByteArray), y.1 = (j : Int) ∧ m = j ∧ j ≤ ys.length ∧ zs.length = ys.length + 1 ∧ zs.eraseIdx j = ys ∧ Ext h h' ∧ SN h' h.size p' (l2 + 1) c' zs) ((l2 : Int), ()) ys.length rfl
        ⟨ys.length, ys ++ [x], by rw [ny], rfl, by omega, by simp, by rw [List.eraseIdx_append_of_length_le (by omega)]; simp, e2, s2⟩ ?_
      rintro ⟨n16, ⟨⟩⟩ m h3 ⟨j, zs, hj, rfl, hjl, hzl, hze, e3, s3⟩;simp only at hj;subst hj;dsimp only [flat, aB, ai, nA, cA]
      have hpl : ∃ a2, p' = some a2 := by
        obtain ⟨a2, h2, _⟩ := SN.cell s3 (i := 0) (by omega);exact ⟨a2, h2⟩
      obtain ⟨a2, ha2⟩ := hpl
      have last : (T.need (((0 : Int) ≤ (i : Int)) ∧ ((i : Int) < (l : Int))) <|
         T.au p fun (a21 : Addr) =>
         T.ae (a21.add ((Int.toNat (i : Int)) * 1)) [.string] <| fun (s22 : ByteArray) =>
         T.need (((0 : Int) ≤ (m : Int)) ∧ ((m : Int) < ((l2 + 1 : Nat) : Int))) <|
         T.au p' fun (a23 : Addr) =>
         T.ap (a23.add ((Int.toNat (m : Int)) * 1)) [.string s22] <|
         T.again 0 [.slice p' (l2 + 1) c', .int .i64 (IntKind.wrap .i64 ((i : Int) + (1 : Int)))])
         ([] ++ [Jl (cs := [(false, [.slice 0]), (false, [.int .i64])]) (fun y m h' => ∃ (i : Nat) (ys : List ByteArray), y.2.1 = (i : Int) ∧ m = xs.length - i ∧ i ≤ xs.length ∧ Ext h h' ∧ SN h' h.size y.1.1 y.1.2.1 y.1.2.2 ys ∧ ys.length ≤ i ∧ (∀ s, eQ ys s = eQ (xs.take i) s) ∧ (ys.length = i ↔ (xs.take i).Nodup)) (xs.length - i)] ++
          [Jl (cs := [(false, [.int .i64])]) (fun y m h' => ∃ (j : Nat) (zs : List ByteArray), y.1 = (j : Int) ∧ m = j ∧ j ≤ ys.length ∧ zs.length = ys.length + 1 ∧ zs.eraseIdx j = ys ∧ Ext h h' ∧ SN h' h.size p' (l2 + 1) c' zs) m])
         (fun w h' => ∃ p' c' ys, w = .slice p' (ys : List ByteArray).length c' ∧ ys.length ≤ xs.length ∧ (ys.length = xs.length ↔ xs.Nodup) ∧ Ext h h') h3 := by
        obtain ⟨a, ha, hc⟩ := hx e3;refine aA ⟨by omega, by omega⟩ (an ha ?_);rw [show Int.toNat (i : Int) = i by omega];refine aG (x, ()) hc ?_;dsimp only [flat, aB, ai, nA, cA];refine aA ⟨by omega, by omega⟩ (an ha2 ?_);rw [show Int.toNat (m : Int) = m by omega];refine SN.put s3 (by omega) x ha2 ?_;intro h4 s4 k4 z4;refine aM (cs := [(false, [.slice 0]), (false, [.int .i64])]) ((p', l2 + 1, c'), ((i + 1 : Nat) : Int), ()) (xs.length - (i + 1)) rfl (by omega) (by rw [wrap_i64 (by omega) (by omega)]; rfl) ?_;refine ⟨i + 1, zs.set m x, rfl, rfl, by omega, SN.ext e3 s3 (Nat.le_refl _) k4, s4, by rw [List.length_set]; omega, fun t => ?_, ?_⟩
        · rw [IY zs m (by omega), hze, hin, htk]
          unfold eQ;rw [List.any_append]
          simp
        · rw [List.length_set, htk, lB, ← hnd, hzl]
          exact ⟨fun k => ⟨by omega, r2⟩, fun k => by omega⟩
      refine af (fun q2 => ?_) (fun q2 => last);have q2 := of_decide_eq_true q2;rw [wrap_i64 (by omega) (by omega)];obtain ⟨a3, ha3, hc3⟩ := SN.cell s3 (i := m - 1) (by omega);refine aA ⟨by omega, by omega⟩ (an ha3 ?_);rw [show Int.toNat ((m : Int) - 1) = m - 1 by omega];refine aG (zs[m - 1]'(by omega), ()) hc3 ?_;dsimp only [flat, aB, ai, nA, cA];obtain ⟨a, ha, hc⟩ := hx e3;refine aA ⟨by omega, by omega⟩ (an ha ?_);refine aG (x, ()) hc ?_;dsimp only [flat, aB, ai, nA, cA];refine af (fun q3 => ?_) (fun q3 => ?_)
      · refine aA ⟨by omega, by omega⟩ (an ha3 ?_)
        refine aG (zs[m - 1]'(by omega), ()) hc3 ?_;dsimp only [flat, aB, ai, nA, cA];refine aA ⟨by omega, by omega⟩ (an ha2 ?_);rw [show Int.toNat (m : Int) = m by omega];refine SN.put s3 (by omega) _ ha2 ?_;intro h4 s4 k4 z4;refine aM (cs := [(false, [.int .i64])]) (((m - 1 : Nat) : Int), ()) (m - 1) rfl (by omega) (by rw [show (m : Int) - 1 = ((m - 1 : Nat) : Int) by omega]; rfl) ?_;exact ⟨m - 1, _, rfl, rfl, by omega, by rw [List.length_set]; exact hzl, by rw [Au zs m (by omega) (by omega)]; exact hze, SN.ext e3 s3 (Nat.le_refl _) k4, s4⟩
      · have := last
        rw [show Int.toNat (i : Int) = i by omega] at this;exact this
  · have q := of_decide_eq_false q
    have : i = xs.length := by omega
    subst this;rw [List.take_length] at hnd;exact ⟨p1, l3, ys, by rw [ny], hyl, hnd, e1⟩
def Fi (e:lz):Bool:=bh e.1.data.toList && rY none e.2.aw
def CF (u:ig):Bool:=u.text.all (fun x=>cM x 0) && (u.data.all (fun x=>cM x 1) && (u.aV.all Fi && (decide (BX u).Nodup && cD (BX u) bK u.aF)))
theorem yf (x:bC) (l:List bC):dw (x::l)=(if x.kind=1 then [x.name] else [])++dw l:=by
 unfold dw
 by_cases h:x.kind=1 <;> simp [h]
theorem Bn (D:List ByteArray) (x:bC) (s:ByteArray):s∈qE D x↔s∈D∨s∈(if x.kind=1 then [x.name] else []):=by
 unfold qE;split <;> simp [or_comm]
theorem mQ (sec:Nat):∀ (l:List bC) (D:List ByteArray),eh sec D l=true↔(∀ x,x∈l→cM x sec=true)∧(∀ s,s∈dw l→s∉D)∧(dw l).Nodup
 | [],D=>by simp [eh,dw]
 | x::l,D=>by
  rw [eh,Bool.and_eq_true,mQ sec l,yf];unfold yx;rw [Bool.and_eq_true,List.nodup_append]
  by_cases h:x.kind=1
  ·simp only [h,decide_true,Bool.true_and,if_true,Bool.not_eq_true',List.mem_cons,List.mem_append,List.mem_singleton,List.not_mem_nil,or_false];have hin:eQ D x.name=false↔x.name∉D:=by
    rw [← Bool.not_eq_true,fm]
   rw [hin];have ha:∀ s,s∈qE D x↔s=x.name∨s∈D:=fun s=>by
    rw [Bn,if_pos h];simp [or_comm]
   simp only [ha];constructor
   ·rintro ⟨⟨a,b⟩,c,d,e⟩;refine ⟨?_,?_,?_,e,?_⟩
    ·rintro y (rfl | hy)
     ·exact a
     ·exact c y hy
    ·rintro s (rfl | hs)
     ·exact b
     ·exact fun k=>d s hs (.inr k)
    ·simp
    ·intro y hy z hz hyz;exact d z hz (.inl (hyz▸hy))
   ·rintro ⟨a,b,c,d,e⟩;refine ⟨⟨a x (.inl rfl),b _ (.inl rfl)⟩,fun y hy=>a y (.inr hy),fun s hs k=>?_,d⟩;rcases k with rfl | k
    ·exact e _ rfl _ hs rfl
    ·exact b s (.inr hs) k
  ·have ha:qE D x=D:=by unfold qE; rw [if_neg h]
   simp only [h,decide_false,Bool.false_and,if_false,Bool.not_false,and_true,List.mem_cons,List.nil_append,ha];constructor
   ·rintro ⟨a,c,d,e⟩;refine ⟨?_,d,by simp,e,by simp⟩;rintro y (rfl | hy)
    ·exact a
    ·exact c y hy
   ·rintro ⟨a,b,_,d,_⟩;exact ⟨a x (.inl rfl),fun y hy=>a y (.inr hy),b,d⟩
theorem wk:∀ (l:List lz) (D:List ByteArray),fS D l=true↔(∀ x,x∈l→Fi x=true)∧(∀ s,s∈l.map (·.1)→s∉D)∧(l.map (·.1)).Nodup
 | [],D=>by simp [fS]
 | x::l,D=>by
  rw [fS,Bool.and_eq_true,wk l,List.map_cons,List.nodup_cons];have hok:Bf D x=true↔x.1∉D∧Fi x=true:=by
   unfold Bf Fi;rw [Bool.and_eq_true,Bool.and_eq_true,Bool.and_eq_true,Bool.not_eq_true',← Bool.not_eq_true,fm,and_assoc]
  rw [hok];simp only [List.mem_cons];constructor
  ·rintro ⟨⟨a,b⟩,c,d,e⟩;refine ⟨?_,?_,?_,e⟩
   ·rintro y (rfl | hy)
    ·exact b
    ·exact c y hy
   ·rintro s (rfl | hs)
    ·exact a
    ·exact fun k=>d s hs (.inr k)
   ·exact fun hs=>d _ hs (.inl rfl)
  ·rintro ⟨a,b,c,d⟩;refine ⟨⟨b _ (.inl rfl),a x (.inl rfl)⟩,fun y hy=>a y (.inr hy),fun s hs k=>?_,d⟩;rcases k with rfl | k
   ·exact c hs
   ·exact b s (.inr hs) k
theorem iV:∀ (l:List bC) (D:List ByteArray) (s:ByteArray),s∈bH D l↔s∈D∨s∈dw l
 | [],D,s=>by simp [bH,dw]
 | x::l,D,s=>by
  show s∈bH (qE D x) l↔_;rw [iV l,Bn,yf,List.mem_append,or_assoc]
theorem wW:∀ (l:List lz) (D:List ByteArray) (s:ByteArray),s∈fQ D l↔s∈D∨s∈l.map (·.1)
 | [],D,s=>by simp [fQ]
 | x::l,D,s=>by
  show s∈fQ (x.1::D) l↔_;rw [wW l,List.map_cons,List.mem_cons,List.mem_cons,← or_assoc,or_comm (a:=s=x.1)]
theorem DL {D E:List ByteArray} (h:∀ s,s∈D↔s∈E) (s:ByteArray):eQ D s=eQ E s:=by
 have:eQ D s=true↔eQ E s=true:=by rw [fm,fm]; exact h s
 exact Bool.eq_iff_iff.2 this
theorem px {D E:List ByteArray} (h:∀ s,s∈D↔s∈E):∀ (l:List ByteArray) (o:ByteArray),cD D o l=cD E o l
 | [],o=>rfl
 | x::l,o=>by
  rw [cD,cD,px h l,Kk,Kk,DL h]
theorem DW (u:ig):uE u=CF u:=by
 have hg:cD u.names bK u.aF=cD (BX u) bK u.aF:=by
  refine px (fun s=>?_) _ _;unfold ig.names BX;rw [wW,iV,iV];simp [or_assoc]
 rw [Bool.eq_iff_iff];unfold uE CF;rw [Bool.and_eq_true,Bool.and_eq_true,Bool.and_eq_true,Bool.and_eq_true,Bool.and_eq_true,Bool.and_eq_true,Bool.and_eq_true,mQ,mQ,wk,hg,List.all_eq_true,List.all_eq_true,List.all_eq_true,decide_eq_true_iff];unfold BX;rw [List.nodup_append,List.nodup_append];have e1:∀ s,s∈bH [] u.text↔s∈dw u.text:=fun s=>by rw [iV]; simp
 have e2:∀ s,s∈bH (bH [] u.text) u.data↔s∈dw u.text∨s∈dw u.data:=fun s=>by rw [iV,e1]
 simp only [e1,e2,List.mem_append];constructor
 ·rintro ⟨⟨⟨⟨a1,a2,a3⟩,b1,b2,b3⟩,c1,c2,c3⟩,g⟩;refine ⟨a1,b1,c1,⟨⟨a3,b3,fun x hx y hy e=>b2 y hy (e▸hx)⟩,c3,fun x hx y hy e=>c2 y hy (e▸hx)⟩,g⟩
 ·rintro ⟨a1,b1,c1,⟨⟨a3,b3,d⟩,c3,f⟩,g⟩;exact ⟨⟨⟨⟨a1,fun s _=>by simp,a3⟩,b1,fun s hs k=>d s k s hs rfl,b3⟩,c1,fun s hs k=>f s k s hs rfl,c3⟩,g⟩
structure dW where
 text:List bC
 data:List bC
 aV:List lz
 names:List ByteArray
 aF:List (ByteArray × Nat)
 sec:Nat
def eo:dW:=⟨[],[],[],[],[],0⟩
def uI (s:ByteArray):bC:={ cR 1 with name:=s }
def jJ (dG:ByteArray) (t:kg):List bC:=(if dG=bK then [] else [uI dG])++t.items
def iL (w:dW) (n:Nat) (dG:ByteArray) (t:kg):dW :=
 let sD:=jJ dG t
 let nm:=w.names++(if dG=bK then [] else [dG])
 { text:=if w.sec=0 then w.text++sD else w.text,data:=if w.sec=0 then w.data else w.data++sD,aV:=if t.kind=3 then w.aV++[(t.name,t.e)] else w.aV,names:=if t.kind=3 then nm++[t.name] else nm,aF:=if t.kind=4 then w.aF++[(t.name,n)] else w.aF,sec:=if t.kind=5 then t.sec else w.sec }
def tU (w:dW) (dG:ByteArray) (t:kg):Prop:=(dG≠bK∧eQ w.names dG=true)∨(t.kind=3∧(eQ w.names t.name=true∨t.name=dG))
instance (w:dW) (dG:ByteArray) (t:kg):Decidable (tU w dG t):=by unfold tU; infer_instance
def dJ (w:dW) (n:Nat) (s:ByteArray):Except Nat dW :=
 if (aJ s).2.2≠0 then .error (aJ s).2.2
 else if (aJ s).1.label≠bK∧bh (aJ s).1.label.data.toList=false then .error 21
 else match dF (aJ s).1 (decide (w.sec=1)) with
  | .error e=>.error e
  | .ok t=>if tU w (aJ s).1.label t then .error 22
   else if 8192<w.text.length+w.data.length+(jJ (aJ s).1.label t).length then .error 4
   else .ok (iL w n (aJ s).1.label t)
def aP:Nat→List UInt8→List (List UInt8)
 | 0,_=>[]
 | _+1,[]=>[]
 | f+1,s=>(s.takeWhile (·≠10))::aP f ((s.dropWhile (·≠10)).drop 1)
def cO (s:ByteArray):List ByteArray:=(aP (s.size+1) s.data.toList).map fun l=>⟨l.toArray⟩
def ef:dW→Nat→List ByteArray→Except (Nat × Nat) dW
 | w,_,[]=>.ok w
 | w,n,s::l=>match dJ w n s with
  | .error e=>.error (n,e)
  | .ok w=>ef w (n+1) l
def zX (w:dW):Option (ByteArray × Nat):=w.aF.find? fun g=>!eQ w.names g.1
def ml (s:ByteArray):List ByteArray→List ByteArray
 | []=>[s]
 | t::l=>if jO s t then s::t::l else if s=t then t::l else t::ml s l
def cd (l:List ByteArray):List ByteArray:=l.foldl (fun d s=>ml s d) []
def df (src:ByteArray):Except (Nat × Nat) ig :=
 if 65536<src.size then .error (0,3)
 else if 4096<(cO src).length then .error (4097,4)
 else match ef eo 1 (cO src) with
  | .error e=>.error e
  | .ok w=>match zX w with
   | some g=>.error (g.2,23)
   | none=>.ok ⟨w.text,w.data,w.aV,cd (w.aF.map (·.1))⟩
/-! What is put is right. -/
structure yD (w:dW):Prop where
 text:∀ x,x∈w.text→cM x 0=true∧Good x.e
 data:∀ x,x∈w.data→cM x 1=true∧Good x.e
 aV:∀ x,x∈w.aV→bh x.1.data.toList=true∧Good x.2
 perm:w.names.Perm (dw w.text++dw w.data++w.aV.map (·.1))
 J2:w.names.Nodup
 aF:∀ g,g∈w.aF→bh g.1.data.toList=true
 sec:w.sec≤1
 many:w.text.length+w.data.length≤8192
theorem yD.z:yD eo:=⟨by simp [eo],by simp [eo],by simp [eo],by simp [eo,dw],by simp [eo],by simp [eo],by simp [eo],by simp [eo]⟩
/-! No line's own items are labels. -/
theorem DT {x y:bC} {r:Dt} {ts:List Tok} (h:dH x r ts=.ok y):y.kind=x.kind:=by
 unfold dH at h;split at h
 ·split at h
  ·cases h
  ·injection h with h
   subst h;split
   ·rfl
   ·split
    ·rfl
    ·rfl
 ·split at h
  ·cases h
  ·injection h with h
   subst h;rfl
 ·split at h
  ·cases h
  ·injection h with h
   subst h;rfl
theorem vr:∀ (rs:List Dt) (args:List (List Tok)) (x y:bC),dQ x rs args=.ok y→y.kind=x.kind
 | [],args,x,y,h=>by
  have h:Except.ok x=(Except.ok y:Except Nat bC):=by cases args <;> exact h
  injection h with h
  rw [h]
 | r::rs,[],x,y,h=>by
  simp only [dQ] at h;injection h with h
  rw [h]
 | r::rs,a::args,x,y,h=>by
  simp only [dQ] at h;split at h
  ·cases h
  ·rename_i z hz;rw [vr rs args z y h,DT hz]
theorem BV {op:Int} {args:List (List Tok)} {y:bC} (h:eC op args=.ok y):y.kind=2:=by
 unfold eC at h;split at h
 ·cases h
 ·rw [vr _ _ _ _ h]; rfl
theorem nD {k:Nat} (hk:k=5∨k=6):∀ (args:List (List Tok)) (l:List bC),cF k args=.ok l→∀ x,x∈l→x.kind≠1
 | [],l,h=>by
  simp only [cF] at h;injection h with h
  subst h
  simp
 | a::args,l,h=>by
  simp only [cF] at h;split at h
  ·cases h
  ·rename_i x hx;split at h
   ·cases h
   ·rename_i l' hl;injection h with h
    subst h;intro y hy;rcases List.mem_cons.1 hy with rfl | hy
    ·unfold jq at hx;rcases hk with rfl | rfl
     ·rw [if_pos rfl] at hx;split at hx
      ·cases hx
      ·injection hx with hx
       subst hx;simp [cR]
     ·rw [if_neg (by decide)] at hx;split at hx
      ·cases hx
      ·injection hx with hx
       subst hx;simp [cR]
    ·exact nD hk args l' hl y hy
theorem CQ {op:ByteArray} {args:List (List Tok)} {t:kg} {w:Nat} (h:fZ op args=.ok (t,w)):(∀ x,x∈t.items→x.kind≠1)∧(t.kind=3→t.items=[]):=by
 unfold fZ at h;simp only at h;split at h
 ·cases h
 split at h
 ·injection h with h; injection h with h _; subst h
  exact ⟨by simp [fc,cR],by simp [fc]⟩
 split at h
 ·split at h
  ·cases h
  split at h
  ·injection h with h; injection h with h _; subst h
   exact ⟨by simp [fc,cR],by simp [fc]⟩
  ·cases h
 split at h
 ·split at h
  ·cases h
  injection h with h; injection h with h _; subst h
  exact ⟨by simp [fc,cR],by simp [fc]⟩
 split at h
 ·split at h
  ·cases h
  split at h
  ·cases h
  rename_i l hh;injection h with h; injection h with h _; subst h
  exact ⟨nD (.inl rfl) _ _ hh,by simp⟩
 split at h
 ·split at h
  ·cases h
  split at h
  ·cases h
  rename_i l hh;injection h with h; injection h with h _; subst h
  exact ⟨nD (.inr rfl) _ _ hh,by simp⟩
 split at h
 ·split at h
  ·cases h
  split at h
  ·cases h
  injection h with h; injection h with h _; subst h
  exact ⟨by simp [bF],by simp [bF]⟩
 split at h
 ·split at h
  ·cases h
  injection h with h; injection h with h _; subst h
  exact ⟨by simp [bF],by simp [bF]⟩
 split at h
 ·split at h
  ·injection h with h; injection h with h _; subst h
   exact ⟨by simp [bF],by simp [bF]⟩
  split at h
  ·injection h with h; injection h with h _; subst h
   exact ⟨by simp [bF],by simp [bF]⟩
  ·cases h
 ·cases h
theorem Bi {l:Ln} {data:Bool} {t:kg} (h:dF l data=.ok t):(∀ x,x∈t.items→x.kind≠1)∧(t.kind=3→t.items=[]):=by
 unfold dF at h;split at h
 ·injection h with h
  subst h;exact ⟨by simp [bF],by simp [bF]⟩
 split at h
 ·split at h
  ·cases h
  rename_i x hx;split at h
  ·cases h
  injection h with h
  subst h;exact ⟨by simp [fc,BV hx],by simp [fc]⟩
 split at h
 ·cases h
 rename_i t' w' hd
 by_cases g:w'=2∨w'=(if data then 1 else 0)
 ·rw [if_pos g] at h;injection h with h
  subst h;exact CQ hd
 ·rw [if_neg g] at h;cases h
theorem wh (a b:List bC):dw (a++b)=dw a++dw b:=by simp [dw]
theorem GB (dG:ByteArray) {t:kg} (h:∀ x,x∈t.items→x.kind≠1):dw (jJ dG t)=if dG=bK then [] else [dG]:=by
 unfold jJ;rw [wh]
 have:dw t.items=[]:=by
  unfold dw;rw [List.map_eq_nil_iff,List.filter_eq_nil_iff];intro x hx;simpa using h x hx
 rw [this,List.append_nil];split
 ·rfl
 ·rfl
theorem E9 {s:ByteArray} (h:bh s.data.toList=true) (k:Nat):cM (uI s) k=true∧Good (uI s).e:=by
 refine ⟨?_,Good.z⟩;unfold cM;rw [if_pos (show (uI s).kind=1 from rfl)];simp [uI,cR,z2,z3,z4,Ed,h]
theorem uD {w w':dW} {n:Nat} {s:ByteArray} (hs:s.size≤2^20) (W:yD w) (h:dJ w n s=.ok w'):yD w':=by
 unfold dJ at h;split at h
 ·cases h
 split at h
 ·cases h
 rename_i hl;split at h
 ·cases h
 rename_i t ht;split at h
 ·cases h
 rename_i hd;split at h
 ·cases h
 rename_i hm;injection h with h
 have f:=gV s hs;have ok:=sW (fun a ha=>(f a ha).1) ht;obtain ⟨nl,n3⟩:=Bi ht;generalize (aJ s).1.label=dG at *;have hlab:dG≠bK→bh dG.data.toList=true:=by
  intro g
  by_cases q:bh dG.data.toList=true
  ·exact q
  ·exact absurd ⟨g,by simpa using q⟩ hl
 have hits:∀ x,x∈jJ dG t→cM x w.sec=true∧Good x.e:=by
  intro x hx;unfold jJ at hx;rcases List.mem_append.1 hx with hx | hx
  ·split at hx
   ·simp at hx
   ·rename_i g
    have:x=uI dG:=by simpa using hx
    rw [this];exact E9 (hlab g) _
  ·have h1:=ok.items x hx;have hs:=W.sec;rcases (show w.sec=0∨w.sec=1 by omega) with e | e
   ·rw [e] at h1 ⊢; simpa using h1
   ·rw [e] at h1 ⊢; simpa using h1
 have hlb:=GB dG nl;have hsec:=W.sec;subst h;refine ⟨?_,?_,?_,?_,?_,?_,?_,?_⟩
 ·intro x hx;unfold iL at hx;simp only at hx;split at hx
  ·rename_i e;rcases List.mem_append.1 hx with hx | hx
   ·exact W.text x hx
   ·have:=hits x hx
    rwa [e] at this
  ·exact W.text x hx
 ·intro x hx;unfold iL at hx;simp only at hx;split at hx
  ·exact W.data x hx
  ·rename_i e;rcases List.mem_append.1 hx with hx | hx
   ·exact W.data x hx
   ·have:=hits x hx
    rwa [show w.sec=1 by omega] at this
 ·intro x hx;unfold iL at hx;simp only at hx;split at hx
  ·rename_i e;rcases List.mem_append.1 hx with hx | hx
   ·exact W.aV x hx
   ·have:x=(t.name,t.e):=by simpa using hx
    rw [this];exact ⟨ok.name (.inl e),ok.e⟩
  ·exact W.aV x hx
 ·unfold iL;simp only;have P:=W.perm;generalize hlw:(if dG=bK then ([]:List ByteArray) else [dG])=lw at *;have base:(w.names++lw).Perm (dw (if w.sec=0 then w.text++jJ dG t else w.text)++dw (if w.sec=0 then w.data else w.data++jJ dG t)++w.aV.map (·.1)):=by
   refine (P.append_right lw).trans ?_;split
   ·rw [wh,hlb];simp only [List.append_assoc];refine List.Perm.append_left _ ?_;rw [← List.append_assoc,← List.append_assoc];exact List.perm_append_comm.trans (by simp)
   ·rw [wh,hlb];simp only [List.append_assoc];refine List.Perm.append_left _ (List.Perm.append_left _ ?_);exact List.perm_append_comm
  by_cases e:t.kind=3
  ·rw [if_pos e,if_pos e,List.map_append,← List.append_assoc];exact base.append_right _
  ·rw [if_neg e,if_neg e];exact base
 ·have hnd:∀ s',(s'∈w.names↔eQ w.names s'=true):=fun s'=>fm.symm
  unfold tU at hd;unfold iL;simp only;have h1:(w.names++(if dG=bK then [] else [dG])).Nodup:=by
   split
   ·simpa using W.J2
   ·rename_i g;rw [lB];refine ⟨W.J2,fun hm=>hd (.inl ⟨g,(hnd _).1 hm⟩)⟩
  split
  ·rename_i e;rw [lB];refine ⟨h1,fun hm=>?_⟩;rcases List.mem_append.1 hm with hm | hm
   ·exact hd (.inr ⟨e,.inl ((hnd _).1 hm)⟩)
   ·split at hm
    ·simp at hm
    ·exact hd (.inr ⟨e,.inr (by simpa using hm)⟩)
  ·exact h1
 ·intro g hg;unfold iL at hg;simp only at hg;split at hg
  ·rename_i e;rcases List.mem_append.1 hg with hg | hg
   ·exact W.aF g hg
   ·have:g=(t.name,n):=by simpa using hg
    rw [this];exact ok.name (.inr e)
  ·exact W.aF g hg
 ·unfold iL;simp only;split
  ·exact ok.sec
  ·exact hsec
 ·unfold iL;simp only
  have:=W.many
  split
  ·rw [List.length_append]; omega
  ·rw [List.length_append]; omega
theorem u7 (s:ByteArray):∀ (l:List ByteArray) (x:ByteArray),x∈ml s l↔x=s∨x∈l
 | [],x=>by simp [ml]
 | t::l,x=>by
  unfold ml;split
  ·simp
  ·split
   ·rename_i e;subst e
    simp
   ·rw [List.mem_cons,u7 s l,List.mem_cons];constructor
    ·rintro (h | h | h)
     ·exact .inr (.inl h)
     ·exact .inl h
     ·exact .inr (.inr h)
    ·rintro (h | h | h)
     ·exact .inr (.inl h)
     ·exact .inl h
     ·exact .inr (.inr h)
theorem ye (s:ByteArray):∀ (l:List ByteArray),l.Pairwise jO→(ml s l).Pairwise jO
 | [],_=>by simp [ml]
 | t::l,h=>by
  obtain ⟨h1,h2⟩:=List.pairwise_cons.1 h;unfold ml;split
  ·rename_i g;refine List.pairwise_cons.2 ⟨fun x hx=>?_,h⟩;rcases List.mem_cons.1 hx with rfl | hx
   ·exact g
   ·exact iQ g (h1 x hx)
  ·rename_i g;split
   ·exact h
   ·rename_i e;have g2:jO t s:=by
     by_cases k:jO t s
     ·exact k
     ·exact absurd (qN s t g k) e
    refine List.pairwise_cons.2 ⟨fun x hx=>?_,ye s l h2⟩;rcases (u7 s l x).1 hx with rfl | hx
    ·exact g2
    ·exact h1 x hx
theorem x6:∀ (l d:List ByteArray) (x:ByteArray),x∈l.foldl (fun d s=>ml s d) d↔x∈l∨x∈d
 | [],d,x=>by simp
 | s::l,d,x=>by
  rw [List.foldl_cons,x6 l,u7,List.mem_cons];constructor
  ·rintro (h | h | h)
   ·exact .inl (.inr h)
   ·exact .inl (.inl h)
   ·exact .inr h
  ·rintro ((h | h) | h)
   ·exact .inr (.inl h)
   ·exact .inl h
   ·exact .inr (.inr h)
theorem nQ (l:List ByteArray) (x:ByteArray):x∈cd l↔x∈l:=by unfold cd; rw [x6]; simp
theorem uT:∀ (l d:List ByteArray),d.Pairwise jO→(l.foldl (fun d s=>ml s d) d).Pairwise jO
 | [],d,h=>h
 | s::l,d,h=>uT l _ (ye s d h)
theorem qc (l:List ByteArray):(cd l).Pairwise jO:=uT l [] List.Pairwise.nil
theorem wc (D:List ByteArray):∀ (l:List ByteArray) (o:ByteArray),(∀ x,x∈l→x∈D∧jO o x)→l.Pairwise jO→cD D o l=true
 | [],o,_,_=>rfl
 | x::l,o,h,p=>by
  obtain ⟨h1,h2⟩:=List.pairwise_cons.1 p
  have:=h x (by simp)
  rw [cD,Kk,fm.2 this.1,decide_eq_true this.2];simp only [Bool.true_and];exact wc D l x (fun y hy=>⟨(h y (by simp [hy])).1,h1 y hy⟩) h2
theorem yZ:∀ (l:List ByteArray) (w w':dW) (n:Nat),(∀ s,s∈l→s.size≤2^20)→yD w→ef w n l=.ok w'→yD w'
 | [],w,w',n,_,W,h=>by
  simp only [ef] at h;injection h with h
  subst h;exact W
 | s::l,w,w',n,hs,W,h=>by
  simp only [ef] at h;split at h
  ·cases h
  ·rename_i w1 h1;exact yZ l w1 w' (n+1) (fun x hx=>hs x (by simp [hx])) (uD (hs s (by simp)) W h1) h
theorem xP:∀ (l:List ByteArray) (w w':dW) (n:Nat),ef w n l=.ok w'→w'.aV.length≤w.aV.length+l.length
 | [],w,w',n,h=>by
  simp only [ef] at h;injection h with h
  subst h
  simp
 | s::l,w,w',n,h=>by
  simp only [ef] at h;split at h
  ·cases h
  ·rename_i w1 h1;have ih:=xP l w1 w' (n+1) h
   have:w1.aV.length≤w.aV.length+1:=by
    unfold dJ at h1;split at h1
    ·cases h1
    split at h1
    ·cases h1
    split at h1
    ·cases h1
    split at h1
    ·cases h1
    split at h1
    ·cases h1
    injection h1 with h1
    subst h1;unfold iL;simp only;split
    ·simp
    ·omega
   rw [List.length_cons];omega
theorem tv:∀ (f:Nat) (s:List UInt8) (N:Nat),s.length≤N→∀ l,l∈aP f s→l.length≤N
 | 0,s,N,_,l,h=>by simp [aP] at h
 | f+1,[],N,_,l,h=>by simp [aP] at h
 | f+1,c::s,N,hN,l,h=>by
  simp only [aP] at h;rcases List.mem_cons.1 h with rfl | h
  ·exact Nat.le_trans (List.IsPrefix.length_le (List.takeWhile_prefix _)) hN
  ·refine tv f _ N ?_ l h;have h1:((c::s).dropWhile (fun x=>decide (x≠10))).length≤(c::s).length:=by
    have:=List.IsSuffix.length_le (List.dropWhile_suffix (l:=c::s) (fun x=>decide (x≠10)))
    exact this
   rw [List.length_drop];omega
theorem gR (src:ByteArray):∀ s,s∈cO src→s.size≤src.size:=by
 intro s hs;unfold cO at hs;obtain ⟨l,hl,rfl⟩:=List.mem_map.1 hs
 have:=tv _ _ src.size (by simp) l hl
 show l.toArray.size≤_;simpa using this
theorem B0 {src:ByteArray} {u:ig} (h:df src=.ok u):uY u=0:=by
 unfold df at h;split at h
 ·cases h
 rename_i hsz;split at h
 ·cases h
 rename_i hl;split at h
 ·cases h
 rename_i w hw;have W:=yZ _ _ _ _ (fun s hs=>by have:=gR src s hs; omega) yD.z hw;split at h
 ·cases h
 rename_i hu;injection h with h
 subst h;have hm:=W.many;have hp:=W.perm;have hg:∀ g,g∈w.aF→g.1∈w.names:=by
  intro g hg
  have:=List.find?_eq_none.1 hu g hg
  simpa [fm] using this
 have he:=xP _ _ _ _ hw;have hmany:uh ⟨w.text,w.data,w.aV,cd (w.aF.map (·.1))⟩=false:=by
  unfold uh;simp only [Bool.or_eq_false_iff,decide_eq_false_iff_not]
  have:eo.aV.length=0:=rfl
  omega
 have hok:uE ⟨w.text,w.data,w.aV,cd (w.aF.map (·.1))⟩=true:=by
  rw [DW];unfold CF BX;simp only [Bool.and_eq_true,List.all_eq_true,decide_eq_true_eq];refine ⟨fun x hx=>(W.text x hx).1,fun x hx=>(W.data x hx).1,fun x hx=>?_,hp.nodup_iff.1 W.J2,wc _ _ _ (fun x hx=>?_) (qc _)⟩
  ·have:=W.aV x hx
   unfold Fi;rw [this.1,zk this.2] <;> rfl
  ·rw [nQ] at hx;obtain ⟨g,hg1,rfl⟩:=List.mem_map.1 hx;exact ⟨hp.mem_iff.1 (hg g hg1),zC (W.aF g hg1)⟩
 unfold uY;rw [hmany,hok] <;> rfl
def nl:UInt8→Bool:=fun c=>decide (c≠10)
theorem E6:∀ (l:List UInt8) (x:UInt8),x∈l.takeWhile nl→nl x=true
 | [],x,h=>by simp at h
 | c::l,x,h=>by
  rw [List.takeWhile_cons] at h;split at h
  ·rename_i g;rcases List.mem_cons.1 h with rfl | h
   ·exact g
   ·exact E6 l x h
  ·simp at h
theorem vT:∀ (l:List UInt8),(∀ x,x∈l→nl x=true)→l.takeWhile nl=l∧l.dropWhile nl=[]
 | [],_=>⟨rfl,rfl⟩
 | c::l,h=>by
  have:=vT l (fun x hx=>h x (by simp [hx]))
  rw [List.takeWhile_cons,List.dropWhile_cons,if_pos (h c (by simp)),if_pos (h c (by simp)),this.1];exact ⟨rfl,this.2⟩
theorem jS (f:Nat) (c:UInt8) (s:List UInt8):aP (f+1) (c::s)=((c::s).takeWhile nl)::aP f (((c::s).dropWhile nl).drop 1):=rfl
theorem CY (s:List UInt8):((s.dropWhile nl).drop 1).length≤s.length-1:=by
 have:=List.IsSuffix.length_le (List.dropWhile_suffix (l:=s) nl)
 rw [List.length_drop];omega
theorem ft:∀ (f:Nat) (s:List UInt8),(aP f s).length≤s.length
 | 0,s=>by simp [aP]
 | f+1,[]=>by simp [aP]
 | f+1,c::s=>by
  rw [jS];have h1:=CY (c::s)
  have:=ft f (((c::s).dropWhile nl).drop 1)
  simp only [List.length_cons] at *;omega
theorem BK (s:ByteArray):(cO s).length≤s.size:=by
 unfold cO;rw [List.length_map]
 have:=ft (s.size+1) s.data.toList
 simpa using this
theorem yo {src:ByteArray} (hs:src.size≤4096):df src=match ef eo 1 (cO src) with
  | .error e=>.error e
  | .ok w=>match zX w with
   | some g=>.error (g.2,23)
   | none=>.ok ⟨w.text,w.data,w.aV,cd (w.aF.map (·.1))⟩:=by
 have:=BK src
 unfold df;rw [if_neg (by omega),if_neg (by omega)] <;> rfl
def er (t:Tok):Tok:={ t with at_:=0 }
def eR:cH→cH
 | .error e=>.error e
 | .ok (x,r)=>.ok (x,r.map er)
def lN (f:List Tok→cH):Prop:=∀ ts,f (ts.map er)=eR (f ts)
theorem qk (t:Tok) (c:UInt8):fE (er t) c=fE t c:=rfl
theorem CO {o:Option (List Tok→cH)} (ho:∀ f,o=some f→lN f):lN (pX o):=by
 intro ts;cases ts with
 | nil=>rfl
 | cons t r =>
  simp only [List.map_cons,pX];rw [show (er t).kind=t.kind from rfl,show (er t).text=t.text from rfl,show (er t).num=t.num from rfl,qk]
  by_cases h1:t.kind=1
  ·rw [if_pos h1,if_pos h1]
   by_cases h2:(iG t.text.data.toList).2.2=true
   ·rw [if_pos h2,if_pos h2]; rfl
   ·rw [if_neg h2,if_neg h2]; rfl
  rw [if_neg h1,if_neg h1]
  by_cases h2:t.kind=2
  ·rw [if_pos h2,if_pos h2]; rfl
  rw [if_neg h2,if_neg h2]
  by_cases h3:fE t 40=true
  ·rw [if_pos h3,if_pos h3];cases o with
   | none=>rfl
   | some f =>
    simp only;rw [ho f rfl r];cases f r with
    | error e=>rfl
    | ok q =>
     obtain ⟨x,r'⟩:=q;cases r' with
     | nil=>rfl
     | cons t' r'' =>
      simp only [eR,List.map_cons];rw [qk]
      by_cases h4:fE t' 41=true
      ·rw [if_pos h4,if_pos h4]
      ·rw [if_neg h4,if_neg h4]
  ·rw [if_neg h3,if_neg h3]; rfl
theorem wx {o:Option (List Tok→cH)} (ho:∀ f,o=some f→lN f) (b:Bool):lN (xx o b):=by
 intro ts;unfold xx;rw [CO ho ts];cases pX o ts with
 | error e=>rfl
 | ok q=>rfl
theorem qb {o:Option (List Tok→cH)} (ho:∀ f,o=some f→lN f):∀ (ts:List Tok) (b:Bool),vk o b (ts.map er)=eR (vk o b ts)
 | [],b=>wx ho b []
 | t::r,b=>by
  simp only [List.map_cons,vk];rw [qk];split
  ·exact qb ho r _
  ·exact wx ho b (t::r)
theorem mO {fac:List Tok→cH} (hf:lN fac):∀ (n:Nat) (x:eS) (r:List Tok),hO fac n x (r.map er)=eR (hO fac n x r)
 | 0,x,r=>rfl
 | n+1,x,[]=>rfl
 | n+1,x,t::r=>by
  simp only [List.map_cons,hO];rw [qk];split
  ·rw [hf r];cases fac r with
   | error e=>rfl
   | ok q =>
    obtain ⟨y,r''⟩:=q;simp only [eR];split
    ·rfl
    split
    ·exact mO hf n _ _
    ·exact mO hf n _ _
  ·rfl
theorem tz {fac:List Tok→cH} (hf:lN fac):lN (nB fac):=by
 intro ts;unfold nB;rw [hf ts];cases fac ts with
 | error e=>rfl
 | ok q =>
  obtain ⟨x,r⟩:=q;simp only [eR,List.length_map];exact mO hf _ _ _
theorem qj {part:List Tok→cH} (hf:lN part):∀ (n:Nat) (x:eS) (r:List Tok),j7 part n x (r.map er)=eR (j7 part n x r)
 | 0,x,r=>rfl
 | n+1,x,[]=>rfl
 | n+1,x,t::r=>by
  simp only [List.map_cons,j7];rw [qk,qk];split
  ·rw [hf r];cases part r with
   | error e=>rfl
   | ok q =>
    obtain ⟨y,r''⟩:=q;exact qj hf n _ _
  split
  ·rw [hf r];cases part r with
   | error e=>rfl
   | ok q =>
    obtain ⟨y,r''⟩:=q;exact qj hf n _ _
  ·rfl
theorem vJ {part:List Tok→cH} (hf:lN part):lN (kq part):=by
 intro ts;unfold kq;rw [hf ts];cases part ts with
 | error e=>rfl
 | ok q =>
  obtain ⟨x,r⟩:=q;simp only [eR,List.length_map];exact qj hf _ _ _
theorem uz:∀ k,lN (mS k)
 | 0=>vJ (tz fun ts=>qb (o:=none) (fun f h=>by cases h) ts false)
 | k+1=>vJ (tz fun ts=>qb (o:=some (mS k)) (fun f h=>by cases h; exact uz k) ts false)
theorem kI (ts:List Tok):bU (ts.map er)=bU ts:=by
 unfold bU;rw [uz 32 ts];cases mS 32 ts with
 | error e=>rfl
 | ok q =>
  obtain ⟨x,r⟩:=q;simp only [eR,List.map_eq_nil_iff]
theorem I5 (z:Bool) (ts:List Tok):nw z (ts.map er)=nw z ts:=by
 match ts with
 | []=>rfl
 | [t]=>rfl
 | t::u::r=>rfl
theorem Iz (ts:List Tok):nN (ts.map er)=nN ts:=by
 match ts with
 | []=>rfl
 | [t]=>rfl
 | t::u::r=>rfl
theorem zb (lo hi:Int) (ts:List Tok):ia lo hi (ts.map er)=ia lo hi ts:=by unfold ia; rw [kI]
theorem HN (p:Bool) (ts:List Tok):rC p (ts.map er)=rC p ts:=by
 cases p with
 | false=>exact kI ts
 | true =>
  cases ts with
  | nil=>rfl
  | cons t r =>
   simp only [List.map_cons,rC];rw [qk,kI]
theorem IN (x:bC) (r:Dt) (ts:List Tok):dH x r (ts.map er)=dH x r ts:=by
 cases r with
 | uw z s t=>simp only [dH,I5]
 | IR lo hi=>simp only [dH,zb]
 | val p=>simp only [dH,HN]
theorem BD:∀ (rs:List Dt) (args:List (List Tok)) (x:bC),dQ x rs (args.map (·.map er))=dQ x rs args
 | [],args,x=>by cases args <;> rfl
 | r::rs,[],x=>rfl
 | r::rs,a::args,x=>by
  simp only [List.map_cons,dQ,IN];cases dH x r a with
  | error e=>rfl
  | ok y=>exact BD rs args y
theorem GG (op:Int) (args:List (List Tok)):eC op (args.map (·.map er))=eC op args:=by unfold eC; rw [List.length_map,BD]
theorem Gh (k:Nat) (ts:List Tok):jq k (ts.map er)=jq k ts:=by unfold jq; rw [zb,kI]
theorem yd (k:Nat):∀ args:List (List Tok),cF k (args.map (·.map er))=cF k args
 | []=>rfl
 | a::args=>by simp only [List.map_cons,cF,Gh,yd k args]
theorem Ks (args:List (List Tok)) (i:Nat):ag (args.map (·.map er)) i=(ag args i).map er:=by
 unfold ag;rw [List.getD_eq_getElem?_getD,List.getD_eq_getElem?_getD,List.getElem?_map]
 all_goals (cases args[i]? <;> rfl)
theorem HS (op:ByteArray) (args:List (List Tok)):fZ op (args.map (·.map er))=fZ op args:=by
 unfold fZ;simp only [List.length_map,Ks,zb,Iz,kI,yd,List.map_eq_nil_iff];generalize ag args 0=a
 match a with
 | []=>rfl
 | [t]=>rfl
 | t::u::r=>rfl
theorem Aq (dG op:ByteArray) (args:List (List Tok)) (d:Bool):dF ⟨dG,op,args.map (·.map er)⟩ d=dF ⟨dG,op,args⟩ d:=by
 unfold dF;simp only [GG,HS]
end Go.Sx.Ob
set_option linter.unusedVariables false
set_option linter.unusedSimpArgs false
set_option maxRecDepth 100000
namespace Go.Sx
open Go.Proofs
theorem iH {set D E:List UInt8} (hE:aK E set=0):aK (D++E) set=aK D set:=by
 rcases Nat.lt_or_ge (aK D set) D.length with h | h
 ·exact fV h
 ·have:=bY D set
  rw [fj (by omega),hE]; omega
theorem Bm {D E:List UInt8} (hE:aK E aU=0):cZ (D++E)=cZ D:=by
 have h2:(D++E).take 2=[48,120]↔D.take 2=[48,120]:=by
  match D with
  | [] =>
   simp only [List.nil_append,List.take_nil];constructor
   ·intro hh;cases E with
    | nil=>simp at hh
    | cons c E =>
     have:=eK.1 hE c E rfl
     simp at hh;rw [hh.1] at this;exfalso; revert this; decide +kernel
   ·intro hh; cases hh
  | [d] =>
   cases E with
   | nil=>simp
   | cons c E =>
    have:=eK.1 hE c E rfl
    constructor
    ·intro hh;simp at hh;rw [hh.2] at this;exfalso; revert this; decide +kernel
    ·intro hh; simp at hh
  | d::d'::D=>simp
 have hs:aK (D++E) aS=aK D aS:=iH (rR hE);have hr:=bY D aS
 by_cases h1:D.take 2=[48,120]
 ·have hlen:2≤D.length:=by
   have:=congrArg List.length h1
   rw [List.length_take] at this;simp at this; omega
  have hd:(D++E).drop 2=D.drop 2++E:=List.drop_append_of_le_length hlen;have hh:aK (D.drop 2++E) cE=aK (D.drop 2) cE:=iH (tc hE);have hr2:=bY (D.drop 2) cE;unfold cZ;rw [if_pos (h2.2 h1),if_pos h1,hd,hh,List.take_append_of_le_length hr2]
 ·unfold cZ;rw [if_neg (fun hh=>h1 (h2.1 hh)),if_neg h1,hs,List.take_append_of_le_length hr]
  by_cases h3:1<aK D aS
  ·have:(D++E).getD 0 0=D.getD 0 0:=by
    cases D with
    | nil=>simp at hr; omega
    | cons d D=>rfl
   rw [this]
  ·have e1:(1<aK D aS∧(D++E).getD 0 0=48)↔(1<aK D aS∧D.getD 0 0=48):=by
    constructor <;> exact fun hh=>(h3 hh.1).elim
   simp only [e1]
theorem B9 {D u:List UInt8} (h:ij D=.bS):ij (D++(32::59::u))=.bS:=by
 have hE:aK ((32:UInt8)::59::u) aU=0:=rfl;cases D with
 | nil=>cases h
 | cons d D =>
  have e0:ij ((d::D)++(32::59::u))=(if d=59 then .stop
   else if eW d=true then
    if 32<aK ((d::D)++(32::59::u)) aU then .bS else .tok 1 (aK ((d::D)++(32::59::u)) aU) 0
   else if eu d=true then
    if (cZ ((d::D)++(32::59::u))).1=0∨0<aK (((d::D)++(32::59::u)).drop (cZ ((d::D)++(32::59::u))).1) aU then .bS else .tok 2 (cZ ((d::D)++(32::59::u))).1 (cZ ((d::D)++(32::59::u))).2
   else if d=39 then
    if ((d::D)++(32::59::u)).length<3∨(((d::D)++(32::59::u)).getD 1 0).toNat<32∨126<(((d::D)++(32::59::u)).getD 1 0).toNat∨((d::D)++(32::59::u)).getD 1 0=39∨((d::D)++(32::59::u)).getD 2 0≠39 then .bS
    else .tok 2 3 (((d::D)++(32::59::u)).getD 1 0).toNat
   else if mM.contains d=true then .tok 3 1 0
   else .bS):=rfl
  rw [e0,iH hE,Bm hE];unfold ij at h;rw [if_neg (by simp),List.getD_cons_zero] at h
  by_cases h1:d=59
  ·rw [if_pos h1] at h; cases h
  rw [if_neg h1] at h ⊢
  by_cases h2:eW d=true
  ·rw [if_pos h2] at h ⊢
   by_cases h3:32<aK (d::D) aU
   ·rw [if_pos h3]
   ·rw [if_neg h3] at h; cases h
  rw [if_neg h2] at h ⊢
  by_cases h3:eu d=true
  ·rw [if_pos h3] at h ⊢
   by_cases h4:(cZ (d::D)).1=0∨0<aK ((d::D).drop (cZ (d::D)).1) aU
   ·have hl:=(qR (d::D)).1;rw [List.drop_append_of_le_length hl,iH hE,if_pos h4]
   ·rw [if_neg h4] at h; cases h
  rw [if_neg h3] at h ⊢
  by_cases h4:d=39
  ·rw [if_pos h4] at h ⊢
   match D with
   | []=>rw [if_pos (.inr (.inr (.inr (.inr (by simp)))))]
   | [x]=>rw [if_pos (.inr (.inr (.inr (.inr (by simp)))))]
   | x::y::D =>
    by_cases h5:(d::x::y::D).length<3∨((d::x::y::D).getD 1 0).toNat<32∨126<((d::x::y::D).getD 1 0).toNat∨(d::x::y::D).getD 1 0=39∨(d::x::y::D).getD 2 0≠39
    ·rcases h5 with h5 | h5
     ·simp at h5; omega
     ·rw [if_pos (.inr h5)]
    ·rw [if_neg h5] at h; cases h
  rw [if_neg h4] at h ⊢
  by_cases h5:mM.contains d=true
  ·rw [if_pos h5] at h; cases h
  ·rw [if_neg h5]
inductive Wr (s:ByteArray):Nat→Nat→Prop where
 | here (k:Nat):k≤s.size→ij (s.data.toList.drop (k+aK (s.data.toList.drop k) aI))=.bS→Wr s k (k+aK (s.data.toList.drop k) aI)
 | tok (k kind n m a:Nat):k≤s.size→ij (s.data.toList.drop (k+aK (s.data.toList.drop k) aI))=.tok kind n m→Wr s (k+aK (s.data.toList.drop k) aI+n) a→Wr s k a
theorem zp {s:ByteArray} {k a:Nat} (h:Wr s k a):∀ (f:Nat) (acc:List Tok),s.size-k<f→jG s f k acc=([],a,20):=by
 have hsz:s.data.toList.length=s.size:=by simp
 induction h with
 | here k hk hD =>
  intro f acc hf;obtain ⟨f,rfl⟩:∃ f',f=f'+1:=⟨f-1,by omega⟩
  have hst:=fI hk;rw [hD] at hst;exact pJ hst
 | tok k kind n m a hk hD hc ih =>
  intro f acc hf;obtain ⟨f,rfl⟩:∃ f',f=f'+1:=⟨f-1,by omega⟩
  have hst:=fI hk;rw [hD] at hst;obtain ⟨h1,h2⟩:=jn hD;have ha:=iY hk;rw [List.length_drop] at h2;rw [nG hst,ih f _ (by omega)]
theorem Du {s:ByteArray}:∀ (f k:Nat) (acc:List Tok),k≤s.size→s.size-k<f→(∃ ts,fG s k ts)∨∃ a,Wr s k a
 | 0,k,acc,hk,hf=>by omega
 | f+1,k,acc,hk,hf=>by
  have ha:=iY hk;have hsz:s.data.toList.length=s.size:=by simp
  cases hD:ij (s.data.toList.drop (k+aK (s.data.toList.drop k) aI)) with
  | stop=>exact .inl ⟨_,.stop k hk hD⟩
  | bS=>exact .inr ⟨_,.here k hk hD⟩
  | tok kind n m =>
   obtain ⟨h1,h2⟩:=jn hD;rw [List.length_drop] at h2;rcases Du (s:=s) f (k+aK (s.data.toList.drop k) aI+n) [] (by omega) (by omega) with ⟨ts,hc⟩ | ⟨a,hw⟩
   ·exact .inl ⟨_,.tok k kind n m ts hk hD hc⟩
   ·exact .inr ⟨a,.tok k kind n m a hk hD hw⟩
theorem C' (s:ByteArray):(∃ ts,fG s 0 ts∧dZ s=(ts,0,0))∨∃ a,Wr s 0 a∧dZ s=([],a,20):=by
 rcases Du (s:=s) (s.size+1) 0 [] (by omega) (by omega) with ⟨ts,hc⟩ | ⟨a,hw⟩
 ·exact .inl ⟨ts,hc,pB hc⟩
 ·exact .inr ⟨a,hw,zp hw _ _ (by omega)⟩
theorem DI {s s':ByteArray} {u:List UInt8} (hs':s'.data.toList=s.data.toList++(32::59::u)) {k a:Nat} (h:Wr s k a):Wr s' k a:=by
 have hsz:s.data.toList.length=s.size:=by simp
 have hsz':s'.size=s.size+(u.length+2):=by
  have:=congrArg List.length hs'
  simp at this; omega
 have main:∀ k,k≤s.size→ij (s.data.toList.drop (k+aK (s.data.toList.drop k) aI))≠.stop→aK (s'.data.toList.drop k) aI=aK (s.data.toList.drop k) aI:=by
  intro k hk hD;have hr:=bY (s.data.toList.drop k) aI;have hlt:aK (s.data.toList.drop k) aI<(s.data.toList.drop k).length:=by
   rcases Nat.lt_or_ge (aK (s.data.toList.drop k) aI) (s.data.toList.drop k).length with h | h
   ·exact h
   ·rw [List.length_drop] at h;rw [List.drop_eq_nil_of_le (by omega)] at hD;exact (hD rfl).elim
  rw [hs',List.drop_append_of_le_length (by omega),fV hlt]
 induction h with
 | here k hk hD =>
  have e1:=main k hk (by rw [hD]; simp);have ha:=iY hk
  have:=Wr.here (s:=s') k (by omega) (by
   rw [e1,hs',List.drop_append_of_le_length (by omega)];exact B9 hD)
  rw [e1] at this;exact this
 | tok k kind n m a hk hD hc ih =>
  have e1:=main k hk (by rw [hD]; simp);obtain ⟨h1,h2⟩:=jn hD;have ha:=iY hk;rw [List.length_drop] at h2;refine Wr.tok k kind n m a (by omega) ?_ (by rw [e1]; exact ih);rw [e1,hs',List.drop_append_of_le_length (by omega)]
  conv=>lhs; rw [← List.take_append_drop n (s.data.toList.drop _),List.append_assoc]
  exact (qn hD (jX rfl)).1
def sh (n:Nat) (t:Tok):Tok:=⟨t.kind,t.text,t.num,t.at_+n⟩
theorem vP {s s':ByteArray} {P:List UInt8} (hs':s'.data.toList=P++s.data.toList) (k:Nat):s'.data.toList.drop (k+P.length)=s.data.toList.drop k:=by
 rw [hs',Nat.add_comm,← List.drop_drop,List.drop_left]
theorem tC {s s':ByteArray} {P:List UInt8} (hs':s'.data.toList=P++s.data.toList) {k:Nat} {ts:List Tok} (h:fG s k ts):fG s' (k+P.length) (ts.map (sh P.length)):=by
 have hd:=vP hs';have hsz':s'.size=s.size+P.length:=by
  have:=congrArg List.length hs'
  simp at this; omega
 induction h with
 | stop k hk hD =>
  refine .stop _ (by omega) ?_;rw [hd,show k+P.length+aK (s.data.toList.drop k) aI=k+aK (s.data.toList.drop k) aI+P.length by omega,hd];exact hD
 | tok k kind n m ts hk hD hc ih =>
  have e1:k+P.length+aK (s'.data.toList.drop (k+P.length)) aI=k+aK (s.data.toList.drop k) aI+P.length:=by rw [hd]; omega
  have:=fG.tok (s:=s') (k+P.length) kind n m (ts.map (sh P.length)) (by omega) (by rw [e1,hd]; exact hD) (by rw [e1,show k+aK (s.data.toList.drop k) aI+P.length+n=k+aK (s.data.toList.drop k) aI+n+P.length by omega]; exact ih)
  rw [e1] at this;have e2:s'.extract (k+aK (s.data.toList.drop k) aI+P.length) (k+aK (s.data.toList.drop k) aI+P.length+n)=s.extract (k+aK (s.data.toList.drop k) aI) (k+aK (s.data.toList.drop k) aI+n):=by
   refine j8 ?_;rw [ff,ff,hd]
   congr 1
   omega
  rw [e2] at this;exact this
theorem Al {s s':ByteArray} {P:List UInt8} (hs':s'.data.toList=P++s.data.toList) {k a:Nat} (h:Wr s k a):Wr s' (k+P.length) (a+P.length):=by
 have hd:=vP hs';have hsz':s'.size=s.size+P.length:=by
  have:=congrArg List.length hs'
  simp at this; omega
 induction h with
 | here k hk hD =>
  have e1:k+P.length+aK (s'.data.toList.drop (k+P.length)) aI=k+aK (s.data.toList.drop k) aI+P.length:=by rw [hd]; omega
  have:=Wr.here (s:=s') (k+P.length) (by omega) (by rw [e1,hd]; exact hD)
  rw [e1] at this;exact this
 | tok k kind n m a hk hD hc ih =>
  have e1:k+P.length+aK (s'.data.toList.drop (k+P.length)) aI=k+aK (s.data.toList.drop k) aI+P.length:=by rw [hd]; omega
  exact Wr.tok (k+P.length) kind n m _ (by omega) (by rw [e1,hd]; exact hD) (by rw [e1,show k+aK (s.data.toList.drop k) aI+P.length+n=k+aK (s.data.toList.drop k) aI+n+P.length by omega]; exact ih)
theorem rL {s:ByteArray} {k:Nat} {ts:List Tok} (hk:k≤s.size) (hb:aK s.data.toList aI=k+aK (s.data.toList.drop k) aI) (h:fG s k ts):fG s 0 ts:=by
 have e:0+aK (s.data.toList.drop 0) aI=k+aK (s.data.toList.drop k) aI:=by rw [List.drop_zero,hb,Nat.zero_add]
 cases h with
 | stop _ _ hD=>exact .stop 0 (by omega) (by rw [e]; exact hD)
 | tok _ kind n m ts _ hD hc =>
  have:=fG.tok (s:=s) 0 kind n m ts (by omega) (by rw [e]; exact hD) (by rw [e]; exact hc)
  rw [e] at this;exact this
theorem xH {s:ByteArray} {k a:Nat} (hk:k≤s.size) (hb:aK s.data.toList aI=k+aK (s.data.toList.drop k) aI) (h:Wr s k a):Wr s 0 a:=by
 have e:0+aK (s.data.toList.drop 0) aI=k+aK (s.data.toList.drop k) aI:=by rw [List.drop_zero,hb,Nat.zero_add]
 cases h with
 | here _ _ hD =>
  have:=Wr.here (s:=s) 0 (by omega) (by rw [e]; exact hD)
  rw [e] at this;exact this
 | tok _ kind n m _ _ hD hc=>exact Wr.tok (s:=s) 0 kind n m a (by omega) (by rw [e]; exact hD) (by rw [e]; exact hc)
theorem wQ (d n n':Nat):∀ (ts:List Tok) (done:List (List Tok)) (bW:List Tok),
  (∃ r,dS n ts done bW=.ok r∧dS n' (ts.map (sh d)) (done.map (List.map (sh d))) (bW.map (sh d))=.ok (r.map (List.map (sh d)))) ∨
  ∃ a a',dS n ts done bW=.error a∧dS n' (ts.map (sh d)) (done.map (List.map (sh d))) (bW.map (sh d))=.error a'∧(a'=a+d∨(a=n∧a'=n'))
 | [],done,bW=>by
  simp only [List.map_nil,dS,List.map_eq_nil_iff]
  by_cases h:bW=[]
  ·rw [if_pos h,if_pos h];exact .inr ⟨_,_,rfl,rfl,.inr ⟨rfl,rfl⟩⟩
  ·rw [if_neg h,if_neg h];exact .inl ⟨_,rfl,by simp⟩
 | t::ts,done,bW=>by
  have hdec:decide (bW.map (sh d)=[])=decide (bW=[]):=by simp
  simp only [List.map_cons,dS]
  by_cases h1:(fE t 58 || (fE t 44 && decide (bW=[])))=true
  ·rw [if_pos h1,if_pos (show (fE (sh d t) 58 || (fE (sh d t) 44 && decide (bW.map (sh d)=[])))=true by rw [hdec]; exact h1)];exact .inr ⟨_,_,rfl,rfl,.inl rfl⟩
  ·rw [if_neg h1,if_neg (show ¬ (fE (sh d t) 58 || (fE (sh d t) 44 && decide (bW.map (sh d)=[])))=true by rw [hdec]; exact h1)]
   by_cases h2:fE t 44=true
   ·rw [if_pos h2,if_pos (show fE (sh d t) 44=true from h2)]
    have:=wQ d n n' ts (done++[bW]) []
    simpa using this
   ·rw [if_neg h2,if_neg (show ¬ fE (sh d t) 44=true from h2)]
    have:=wQ d n n' ts done (bW++[t])
    simpa using this
def wy (d n n':Nat) (r r':Ln × Nat × Nat):Prop :=
 (r.2.2=0∧r'.2.2=0∧r'.1.label=r.1.label∧r'.1.op=r.1.op∧r'.1.args=r.1.args.map (List.map (sh d)))∨(r.2.2=20∧r'.2.2=20∧(r'.2.1=r.2.1+d∨(r.2.1=n∧r'.2.1=n')))
theorem yF (d n n':Nat) (lb:ByteArray) (us:List Tok):wy d n n' (bP n lb us) (bP n' lb (us.map (sh d))):=by
 cases us with
 | nil=>exact .inl ⟨rfl,rfl,rfl,rfl,rfl⟩
 | cons t us =>
  simp only [List.map_cons,bP]
  by_cases h:t.kind≠1
  ·rw [if_pos h,if_pos (show (sh d t).kind≠1 from h)];exact .inr ⟨rfl,rfl,.inl rfl⟩
  ·rw [if_neg h,if_neg (show ¬ (sh d t).kind≠1 from h)];have hA:(∃ r,fg n us=.ok r∧fg n' (us.map (sh d))=.ok (r.map (List.map (sh d))))∨∃ a a',fg n us=.error a∧fg n' (us.map (sh d))=.error a'∧(a'=a+d∨(a=n∧a'=n')):=by
    unfold fg;simp only [List.map_eq_nil_iff]
    by_cases h2:us=[]
    ·rw [if_pos h2,if_pos h2];exact .inl ⟨_,rfl,rfl⟩
    ·rw [if_neg h2,if_neg h2]
     have:=wQ d n n' us [] []
     simpa using this
   rcases hA with ⟨r,h1,h2⟩ | ⟨a,a',h1,h2,h3⟩
   ·rw [h1,h2];exact .inl ⟨rfl,rfl,rfl,rfl,rfl⟩
   ·rw [h1,h2];exact .inr ⟨rfl,rfl,h3⟩
theorem xO (d n n':Nat) (ts:List Tok):wy d n n' (dX n ts) (dX n' (ts.map (sh d))):=by
 have hlab:AF (ts.map (sh d))=AF ts:=by
  match ts with
  | []=>rfl
  | [_]=>rfl
  | t::u::r=>rfl
 unfold dX;rw [hlab]
 by_cases h:AF ts=true
 ·rw [if_pos h,if_pos h];have e1:(ts.map (sh d)).drop 2=(ts.drop 2).map (sh d):=by rw [List.map_drop]
  have e2:(((ts.map (sh d)).head?).map (·.text)).getD ⟨#[]⟩=((ts.head?).map (·.text)).getD ⟨#[]⟩:=by
   all_goals (cases ts <;> rfl)
  rw [e1,e2];exact yF d n n' _ _
 ·rw [if_neg h,if_neg h];exact yF d n n' _ _
theorem xe {P:List UInt8} (hP:aK P aI=P.length) {s s':ByteArray} {u:List UInt8} (hs':s'.data.toList=P++(s.data.toList++(32::59::u))):wy P.length s.size s'.size (aJ s) (aJ s'):=by
 obtain ⟨m,hm⟩:∃ m:ByteArray,m.data.toList=s.data.toList++(32::59::u):=⟨⟨(s.data.toList++(32::59::u)).toArray⟩,by simp⟩
 rw [← hm] at hs';have hsz':P.length≤s'.size:=by
  have:=congrArg List.length hs'
  simp at this; omega
 have hbl:aK s'.data.toList aI=P.length+aK (s'.data.toList.drop P.length) aI:=by
  rw [hs',List.drop_left];exact fj (D:=P) hP
 rcases C' s with ⟨ts,hc,he⟩ | ⟨a,hw,he⟩
 ·have hc':=rL hsz' hbl (by simpa using tC (P:=P) hs' (y5 hm hc));have he':=pB hc';have h1:aJ s=dX s.size ts:=by unfold aJ; rw [he]; rfl
  have h2:aJ s'=dX s'.size (ts.map (sh P.length)):=by unfold aJ; rw [he']; rfl
  rw [h1,h2];exact xO P.length _ _ ts
 ·have hw':=xH hsz' hbl (by simpa using Al (P:=P) hs' (DI hm hw));have he':dZ s'=([],a+P.length,20):=zp hw' _ _ (by omega);have h1:aJ s=(fN,a,20):=by unfold aJ; rw [he]; rfl
  have h2:aJ s'=(fN,a+P.length,20):=by unfold aJ; rw [he']; rfl
  rw [h1,h2];exact .inr ⟨rfl,rfl,.inl rfl⟩
theorem sZ {P:List UInt8} (hP:aK P aI=P.length) {s s':ByteArray} (hs':s'.data.toList=P++s.data.toList):wy P.length s.size s'.size (aJ s) (aJ s'):=by
 have hsz':P.length≤s'.size:=by
  have:=congrArg List.length hs'
  simp at this; omega
 have hbl:aK s'.data.toList aI=P.length+aK (s'.data.toList.drop P.length) aI:=by
  rw [hs',List.drop_left];exact fj (D:=P) hP
 rcases C' s with ⟨ts,hc,he⟩ | ⟨a,hw,he⟩
 ·have hc':=rL hsz' hbl (by simpa using tC (P:=P) hs' hc);have he':=pB hc';have h1:aJ s=dX s.size ts:=by unfold aJ; rw [he]; rfl
  have h2:aJ s'=dX s'.size (ts.map (sh P.length)):=by unfold aJ; rw [he']; rfl
  rw [h1,h2];exact xO P.length _ _ ts
 ·have hw':=xH hsz' hbl (by simpa using Al (P:=P) hs' hw);have he':dZ s'=([],a+P.length,20):=zp hw' _ _ (by omega);have h1:aJ s=(fN,a,20):=by unfold aJ; rw [he]; rfl
  have h2:aJ s'=(fN,a+P.length,20):=by unfold aJ; rw [he']; rfl
  rw [h1,h2];exact .inr ⟨rfl,rfl,.inl rfl⟩
end Go.Sx
set_option linter.unusedVariables false
set_option linter.unusedSimpArgs false
set_option maxRecDepth 100000
namespace Go.Sx.Ob
open Go.Proofs
structure zz (w v:dW):Prop where
 text:v.text=w.text
 data:v.data=w.data
 aV:v.aV=w.aV
 names:v.names=w.names
 aF:v.aF.map (·.1)=w.aF.map (·.1)
 sec:v.sec=w.sec
theorem zz.pD (w:dW):zz w w:=⟨rfl,rfl,rfl,rfl,rfl,rfl⟩
theorem zz.trans {a b c:dW} (h:zz a b) (k:zz b c):zz a c:=⟨k.text.trans h.text,k.data.trans h.data,k.aV.trans h.aV,k.names.trans h.names,k.aF.trans h.aF,k.sec.trans h.sec⟩
theorem Gd {w v:dW} (e:zz w v) (n n':Nat) (dG:ByteArray) (t:kg):zz (iL w n dG t) (iL v n' dG t):=by
 unfold iL;simp only [e.text,e.data,e.aV,e.names,e.sec];refine ⟨rfl,rfl,rfl,rfl,?_,rfl⟩;simp only;split
 ·rw [List.map_append,List.map_append,e.aF]; rfl
 ·exact e.aF
theorem sF {w v w1:dW} (e:zz w v) {n n' d a b:Nat} {s s':ByteArray} (sp:wy d a b (aJ s) (aJ s')) (h:dJ w n s=.ok w1):∃ v1,dJ v n' s'=.ok v1∧zz w1 v1:=by
 unfold dJ at h;split at h
 ·cases h
 rename_i h0;rcases sp with ⟨p1,p2,p3,p4,p5⟩ | ⟨p1,_,_⟩
 ·have hr:∀ dd,dF (aJ s').1 dd=dF (aJ s).1 dd:=by
   intro dd;generalize (aJ s').1=q at *;generalize (aJ s).1=q0 at *;obtain ⟨l1,o1,a1⟩:=q;obtain ⟨l2,o2,a2⟩:=q0;simp only at p3 p4 p5;subst p3 p4 p5;have h1:=Aq l1 o1 (a2.map (List.map (sh d))) dd;have h2:=Aq l1 o1 a2 dd;rw [← h1,← h2]
   congr 2
   rw [List.map_map];apply List.map_congr_left;intro x _;show (x.map (sh d)).map er=x.map er;rw [List.map_map] <;> rfl
  unfold dJ;rw [if_neg (by omega),p3,hr,e.sec];split at h
  ·cases h
  rename_i hl;rw [if_neg hl];split at h
  ·cases h
  rename_i t ht;split at h
  ·cases h
  rename_i hd;have hd':¬ tU v (aJ s).1.label t:=by
   unfold tU at hd ⊢;rw [e.names];exact hd
  rw [if_neg hd',e.text,e.data];split at h
  ·cases h
  rename_i hm;rw [if_neg hm];injection h with h
  subst h;exact ⟨_,rfl,Gd e n n' _ t⟩
 ·omega
theorem Fl:aJ ⟨#[]⟩=(⟨bK,bK,[]⟩,0,0):=by kernel_rfl
theorem xZ (w:dW) (n:Nat) (hm:w.text.length+w.data.length≤8192):∃ w1,dJ w n ⟨#[]⟩=.ok w1∧zz w w1:=by
 unfold dJ;rw [Fl];have hr:∀ d,dF ⟨bK,bK,[]⟩ d=.ok bF:=fun d=>by unfold dF; rw [if_pos rfl]
 simp only [hr];rw [if_neg (by decide),if_neg (by simp),if_neg (by unfold tU; simp [bF])];have hi:jJ bK bF=[]:=by simp [jJ,bF]
 rw [hi,if_neg (by simp; omega)];refine ⟨_,rfl,?_⟩;unfold iL;rw [hi];constructor <;> simp [bF]
theorem eJ:∀ (f:Nat) (x y:List UInt8),(∀ c,c∈x→nl c=true)→aP (f+1) (x++10::y)=x::aP f y:=by
 intro f x y hx;have h1:(x++10::y).takeWhile nl=x:=by
  rw [List.takeWhile_append,(vT x hx).1,if_pos rfl];simp [nl]
 have h2:(x++10::y).dropWhile nl=10::y:=by
  rw [List.dropWhile_append,(vT x hx).2];simp [nl]
 cases hq:x++10::y with
 | nil=>simp at hq
 | cons a l =>
  rw [jS,← hq,h1,h2] <;> rfl
theorem gW (f:Nat) (x:List UInt8) (hx:∀ c,c∈x→nl c=true) (hn:x≠[]):aP (f+1) x=[x]:=by
 cases x with
 | nil=>exact absurd rfl hn
 | cons a l =>
  rw [jS,(vT _ hx).1,(vT _ hx).2]
  all_goals (cases f <;> rfl)
def bj (b:List UInt8) (s:List UInt8):List UInt8:=s.flatMap fun c=>if c=10 then 32::59::(b++[10,10,9,32]) else [c]
theorem gT (b:List UInt8):∀ (s:List UInt8),(∀ c,c∈s→nl c=true)→bj b s=s
 | [],_=>rfl
 | c::s,h=>by
  have hc:¬ c=10:=by simpa [nl] using h c (by simp)
  unfold bj;rw [List.flatMap_cons,if_neg hc];exact congrArg (fun x=>c::x) (gT b s fun x hx=>h x (by simp [hx]))
theorem uu:∀ (s:List UInt8),(∀ c,c∈s→nl c=true)∨∃ l r,s=l++10::r∧∀ c,c∈l→nl c=true
 | []=>.inl (by simp)
 | c::s=>by
  by_cases hc:c=10
  ·exact .inr ⟨[],s,by rw [hc]; rfl,by simp⟩
  ·rcases uu s with h | ⟨l,r,h1,h2⟩
   ·refine .inl fun x hx=>?_
    rcases List.mem_cons.1 hx with rfl | hx
    ·simp [nl,hc]
    ·exact h x hx
   ·refine .inr ⟨c::l,r,by rw [h1]; rfl,fun x hx=>?_⟩;rcases List.mem_cons.1 hx with rfl | hx
    ·simp [nl,hc]
    ·exact h2 x hx
def ba (l:List UInt8):ByteArray:=⟨l.toArray⟩
theorem uk (l:List UInt8):(ba l).data.toList=l:=by simp [ba]
def Cv (w:dW) (n:Nat) (f:Nat) (s:List UInt8):Except (Nat × Nat) dW:=ef w n ((aP f s).map ba)
theorem base {b:List UInt8} (w v w':dW) (n n' f g:Nat) (P:List UInt8) (hg:P.length+(bj b []).length<g) (hP:P=[]∨P=[9,32]) (e:zz w v) (W:yD w) (h:Cv w n f []=.ok w'):∃ v',Cv v n' g (P++bj b [])=.ok v'∧zz w' v':=by
 have hl:∀ k,aP k []=[]:=fun k=>by cases k <;> rfl
 unfold Cv at h ⊢;rw [hl] at h;simp only [List.map_nil,ef] at h;injection h with h
 subst h;have hs:bj b []=[]:=rfl;rw [hs,List.append_nil];rcases hP with rfl | rfl
 ·rw [hl];exact ⟨v,rfl,e⟩
 ·obtain ⟨g,rfl⟩:∃ k,g=k+1:=⟨g-1,by omega⟩
  rw [gW g [9,32] (by decide) (by simp)];simp only [List.map_cons,List.map_nil,ef];obtain ⟨v0,hv0,ev0⟩:=xZ v n' (by rw [e.text,e.data]; exact W.many);obtain ⟨v1,hv,ev⟩:=sF (n':=n') (zz.pD v) (sZ (P:=[9,32]) (by decide) (s:=⟨#[]⟩) (s':=ba [9,32]) rfl) hv0;rw [hv];exact ⟨v1,rfl,(e.trans ev0).trans ev⟩
theorem CH (b:List UInt8) (hb:∀ c,c∈b→nl c=true):∀ (m:Nat) (s P:List UInt8) (w v w':dW) (n n' f g:Nat),s.length≤m→s.length<f→P.length+(bj b s).length<g→(P=[]∨P=[9,32])→s.length≤2^20→zz w v→yD w→Cv w n f s=.ok w'→∃ v',Cv v n' g (P++bj b s)=.ok v'∧zz w' v':=by
 intro m
 induction m with
 | zero =>
  intro s P w v w' n n' f g hm hf hg hP hs e W h
  have:s=[]:=List.eq_nil_of_length_eq_zero (by omega)
  subst this;exact base w v w' n n' f g P hg hP e W h
 | succ m ih =>
  intro s P w v w' n n' f g hm hf hg hP hs e W h;have hPr:aK P aI=P.length:=by rcases hP with rfl | rfl <;> decide
  have hPn:∀ c,c∈P→nl c=true:=by rcases hP with rfl | rfl <;> decide
  by_cases s0:s=[]
  ·subst s0;exact base w v w' n n' f g P hg hP e W h
  obtain ⟨f,rfl⟩:∃ k,f=k+1:=⟨f-1,by omega⟩
  rcases uu s with hn | ⟨l,r,rfl,hl⟩
  ·rw [gT b s hn] at hg ⊢;obtain ⟨g,rfl⟩:∃ k,g=k+1:=⟨g-1,by omega⟩
   unfold Cv at h ⊢;rw [gW f s hn s0] at h;rw [gW g (P++s) (fun c hc=>(List.mem_append.1 hc).elim (hPn c) (hn c)) (by simp [s0])];simp only [List.map_cons,List.map_nil,ef] at h ⊢;split at h
   ·cases h
   rename_i w1 h1;injection h with h
   subst h;obtain ⟨v1,hv,ev⟩:=sF (n':=n') e (sZ hPr (s:=ba s) (s':=ba (P++s)) (by rw [uk,uk])) h1;rw [hv];exact ⟨v1,rfl,ev⟩
  ·have es:bj b (l++10::r)=l++(32::59::b)++10::(10::([9,32]++bj b r)):=by
    have:bj b (l++10::r)=bj b l++((32::59::(b++[10,10,9,32]))++bj b r):=by
     unfold bj;rw [List.flatMap_append,List.flatMap_cons,if_pos rfl]
    rw [this,gT b l hl]
    simp
   rw [es] at hg ⊢;have hXn:∀ c,c∈P++(l++(32::59::b))→nl c=true:=by
    intro c hc;rcases List.mem_append.1 hc with hc | hc
    ·exact hPn c hc
    rcases List.mem_append.1 hc with hc | hc
    ·exact hl c hc
    rcases List.mem_cons.1 hc with rfl | hc
    ·decide
    rcases List.mem_cons.1 hc with rfl | hc
    ·decide
    exact hb c hc
   simp only [List.length_append,List.length_cons,List.length_nil] at hg hm hf hs;obtain ⟨g,rfl⟩:∃ k,g=k+2:=⟨g-2,by omega⟩
   unfold Cv at h ⊢;rw [eJ f l r hl] at h;rw [← List.append_assoc,eJ (g+1) _ _ hXn];have e2:aP (g+1) (10::([9,32]++bj b r))=[]::aP g ([9,32]++bj b r):=eJ g [] _ (by simp);rw [e2];simp only [List.map_cons,ef] at h ⊢;split at h
   ·cases h
   rename_i w1 h1;obtain ⟨v1,hv,ev⟩:=sF (n':=n') e (xe hPr (s:=ba l) (s':=ba (P++(l++(32::59::b)))) (u:=b) (by rw [uk,uk])) h1;rw [hv];have W1:yD w1:=uD (by show l.toArray.size≤_; simp; omega) W h1;obtain ⟨v2,hv2,ev2⟩:=xZ v1 (n'+1) (by rw [ev.text,ev.data]; exact W1.many);have hv2:dJ v1 (n'+1) (ba [])=.ok v2:=hv2;simp only [hv2];exact ih r [9,32] w1 v2 w' (n+1) (n'+1+1) f g (by omega) (by omega) (by simp only [List.length_cons,List.length_nil]; omega) (.inr rfl) (by omega) (ev.trans ev2) W1 h
theorem ED (b l r:List UInt8) (hl:∀ c,c∈l→nl c=true):bj b (l++10::r)=l++(32::59::b)++10::(10::([9,32]++bj b r)):=by
 have:bj b (l++10::r)=bj b l++((32::59::(b++[10,10,9,32]))++bj b r):=by
  unfold bj;rw [List.flatMap_append,List.flatMap_cons,if_pos rfl]
 rw [this,gT b l hl]
 simp
theorem zm (b:List UInt8) (hb:∀ c,c∈b→nl c=true):∀ (m:Nat) (s P:List UInt8) (g:Nat),s.length≤m→P.length+(bj b s).length<g→(P=[]∨P=[9,32])→(aP g (P++bj b s)).length≤2*s.length+1:=by
 have one:∀ (x:List UInt8) (g:Nat),(∀ c,c∈x→nl c=true)→x.length<g→(aP g x).length≤1:=by
  intro x g hx hg;obtain ⟨g,rfl⟩:∃ k,g=k+1:=⟨g-1,by omega⟩
  by_cases h:x=[]
  ·rw [h]; simp [aP]
  ·rw [gW g x hx h]; simp
 intro m
 induction m with
 | zero =>
  intro s P g hm hg hP
  have:s=[]:=List.eq_nil_of_length_eq_zero (by omega)
  subst this;have hs:bj b []=[]:=rfl;rw [hs] at hg ⊢
  have:=one (P++[]) g (by rcases hP with rfl | rfl <;> decide) (by simpa using hg)
  simp only [List.length_nil]; omega
 | succ m ih =>
  intro s P g hm hg hP;have hPn:∀ c,c∈P→nl c=true:=by rcases hP with rfl | rfl <;> decide
  rcases uu s with hn | ⟨l,r,rfl,hl⟩
  ·rw [gT b s hn] at hg ⊢
   have:=one (P++s) g (fun c hc=>(List.mem_append.1 hc).elim (hPn c) (hn c)) (by rw [List.length_append]; omega)
   omega
  ·rw [ED b l r hl] at hg ⊢;have hXn:∀ c,c∈P++(l++(32::59::b))→nl c=true:=by
    intro c hc;rcases List.mem_append.1 hc with hc | hc
    ·exact hPn c hc
    rcases List.mem_append.1 hc with hc | hc
    ·exact hl c hc
    rcases List.mem_cons.1 hc with rfl | hc
    ·decide
    rcases List.mem_cons.1 hc with rfl | hc
    ·decide
    exact hb c hc
   simp only [List.length_append,List.length_cons,List.length_nil] at hg hm ⊢;obtain ⟨g,rfl⟩:∃ k,g=k+2:=⟨g-2,by omega⟩
   have e2:aP (g+1) (10::([9,32]++bj b r))=[]::aP g ([9,32]++bj b r):=eJ g [] _ (by simp);rw [← List.append_assoc,eJ (g+1) _ _ hXn,e2]
   have:=ih r [9,32] g (by omega) (by simp only [List.length_cons,List.length_nil]; omega) (.inr rfl)
   simp only [List.length_cons];omega
theorem Hq {w v:dW} (e:zz w v) (h:zX w=none):zX v=none:=by
 unfold zX at *;rw [List.find?_eq_none] at *;intro g hg
 have:g.1∈w.aF.map (·.1):=by rw [← e.aF]; exact List.mem_map_of_mem hg
 obtain ⟨g',hg',h1⟩:=List.mem_map.1 this
 have:=h g' hg'
 rw [e.names,← h1];exact this
theorem Cq {b:List UInt8} (hb:∀ c,c∈b→nl c=true) {src sp:ByteArray} (h:sp.data.toList=bj b src.data.toList) (hs:src.size≤2000) (hp:sp.size≤65536) {u:ig} (ha:df src=.ok u):df sp=.ok u:=by
 have hz:∀ a:ByteArray,a.data.toList.length=a.size:=fun a=>by simp
 rw [yo (by omega)] at ha;have hl:(cO sp).length≤4096:=by
  unfold cO;rw [List.length_map,h]
  have:=zm b hb src.data.toList.length src.data.toList [] (sp.size+1) (Nat.le_refl _) (by rw [← h,hz]; simp) (.inl rfl)
  rw [List.nil_append,hz] at this;omega
 unfold df;rw [if_neg (by omega),if_neg (by omega)];cases hr:ef eo 1 (cO src) with
 | error q =>
  rw [hr] at ha;cases ha
 | ok w =>
  rw [hr] at ha;simp only at ha;split at ha
  ·cases ha
  rename_i hu;injection ha with ha
  subst ha;obtain ⟨v,hv,ev⟩:=CH b hb src.data.toList.length src.data.toList [] eo eo w 1 1 (src.size+1) (sp.size+1) (Nat.le_refl _) (by rw [hz]; omega) (by rw [← h,hz]; simp) (.inl rfl) (by rw [hz]; omega) (zz.pD _) yD.z hr;rw [List.nil_append,← h] at hv;have hv:ef eo 1 (cO sp)=.ok v:=hv;rw [hv];simp only;rw [Hq ev hu];simp only;rw [ev.text,ev.data,ev.aV,ev.aF]
theorem qM:∀ (f:Nat) (s:List UInt8),(aP f s).length≤s.count 10+1
 | 0,s=>by simp [aP]
 | f+1,[]=>by simp [aP]
 | f+1,c::s=>by
  rw [jS];have ih:=qM f (((c::s).dropWhile nl).drop 1);have h1:(c::s).count 10=((c::s).dropWhile nl).count 10:=by
   conv=>lhs; rw [← List.takeWhile_append_dropWhile (p:=nl) (l:=c::s)]
   rw [List.count_append]
   have:((c::s).takeWhile nl).count 10=0:=by
    rw [List.count_eq_zero];intro hm
    have:=E6 _ _ hm
    simp [nl] at this
   omega
  rw [h1,List.length_cons];cases hq:(c::s).dropWhile nl with
  | nil =>
   have:aP f ([]:List UInt8)=[]:=by cases f <;> rfl
   simp [this]
  | cons a l =>
   have ha:a=10:=by
    have:=List.head_dropWhile_not (p:=nl) (l:=c::s) (by rw [hq]; simp)
    simp only [hq,List.head_cons,nl] at this;simpa using this
   rw [hq] at ih;subst ha;simp only [List.drop_succ_cons,List.drop_zero,List.count_cons_self] at ih ⊢;omega
theorem y9 (src:ByteArray):(cO src).length≤src.data.toList.count 10+1:=by
 unfold cO;rw [List.length_map];exact qM _ _
theorem vX:∀ (l:List ByteArray) (w:dW) (n:Nat) (q:Nat × Nat),ef w n l=.error q→n≤q.1∧q.1<n+l.length
 | [],w,n,q,h=>by simp [ef] at h
 | s::l,w,n,q,h=>by
  simp only [ef] at h;split at h
  ·injection h with h
   subst h
   simp
  ·have:=vX l _ (n+1) q h
   rw [List.length_cons];omega
theorem Ba {w w':dW} {n:Nat} {s:ByteArray} (h:dJ w n s=.ok w'):∀ g,g∈w'.aF→g∈w.aF∨g.2=n:=by
 unfold dJ at h;split at h
 ·cases h
 split at h
 ·cases h
 split at h
 ·cases h
 split at h
 ·cases h
 split at h
 ·cases h
 injection h with h
 subst h;intro g hg;unfold iL at hg;simp only at hg;split at hg
 ·rcases List.mem_append.1 hg with hg | hg
  ·exact .inl hg
  ·have:=List.mem_singleton.1 hg
   subst this;exact .inr rfl
 ·exact .inl hg
theorem pG:∀ (l:List ByteArray) (w w':dW) (n:Nat),ef w n l=.ok w'→∀ g,g∈w'.aF→g∈w.aF∨(n≤g.2∧g.2<n+l.length)
 | [],w,w',n,h,g,hg=>by
  simp only [ef] at h;injection h with h
  subst h;exact .inl hg
 | s::l,w,w',n,h,g,hg=>by
  simp only [ef] at h;split at h
  ·cases h
  ·rename_i w1 h1;rw [List.length_cons];rcases pG l w1 w' (n+1) h g hg with k | k
   ·rcases Ba h1 g k with k | k
    ·exact .inl k
    ·exact .inr (by omega)
   ·exact .inr (by omega)
theorem Gj {src:ByteArray} (hs:src.size≤4096) {q:Nat × Nat} (h:df src=.error q):1≤q.1∧q.1≤src.data.toList.count 10+1:=by
 rw [yo hs] at h;have hc:=y9 src;cases hr:ef eo 1 (cO src) with
 | error e =>
  rw [hr] at h;injection h with h
  subst h
  have:=vX _ _ _ _ hr
  omega
 | ok w =>
  rw [hr] at h;simp only at h;split at h
  ·rename_i g hg;injection h with h
   subst h
   have:=pG _ _ _ _ hr g (List.mem_of_find?_eq_some hg)
   rcases this with k | k
   ·simp [eo] at k
   ·simp only; omega
  ·cases h
/-! The document goes on behind a refused line. -/
theorem LY:Tryz.prog.underlying 24=some (.slice 99):=by kernel_rfl
def L7:List Value:=[.string ⟨#[]⟩,.slice none 0 0,.int .u32 (0:Int)]
theorem Mn:(Tryz.prog.info? 99).map (fun i=>(i.zero,i.size,i.bytes))=some (some (.agg L7.toArray),3,48):=by kernel_rfl
theorem K6 (s:ByteArray) (p:Option Addr) (l c:Nat) (n:Int):Instr.fill (fun j=>some (j*3,3)) ((Array.range (1*3)).map ((Value.agg L7.toArray).cells[· % (Value.agg L7.toArray).cells.size]!)) [(0,.agg #[.string s,.slice p l c,.int .u32 n])]=some #[.string s,.slice p l c,.int .u32 n]:=by kernel_rfl
theorem Me:Tryz.prog.underlying 71=some (.slice 76):=by kernel_rfl
theorem LU:(Tryz.prog.info? 76).map (fun i=>(i.zero,i.size,i.bytes))=some (some (.agg #[.string ⟨#[]⟩,.int .i64 (0:Int)]),2,24):=by kernel_rfl
theorem Kw (s:ByteArray) (n:Int):Instr.fill (fun j=>some (j*2,2)) ((Array.range (1*2)).map ((Value.agg #[.string ⟨#[]⟩,.int .i64 (0:Int)]).cells[· % (Value.agg #[.string ⟨#[]⟩,.int .i64 (0:Int)]).cells.size]!)) [(0,.agg #[.string s,.int .i64 n])]=some #[.string s,.int .i64 n]:=by kernel_rfl
section
variable {P:Program} {h:Hp} {K:Value→Hp→Prop}
theorem yh {t ty e:TypeId} {i:TypeInfo} {z:Value} (ht:P.underlying t=some (.slice e)) (hi:P.info? e=some i) (hz:i.zero=some z) (hzs:z.cells.size=i.size)
  {b b':Nat} {p q:Option Addr} {l c m cc:Nat} {xs ys:List (List Value)} (s:SL h b e i.size p l c xs) (s':SL h b' e i.size q m cc ys) (hp:ys.flatten.all dY=true) (hby:(2*(l+m)+1024)*i.bytes≤2^48) (hl:l+m≤2^48) (hb:b≤h.size)
  (hk:∀ p' c' h',SL h' b e i.size p' (l+m) c' (xs++ys)→Ch (az p) h h'→(p'=p∨∃ a,p'=some a∧h.size≤a.block)→K (.slice p' (l+m) c') h') :
  aD P (Builtin.append_ #[t,t] ty #[.slice p l c,.slice q m cc]) h K:=by
 cases q with
 | some a =>
  refine kR (ys:=ys) ht hi hz hzs s s'.1 s'.2.1 ?_ hp hby hl hb hk;obtain ⟨g,pre,rest,rfl,hbg,hlc,hbox,hr⟩:=s'.2.2;refine hbox.cells _ ?_;rw [List.drop_left,List.take_left]
 | none =>
  have h1:ys=[]:=s'.2.2.2;have h2:m=0:=by rw [s'.1,h1]; rfl
  subst h1 h2;have hroom:l+0≤c:=by
   cases p with
   | none =>
    have h3:c=0:=s.2.2.1;have h4:xs=[]:=s.2.2.2;have h5:l=0:=by rw [s.1,h4]; rfl
    omega
   | some a =>
    obtain ⟨g,pre,rest,rfl,hbg,hlc,hbox,hr⟩:=s.2.2;omega
  simp only [Nat.add_zero] at hroom;have hk:=hk p c h (by rw [List.append_nil]; exact s) (Ch.refl _ _) (.inl rfl);cases p with
  | none =>
   have h3:c=0:=s.2.2.1;have h4:xs=[]:=s.2.2.2;have h5:l=0:=by rw [s.1,h4]; rfl
   subst h3 h5;simp [Builtin.append_,aj,ay ht,bk hi,cQ hi,Builtin.lenOf,Builtin.firstCells];exact hk
  | some a =>
   simp [Builtin.append_,aj,ay ht,bk hi,cQ hi,Builtin.lenOf,Builtin.firstCells,hroom];exact hk
end
theorem u6 {α:Type} (f:α→List Value) (hf:∀ x,(f x).all dY=true) (l:List α):(l.map f).flatten.all dY=true:=by
 rw [List.all_flatten,List.all_map];exact List.all_eq_true.2 fun x _=>hf x
theorem wJ (u:bL × bC):(xw u).all dY=true:=rfl
def My (u:bL × lz):List Value:=Ho u.1.p u.1.l u.1.c u.2
def Mt (g:ByteArray × Nat):List Value:=[.string g.1,.int .i64 (g.2:Int)]
structure Core (h:Hp) (b:Nat) (tx dx:List bC) (ex:List lz) (t d e:bL) (ut ud:List (bL × bC)) (ue:List (bL × lz)) (ow:Nat→Nat):Prop where
 t1:SL h b 96 10 t.p t.l t.c (ut.map xw)
 t2:∀ u,u∈ut→SL h b 109 2 u.1.p u.1.l u.1.c (u.2.e.aw.map cP)
 t3:ut.map (·.2)=tx
 d1:SL h b 96 10 d.p d.l d.c (ud.map xw)
 d2:∀ u,u∈ud→SL h b 109 2 u.1.p u.1.l u.1.c (u.2.e.aw.map cP)
 d3:ud.map (·.2)=dx
 e1:SL h b 99 3 e.p e.l e.c (ue.map My)
 e2:∀ u,u∈ue→SL h b 109 2 u.1.p u.1.l u.1.c (u.2.2.aw.map cP)
 e3:ue.map (·.2)=ex
 o3:∀ i,i∈az t.p→ow i=3
 o4:∀ i,i∈az d.p→ow i=4
 o5:∀ i,i∈az e.p→ow i=5
 ot:∀ u,u∈ut→∀ i,i∈az u.1.p→ow i=0
 od:∀ u,u∈ud→∀ i,i∈az u.1.p→ow i=0
 oe:∀ u,u∈ue→∀ i,i∈az u.1.p→ow i=0
section
variable {h h':Hp} {b:Nat} {tx dx:List bC} {ex:List lz} {t d e:bL} {ut ud:List (bL × bC)} {ue:List (bL × lz)} {ow:Nat→Nat}
theorem Core.nil (h:Hp) (b:Nat) (ow:Nat→Nat):Core h b [] [] [] fW fW fW [] [] [] ow :=
 ⟨SL.nil _ _ _ _,by simp,rfl,SL.nil _ _ _ _,by simp,rfl,SL.nil _ _ _ _,by simp,rfl,by simp [fW,az],by simp [fW,az],by simp [fW,az],by simp,by simp,by simp⟩
theorem SL.cB {ws:List Nat} {e':TypeId} {sz:Nat} {p:Option Addr} {l c:Nat} {xs:List (List Value)} (s:SL h b e' sz p l c xs) (k:Ch ws h h') {k0:Nat} (ho:∀ i,i∈az p→ow i=k0) (hw:∀ i,i∈ws→i<h.size→b≤i→ow i≠k0):SL h' b e' sz p l c xs :=
 Sx.SL.aT s k fun i hi hm=>by
  have h1:=Sx.SL.bO s hi;exact hw i hm h1.2 h1.1 (ho i hi)
theorem Core.ah {ws:List Nat} (C:Core h b tx dx ex t d e ut ud ue ow) (k:Ch ws h h') (hw:∀ i,i∈ws→i<h.size→b≤i→6≤ow i):Core h' b tx dx ex t d e ut ud ue ow:=by
 have n:∀ k0,k0<6→∀ i,i∈ws→i<h.size→b≤i→ow i≠k0:=fun k0 hk i h1 h2 h3=>by have:=hw i h1 h2 h3; omega
 exact ⟨SL.cB C.t1 k C.o3 (n 3 (by omega)),fun u hu=>SL.cB (C.t2 u hu) k (C.ot u hu) (n 0 (by omega)),C.t3,
  SL.cB C.d1 k C.o4 (n 4 (by omega)),fun u hu=>SL.cB (C.d2 u hu) k (C.od u hu) (n 0 (by omega)),C.d3,
  SL.cB C.e1 k C.o5 (n 5 (by omega)),fun u hu=>SL.cB (C.e2 u hu) k (C.oe u hu) (n 0 (by omega)),C.e3,C.o3,C.o4,C.o5,C.ot,C.od,C.oe⟩
theorem Core.relabel (C:Core h b tx dx ex t d e ut ud ue ow) {ow':Nat→Nat} (ho:∀ i,i<h.size→ow' i=ow i):Core h b tx dx ex t d e ut ud ue ow' :=
 ⟨C.t1,C.t2,C.t3,C.d1,C.d2,C.d3,C.e1,C.e2,C.e3,fun i hi=>(ho i (Sx.SL.bO C.t1 hi).2).trans (C.o3 i hi),fun i hi=>(ho i (Sx.SL.bO C.d1 hi).2).trans (C.o4 i hi),fun i hi=>(ho i (Sx.SL.bO C.e1 hi).2).trans (C.o5 i hi),
  fun u hu i hi=>(ho i (Sx.SL.bO (C.t2 u hu) hi).2).trans (C.ot u hu i hi),fun u hu i hi=>(ho i (Sx.SL.bO (C.d2 u hu) hi).2).trans (C.od u hu i hi),fun u hu i hi=>(ho i (Sx.SL.bO (C.e2 u hu) hi).2).trans (C.oe u hu i hi)⟩
def dG (n k:Nat) (ow:Nat→Nat):Nat→Nat:=fun i=>if i<n then ow i else k
theorem cm {n k:Nat} {ow:Nat→Nat} {i:Nat} (hi:i<n):dG n k ow i=ow i:=if_pos hi
theorem uj {n k:Nat} {ow:Nat→Nat} {i:Nat} (hi:n≤i):dG n k ow i=k:=if_neg (by omega)
theorem um {p p':Option Addr} {n k:Nat} {ow:Nat→Nat} (ho:∀ i,i∈az p→ow i=k) (hl:∀ i,i∈az p→i<n) (hp:p'=p∨∃ a,p'=some a∧n≤a.block):∀ i,i∈az p'→dG n k ow i=k:=by
 intro i hi;rcases hp with rfl | ⟨a,rfl,ha⟩
 ·rw [cm (hl i hi)];exact ho i hi
 ·simp [az] at hi;exact uj (by omega)
variable {L:Lp} {K:Value→Hp→Prop}
theorem Core.Mw (C:Core h b tx dx ex t d e ut ud ue ow) (hb:b≤h.size) {b':Nat} {s:bL} {us:List (bL × bC)} (hs:SL h b' 96 10 s.p s.l s.c (us.map xw)) (hu:∀ u,u∈us→SL h b 109 2 u.1.p u.1.l u.1.c (u.2.e.aw.map cP)) (ho:∀ u,u∈us→∀ i,i∈az u.1.p→ow i=0)
  (hm:t.l+s.l≤2^30) {k:Option Addr→Nat→Nat→T}
  (hk:∀ (t':bL) h',Core h' b (tx++us.map (·.2)) dx ex t' d e (ut++us) ud ue (dG h.size 3 ow)→Ch (az t.p) h h'→t'.l=t.l+s.l→k t'.p t'.l t'.c L K h') :
  T.aY Tryz.prog (Builtin.append_ #[23,23] 23 #[.slice t.p t.l t.c,.slice s.p s.l s.c]) false [(false,[.slice 0])] k L K h:=by
 obtain ⟨i,hi,hz,h1,h2⟩:=nI DA;refine cV ?_;have t1:=C.t1;rw [← h1] at t1 hs;refine yh HU hi hz (by rw [h1]; rfl) t1 hs (u6 _ wJ _) (by rw [h2]; omega) (by omega) hb ?_;intro p' c' h' s' k' hp';have old:∀ {p:Option Addr} {k0:Nat},(∀ i,i∈az p→i<h.size)→(∀ i,i∈az p→ow i=k0)→∀ i,i∈az p→dG h.size 3 ow i=k0:=fun hl ho i hi=>(cm (hl i hi)).trans (ho i hi)
 have n:∀ k0,k0≠3→∀ i,i∈az t.p→i<h.size→b≤i→ow i≠k0:=fun k0 hk i h1 h2 h3=>by rw [C.o3 i h1]; omega
 refine ⟨p',t.l+s.l,c',rfl,hk ⟨p',t.l+s.l,c'⟩ h' ?_ k' rfl⟩;rw [h1,← List.map_append] at s';refine ⟨s',?_,by rw [List.map_append,C.t3],SL.cB C.d1 k' C.o4 (n 4 (by omega)),fun u hu=>SL.cB (C.d2 u hu) k' (C.od u hu) (n 0 (by omega)),C.d3,SL.cB C.e1 k' C.o5 (n 5 (by omega)),fun u hu=>SL.cB (C.e2 u hu) k' (C.oe u hu) (n 0 (by omega)),C.e3,?_,?_,?_,?_,?_,?_⟩
 ·intro u hu';rcases List.mem_append.1 hu' with hu' | hu'
  ·exact SL.cB (C.t2 u hu') k' (C.ot u hu') (n 0 (by omega))
  ·exact SL.cB (hu u hu') k' (ho u hu') (n 0 (by omega))
 ·exact um C.o3 (fun i hi=>(Sx.SL.bO C.t1 hi).2) hp'
 ·exact old (fun i hi=>(Sx.SL.bO C.d1 hi).2) C.o4
 ·exact old (fun i hi=>(Sx.SL.bO C.e1 hi).2) C.o5
 ·intro u hu';rcases List.mem_append.1 hu' with hu' | hu'
  ·exact old (fun i hi=>(Sx.SL.bO (C.t2 u hu') hi).2) (C.ot u hu')
  ·exact old (fun i hi=>(Sx.SL.bO (hu u hu') hi).2) (ho u hu')
 ·exact fun u hu'=>old (fun i hi=>(Sx.SL.bO (C.d2 u hu') hi).2) (C.od u hu')
 ·exact fun u hu'=>old (fun i hi=>(Sx.SL.bO (C.e2 u hu') hi).2) (C.oe u hu')
theorem Core.Mj (C:Core h b tx dx ex t d e ut ud ue ow) (hb:b≤h.size) {b':Nat} {s:bL} {us:List (bL × bC)} (hs:SL h b' 96 10 s.p s.l s.c (us.map xw)) (hu:∀ u,u∈us→SL h b 109 2 u.1.p u.1.l u.1.c (u.2.e.aw.map cP)) (ho:∀ u,u∈us→∀ i,i∈az u.1.p→ow i=0)
  (hm:d.l+s.l≤2^30) {k:Option Addr→Nat→Nat→T}
  (hk:∀ (d':bL) h',Core h' b tx (dx++us.map (·.2)) ex t d' e ut (ud++us) ue (dG h.size 4 ow)→Ch (az d.p) h h'→d'.l=d.l+s.l→k d'.p d'.l d'.c L K h') :
  T.aY Tryz.prog (Builtin.append_ #[23,23] 23 #[.slice d.p d.l d.c,.slice s.p s.l s.c]) false [(false,[.slice 0])] k L K h:=by
 obtain ⟨i,hi,hz,h1,h2⟩:=nI DA;refine cV ?_;have d1:=C.d1;rw [← h1] at d1 hs;refine yh HU hi hz (by rw [h1]; rfl) d1 hs (u6 _ wJ _) (by rw [h2]; omega) (by omega) hb ?_;intro p' c' h' s' k' hp';have old:∀ {p:Option Addr} {k0:Nat},(∀ i,i∈az p→i<h.size)→(∀ i,i∈az p→ow i=k0)→∀ i,i∈az p→dG h.size 4 ow i=k0:=fun hl ho i hi=>(cm (hl i hi)).trans (ho i hi)
 have n:∀ k0,k0≠4→∀ i,i∈az d.p→i<h.size→b≤i→ow i≠k0:=fun k0 hk i h1 h2 h3=>by rw [C.o4 i h1]; omega
 refine ⟨p',d.l+s.l,c',rfl,hk ⟨p',d.l+s.l,c'⟩ h' ?_ k' rfl⟩;rw [h1,← List.map_append] at s';refine ⟨SL.cB C.t1 k' C.o3 (n 3 (by omega)),fun u hu=>SL.cB (C.t2 u hu) k' (C.ot u hu) (n 0 (by omega)),C.t3,s',?_,by rw [List.map_append,C.d3],SL.cB C.e1 k' C.o5 (n 5 (by omega)),fun u hu=>SL.cB (C.e2 u hu) k' (C.oe u hu) (n 0 (by omega)),C.e3,?_,?_,?_,?_,?_,?_⟩
 ·intro u hu';rcases List.mem_append.1 hu' with hu' | hu'
  ·exact SL.cB (C.d2 u hu') k' (C.od u hu') (n 0 (by omega))
  ·exact SL.cB (hu u hu') k' (ho u hu') (n 0 (by omega))
 ·exact old (fun i hi=>(Sx.SL.bO C.t1 hi).2) C.o3
 ·exact um C.o4 (fun i hi=>(Sx.SL.bO C.d1 hi).2) hp'
 ·exact old (fun i hi=>(Sx.SL.bO C.e1 hi).2) C.o5
 ·exact fun u hu'=>old (fun i hi=>(Sx.SL.bO (C.t2 u hu') hi).2) (C.ot u hu')
 ·intro u hu';rcases List.mem_append.1 hu' with hu' | hu'
  ·exact old (fun i hi=>(Sx.SL.bO (C.d2 u hu') hi).2) (C.od u hu')
  ·exact old (fun i hi=>(Sx.SL.bO (hu u hu') hi).2) (ho u hu')
 ·exact fun u hu'=>old (fun i hi=>(Sx.SL.bO (C.e2 u hu') hi).2) (C.oe u hu')
theorem Core.zi (C:Core h b tx dx ex t d e ut ud ue ow) (hb:b≤h.size) {st:List (Addr × List Value)} {s:bL} {x:lz} (hu:SL h b 109 2 s.p s.l s.c (x.2.aw.map cP)) (ho:∀ i,i∈az s.p→ow i=0)
  (hm:e.l+1≤2^30) {k:Option Addr→Nat→Nat→T} (hst:∀ h',Ext h h'→T.FX h' st)
  (hk:∀ (e':bL) h',Core h' b tx dx (ex++[x]) t d e' ut ud (ue++[(s,x)]) (dG h.size 5 ow)→Ch (az e.p) h h'→e'.l=e.l+1→k e'.p e'.l e'.c L K h') :
  T.aY Tryz.prog (Instr.buildSlice 24 1 #[(0,.agg #[.string x.1,.slice s.p s.l s.c,.int .u32 (x.2.num:Int)])]) false [(false,[.slice 0])] (fun q m cc=>T.aR st (T.aY Tryz.prog (Builtin.append_ #[24,24] 24 #[.slice e.p e.l e.c,.slice q m cc]) false [(false,[.slice 0])] k)) L K h:=by
 refine yN LY Mn rfl (by omega) (by omega) (K6 x.1 s.p s.l s.c x.2.num) rfl rfl C.e1 hb (by omega) (by omega) hst ?_;intro p' c' h' s' k' hp';have old:∀ {p:Option Addr} {k0:Nat},(∀ i,i∈az p→i<h.size)→(∀ i,i∈az p→ow i=k0)→∀ i,i∈az p→dG h.size 5 ow i=k0:=fun hl ho i hi=>(cm (hl i hi)).trans (ho i hi)
 have n:∀ k0,k0≠5→∀ i,i∈az e.p→i<h.size→b≤i→ow i≠k0:=fun k0 hk i h1 h2 h3=>by rw [C.o5 i h1]; omega
 refine hk ⟨p',e.l+1,c'⟩ h' ?_ k' rfl;refine ⟨SL.cB C.t1 k' C.o3 (n 3 (by omega)),fun u hu=>SL.cB (C.t2 u hu) k' (C.ot u hu) (n 0 (by omega)),C.t3,SL.cB C.d1 k' C.o4 (n 4 (by omega)),fun u hu=>SL.cB (C.d2 u hu) k' (C.od u hu) (n 0 (by omega)),C.d3,by rw [List.map_append]; exact s',?_,by rw [List.map_append,C.e3]; rfl,?_,?_,?_,?_,?_,?_⟩
 ·intro u hu';rcases List.mem_append.1 hu' with hu' | hu'
  ·exact SL.cB (C.e2 u hu') k' (C.oe u hu') (n 0 (by omega))
  ·have:=List.mem_singleton.1 hu'
   subst this;exact SL.cB hu k' ho (n 0 (by omega))
 ·exact old (fun i hi=>(Sx.SL.bO C.t1 hi).2) C.o3
 ·exact old (fun i hi=>(Sx.SL.bO C.d1 hi).2) C.o4
 ·exact um C.o5 (fun i hi=>(Sx.SL.bO C.e1 hi).2) hp'
 ·exact fun u hu'=>old (fun i hi=>(Sx.SL.bO (C.t2 u hu') hi).2) (C.ot u hu')
 ·exact fun u hu'=>old (fun i hi=>(Sx.SL.bO (C.d2 u hu') hi).2) (C.od u hu')
 ·intro u hu';rcases List.mem_append.1 hu' with hu' | hu'
  ·exact old (fun i hi=>(Sx.SL.bO (C.e2 u hu') hi).2) (C.oe u hu')
  ·have:=List.mem_singleton.1 hu'
   subst this;exact old (fun i hi=>(Sx.SL.bO hu hi).2) ho
end
structure Ab (b:Nat) (q:Nat→Prop) (ow:Nat→Nat) (h h':Hp):Prop where
 size:h.size≤h'.size
 same:∀ i,i<h.size→(i<b∨q i)→h'[i]?=h[i]?
 qs:∀ i,q i→i<h.size
 qo:∀ i,q i→ow i=9
theorem Ab.E3 {b:Nat} {q:Nat→Prop} {ow:Nat→Nat} {h h':Hp} (k:Ext h h') (qs:∀ i,q i→i<h.size) (qo:∀ i,q i→ow i=9):Ab b q ow h h' :=
 ⟨k.size,fun i hi _=>k.same i hi (by simp),qs,qo⟩
theorem Ab.step {b:Nat} {q:Nat→Prop} {ow ow':Nat→Nat} {h h1 h2:Hp} {ws:List Nat} (a:Ab b q ow h h1) (k:Ch ws h1 h2) (hw:∀ i,i∈ws→i<h1.size→b≤i∧ow i≠9) (ho:∀ i,i<h1.size→ow' i=ow i):Ab b q ow' h h2:=by
 have hlt:∀ i,i<h.size→i<h1.size:=fun i hi=>Nat.lt_of_lt_of_le hi a.size
 refine ⟨Nat.le_trans a.size k.size,fun i hi hq=>?_,a.qs,fun i hq=>(ho i (hlt i (a.qs i hq))).trans (a.qo i hq)⟩;rw [← a.same i hi hq];refine k.same i (hlt i hi) fun hm=>?_
 have:=hw i hm (hlt i hi)
 rcases hq with hq | hq
 ·omega
 ·exact this.2 (a.qo i hq)
theorem Ab.Bl {b:Nat} {q:Nat→Prop} {ow ow':Nat→Nat} {h h1 h2:Hp} (a:Ab b q ow h h1) (k:Ext h1 h2) (ho:∀ i,i<h1.size→ow' i=ow i):Ab b q ow' h h2:=a.step k (by simp) ho
theorem Ab.ext {b:Nat} {q:Nat→Prop} {ow:Nat→Nat} {h h':Hp} (k:Ab b q ow h h') (hb:h.size≤b):Ext h h':=⟨k.size,fun i hi _=>k.same i hi (.inl (by omega))⟩
def kM (t d e:bL) (sec items:Int) (g:Nat) (q:bL):List Value:=[t.v,d.v,e.v,.slice none 0 0,.int .i64 sec,.int .i64 items,.map (some g),q.v]
structure de (h:Hp) (b A g:Nat) (w:dW) (t d e q:bL) (ut ud:List (bL × bC)) (ue:List (bL × lz)) (ow:Nat→Nat):Prop where
 core:Core h b w.text w.data w.aV t d e ut ud ue ow
 box:aO h A 73 (kM t d e (w.sec:Int) ((w.text.length+w.data.length:Nat):Int) g q)
 names:oT h g w.names
 aF:SL h b 76 2 q.p q.l q.c (w.aF.map Mt)
 oA:ow A=6
 og:ow g=7
 oq:∀ i,i∈az q.p→ow i=8
 bA:b≤A
 bg:b≤g
section
variable {h h':Hp} {b A g:Nat} {w:dW} {t d e q:bL} {ut ud:List (bL × bC)} {ue:List (bL × lz)} {ow:Nat→Nat}
theorem de.ah {ws:List Nat} (a:de h b A g w t d e q ut ud ue ow) (k:Ch ws h h') (hw:∀ i,i∈ws→i<h.size→b≤i→9≤ow i):de h' b A g w t d e q ut ud ue ow :=
 ⟨a.core.ah k (fun i h1 h2 h3=>by have:=hw i h1 h2 h3; omega),a.box.ah k (fun hm=>by have:=hw A hm a.box.lt a.bA; have:=a.oA; omega),a.names.ah k (fun hm=>by have:=hw g hm a.names.lt a.bg; have:=a.og; omega),
  SL.cB a.aF k a.oq (fun i h1 h2 h3=>by have:=hw i h1 h2 h3; omega),a.oA,a.og,a.oq,a.bA,a.bg⟩
theorem de.relabel (a:de h b A g w t d e q ut ud ue ow) {ow':Nat→Nat} (ho:∀ i,i<h.size→ow' i=ow i):de h b A g w t d e q ut ud ue ow' :=
 ⟨a.core.relabel ho,a.box,a.names,a.aF,(ho A a.box.lt).trans a.oA,(ho g a.names.lt).trans a.og,fun i hi=>(ho i (Sx.SL.bO a.aF hi).2).trans (a.oq i hi),a.bA,a.bg⟩
theorem rK {α β:Type} {us:List (α × β)} {l:List β} (h:us.map (·.2)=l):us.length=l.length:=by rw [← h,List.length_map]
theorem de.tl (a:de h b A g w t d e q ut ud ue ow):t.l=w.text.length:=by rw [a.core.t1.1,List.length_map,rK a.core.t3]
theorem de.dl (a:de h b A g w t d e q ut ud ue ow):d.l=w.data.length:=by rw [a.core.d1.1,List.length_map,rK a.core.d3]
theorem de.el (a:de h b A g w t d e q ut ud ue ow):e.l=w.aV.length:=by rw [a.core.e1.1,List.length_map,rK a.core.e3]
theorem de.ql (a:de h b A g w t d e q ut ud ue ow):q.l=w.aF.length:=by rw [a.aF.1,List.length_map]
def jE (w:dW) (sD:List bC):dW:={ w with text:=if w.sec=0 then w.text++sD else w.text,data:=if w.sec=0 then w.data else w.data++sD }
theorem vD (w:dW) (sD:List bC):(jE w sD).text.length+(jE w sD).data.length=w.text.length+w.data.length+sD.length:=by
 unfold jE;simp only;split
 ·rw [List.length_append]; omega
 ·rw [List.length_append]; omega
def LS (h:Hp) (b A g:Nat) (w:dW) (e q:bL) (us:List (bL × bC)) (ue:List (bL × lz)) (ow:Nat→Nat) (v:Value) (h':Hp):Prop :=
 v=.tuple #[]∧∃ t' d' ut' ud' ow',de h' b A g (jE w (us.map (·.2))) t' d' e q ut' ud' ue ow'∧(∀ i,i<h.size→ow' i=ow i)∧∃ ws,Ch ws h h'∧∀ i,i∈ws→i<h.size→b≤i∧(ow i=3∨ow i=4∨ow i=6)
set_option maxHeartbeats 1000000 in
theorem Gb (a : de h b A g w t d e q ut ud ue ow) (hb : b ≤ h.size) (hsec : w.sec ≤ 1) {b' : Nat} {s : bL} {us : List (bL × bC)} (hs : SL h b' 96 10 s.p s.l s.c (us.map xw)) (hu : ∀ u, u ∈ us → SL h b 109 2 u.1.p u.1.l u.1.c (u.2.e.aw.map cP)) (ho : ∀ u, u ∈ us → ∀ i, i ∈ az u.1.p → ow i = 0)
    (hm : w.text.length + w.data.length + us.length ≤ 2 ^ 29) : HC Tryz.prog 66 #[.pointer (some ⟨A, 0, none⟩), .int .i64 (w.sec : Int), .slice s.p s.l s.c] h (LS h b A g w e q us ue ow) := by
  refine aL (args := [.pointer (some ⟨A, 0, none⟩), .int .i64 (w.sec : Int), .slice s.p s.l s.c]) mixed Tryz.func66 (by kernel_rfl) (j9 (some ⟨A, 0, none⟩) w.sec s.p s.l s.c) ?_;unfold gr;have hsl : s.l = us.length := by rw [hs.1, List.length_map]
  have htl := a.tl;have hdl := a.dl;have hlt := a.box.lt;refine af (fun r => ?_) (fun r => ?_)
  · have r : w.sec = 1 := by have := eq_of_beq r; omega
    refine an rfl ?_;rw [ao];refine ad a.box ((d.p, d.l, d.c), ()) rfl ?_;dsimp only [flat, aB, ai, List.nil_append, List.cons_append];refine a.core.Mj hb hs hu ho (by omega) ?_;intro d' h1 C1 k1 l1;have nA : A ∉ az d.p := fun hm => by have := a.core.o4 A hm; have := a.oA; omega
    refine an rfl ?_;rw [ao];refine ak (a.box.ah k1 nA) rfl (by simp [kM]) ?_;intro h2 b2 k2 z2;have b2 : aO h2 A 73 (kM t d' e (w.sec : Int) ((w.text.length + w.data.length : Nat) : Int) g q) := b2;refine an rfl ?_;rw [ao];refine ad b2 (((w.text.length + w.data.length : Nat) : Int), ()) rfl ?_;dsimp only [flat, aB, ai, List.nil_append, List.cons_append];refine an rfl ?_;rw [ao];refine ak b2 rfl (by simp [kM]) ?_;intro h3 b3 k3 z3;have b3 : aO h3 A 73 (kM t d' e (w.sec : Int) (IntKind.wrap .i64 (((w.text.length + w.data.length : Nat) : Int) + (s.l : Int))) g q) := b3;rw [wrap_i64 (by omega) (by omega), show (((w.text.length + w.data.length : Nat) : Int) + (s.l : Int)) = ((w.text.length + w.data.length + us.length : Nat) : Int) by omega] at b3;have oA1 : dG h.size 4 ow A = 6 := (cm hlt).trans a.oA;have C3 := (C1.ah k2 (fun i hi _ _ => by have hi := List.mem_singleton.1 hi; subst hi; omega)).ah k3 (fun i hi _ _ => by have hi := List.mem_singleton.1 hi; subst hi; omega);have ng : g ∉ az d.p := fun hm => by have := a.core.o4 g hm; have := a.og; omega
    have ngA : g ∉ [A] := fun hm => by have hm := List.mem_singleton.1 hm; subst hm; have := a.oA; have := a.og; omega
    have qd : ∀ i, i ∈ az q.p → i ∉ az d.p := fun i hi hm => by have := a.core.o4 i hm; have := a.oq i hi; omega
    have qA : ∀ i, i ∈ az q.p → i ∉ [A] := fun i hi hm => by have hm := List.mem_singleton.1 hm; subst hm; have := a.oA; have := a.oq i hi; omega
    refine ⟨rfl, t, d', ut, ud ++ us, dG h.size 4 ow, ⟨?_, ?_, ((a.names.ah k1 ng).ah k2 ngA).ah k3 ngA, Sx.SL.aT (Sx.SL.aT (Sx.SL.aT a.aF k1 qd) k2 qA) k3 qA, oA1, (cm a.names.lt).trans a.og, fun i hi => (cm (Sx.SL.bO a.aF hi).2).trans (a.oq i hi), a.bA, a.bg⟩, fun i hi => cm hi, A :: az d.p, ?_, ?_⟩
    · unfold jE
      simp only;rw [if_neg (by omega), if_neg (by omega)];exact C3
    · rw [vD, List.length_map]
      exact b3
    · exact ((k1.mono (fun i hi _ => by simp [hi])).trans k2 (fun i hi _ => by have hi := List.mem_singleton.1 hi; simp [hi])).trans k3 (fun i hi _ => by have hi := List.mem_singleton.1 hi; simp [hi])
    · intro i hi hl
      rcases List.mem_cons.1 hi with rfl | hi
      · exact ⟨a.bA, .inr (.inr a.oA)⟩
      · exact ⟨(Sx.SL.bO a.core.d1 hi).1, .inr (.inl (a.core.o4 i hi))⟩
  · have r : w.sec = 0 := by have : ¬ w.sec = 1 := fun e => by rw [e] at r; simp at r
                             omega
    refine an rfl ?_;refine ad a.box ((t.p, t.l, t.c), ()) rfl ?_;dsimp only [flat, aB, ai, List.nil_append, List.cons_append];refine a.core.Mw hb hs hu ho (by omega) ?_;intro t' h1 C1 k1 l1;have nA : A ∉ az t.p := fun hm => by have := a.core.o3 A hm; have := a.oA; omega
    refine an rfl ?_;refine ak (a.box.ah k1 nA) rfl (by simp [kM]) ?_;intro h2 b2 k2 z2;have b2 : aO h2 A 73 (kM t' d e (w.sec : Int) ((w.text.length + w.data.length : Nat) : Int) g q) := b2;refine an rfl ?_;rw [ao];refine ad b2 (((w.text.length + w.data.length : Nat) : Int), ()) rfl ?_;dsimp only [flat, aB, ai, List.nil_append, List.cons_append];refine an rfl ?_;rw [ao];refine ak b2 rfl (by simp [kM]) ?_;intro h3 b3 k3 z3;have b3 : aO h3 A 73 (kM t' d e (w.sec : Int) (IntKind.wrap .i64 (((w.text.length + w.data.length : Nat) : Int) + (s.l : Int))) g q) := b3;rw [wrap_i64 (by omega) (by omega), show (((w.text.length + w.data.length : Nat) : Int) + (s.l : Int)) = ((w.text.length + w.data.length + us.length : Nat) : Int) by omega] at b3;have oA1 : dG h.size 3 ow A = 6 := (cm hlt).trans a.oA;have C3 := (C1.ah k2 (fun i hi _ _ => by have hi := List.mem_singleton.1 hi; subst hi; omega)).ah k3 (fun i hi _ _ => by have hi := List.mem_singleton.1 hi; subst hi; omega);have ng : g ∉ az t.p := fun hm => by have := a.core.o3 g hm; have := a.og; omega
    have ngA : g ∉ [A] := fun hm => by have hm := List.mem_singleton.1 hm; subst hm; have := a.oA; have := a.og; omega
    have qd : ∀ i, i ∈ az q.p → i ∉ az t.p := fun i hi hm => by have := a.core.o3 i hm; have := a.oq i hi; omega
    have qA : ∀ i, i ∈ az q.p → i ∉ [A] := fun i hi hm => by have hm := List.mem_singleton.1 hm; subst hm; have := a.oA; have := a.oq i hi; omega
    refine ⟨rfl, t', d, ut ++ us, ud, dG h.size 3 ow, ⟨?_, ?_, ((a.names.ah k1 ng).ah k2 ngA).ah k3 ngA, Sx.SL.aT (Sx.SL.aT (Sx.SL.aT a.aF k1 qd) k2 qA) k3 qA, oA1, (cm a.names.lt).trans a.og, fun i hi => (cm (Sx.SL.bO a.aF hi).2).trans (a.oq i hi), a.bA, a.bg⟩, fun i hi => cm hi, A :: az t.p, ?_, ?_⟩
    · unfold jE
      simp only;rw [if_pos r, if_pos r];exact C3
    · rw [vD, List.length_map]
      exact b3
    · exact ((k1.mono (fun i hi _ => by simp [hi])).trans k2 (fun i hi _ => by have hi := List.mem_singleton.1 hi; simp [hi])).trans k3 (fun i hi _ => by have hi := List.mem_singleton.1 hi; simp [hi])
    · intro i hi hl
      rcases List.mem_cons.1 hi with rfl | hi
      · exact ⟨a.bA, .inr (.inr a.oA)⟩
      · exact ⟨(Sx.SL.bO a.core.t1 hi).1, .inl (a.core.o3 i hi)⟩
end
structure oO (h:Hp) (b:Nat) (t:kg) (sl:bL) (us:List (bL × bC)) (se:bL) (ow:Nat→Nat):Prop where
 sD:SL h b 96 10 sl.p sl.l sl.c (us.map xw)
 own:∀ u,u∈us→SL h b 109 2 u.1.p u.1.l u.1.c (u.2.e.aw.map cP)
 eq:us.map (·.2)=t.items
 e:SL h b 109 2 se.p se.l se.c (t.e.aw.map cP)
 o9:∀ i,i∈az sl.p→ow i=9
 ou:∀ u,u∈us→∀ i,i∈az u.1.p→ow i=0
 oe:∀ i,i∈az se.p→ow i=0
section
variable {h h':Hp} {b:Nat} {t:kg} {sl se:bL} {us:List (bL × bC)} {ow:Nat→Nat}
theorem oO.ah {ws:List Nat} (o:oO h b t sl us se ow) (k:Ch ws h h') (hw:∀ i,i∈ws→i<h.size→b≤i→ow i≠0∧ow i≠9):oO h' b t sl us se ow :=
 ⟨SL.cB o.sD k o.o9 (fun i h1 h2 h3=>(hw i h1 h2 h3).2),fun u hu=>SL.cB (o.own u hu) k (o.ou u hu) (fun i h1 h2 h3=>(hw i h1 h2 h3).1),o.eq,SL.cB o.e k o.oe (fun i h1 h2 h3=>(hw i h1 h2 h3).1),o.o9,o.ou,o.oe⟩
theorem oO.relabel (o:oO h b t sl us se ow) {ow':Nat→Nat} (ho:∀ i,i<h.size→ow' i=ow i):oO h b t sl us se ow' :=
 ⟨o.sD,o.own,o.eq,o.e,fun i hi=>(ho i (Sx.SL.bO o.sD hi).2).trans (o.o9 i hi),fun u hu i hi=>(ho i (Sx.SL.bO (o.own u hu) hi).2).trans (o.ou u hu i hi),fun i hi=>(ho i (Sx.SL.bO o.e hi).2).trans (o.oe i hi)⟩
theorem oO.L5 {ws:List Nat} (o:oO h b t sl us se ow) (k:Ch ws h h') (hw:∀ i,i∈ws→i<h.size→b≤i→ow i≠0∧ow i≠9) {ow':Nat→Nat} (ho:∀ i,i<h.size→ow' i=ow i):oO h' b t sl us se ow' :=
 (o.relabel ho).ah k (fun i h1 h2 h3=>by rw [ho i h2]; exact hw i h1 h2 h3)
theorem SL.ty {e1 e2:TypeId} {s1 s2 b1 b2:Nat} {p q:Option Addr} {l c m d:Nat} {xs ys:List (List Value)} (s:SL h b1 e1 s1 p l c xs) (r:SL h b2 e2 s2 q m d ys) (hne:e1≠e2):∀ i,i∈az p→i∉az q:=by
 intro i hi hj;cases p with
 | none=>simp [az] at hi
 | some a =>
  cases q with
  | none=>simp [az] at hj
  | some a' =>
   obtain ⟨g,pre,rest,rfl,hbg,hlc,hbox,hr⟩:=s.2.2;obtain ⟨g',pre',rest',rfl,hbg',hlc',hbox',hr'⟩:=r.2.2;simp [az] at hi hj;subst hi;subst hj;unfold aO at hbox hbox';rw [hbox] at hbox';injection hbox' with hbox'
   injection hbox' with _ hbox' _
   exact hne hbox'
open Classical in
theorem oO.of {h0:Hp} {us:List (bL × bC)} (A:iy h h0.size t sl us se) (hb:b≤h0.size) (ow:Nat→Nat):∃ ow',(∀ i,i<h0.size→ow' i=ow i)∧oO h b t sl us se ow':=by
 have ty:∀ {s:bL} {xs:List (List Value)},SL h h0.size 109 2 s.p s.l s.c xs→∀ i,i∈az s.p→i∉az sl.p:=fun r i hi hj=>SL.ty A.sD.out r (by decide) i hj hi
 refine ⟨fun i=>if i<h0.size then ow i else if i∈az sl.p then 9 else 0,fun i hi=>if_pos hi,Sx.SL.mono A.sD.out hb,fun u hu=>Sx.SL.mono (A.sD.own u hu) hb,A.eq,Sx.SL.mono A.e hb,?_,?_,?_⟩
 ·intro i hi
  have:=(Sx.SL.bO A.sD.out hi).1
  rw [if_neg (by omega),if_pos hi]
 ·intro u hu i hi
  have:=(Sx.SL.bO (A.sD.own u hu) hi).1
  rw [if_neg (by omega),if_neg (ty (A.sD.own u hu) i hi)]
 ·intro i hi
  have:=(Sx.SL.bO A.e hi).1
  rw [if_neg (by omega),if_neg (ty A.e i hi)]
end
theorem uS {s:ByteArray} (h:bh s.data.toList=true):s≠bK:=by
 rintro rfl;revert h;decide
theorem sJ {s:ByteArray} (h:bh s.data.toList=true):s.size≤32:=by
 unfold bh at h;simp only [Bool.and_eq_true,decide_eq_true_eq] at h
 have:=h.1.1.1.2
 simpa using this
theorem yD.MQ {w:dW} (W:yD w):eQ w.names bK=false:=by
 cases h:eQ w.names bK with
 | false=>rfl
 | true =>
  have h:=W.perm.mem_iff.1 (fm.1 h);exfalso;have key:∀ (l:List bC) (k:Nat),(∀ x,x∈l→cM x k=true∧Good x.e)→bK∉dw l:=by
   intro l k hl hm;unfold dw at hm;obtain ⟨x,hx,hn⟩:=List.mem_map.1 hm;obtain ⟨hx,hk⟩:=List.mem_filter.1 hx
   have:=(hl x hx).1
   have hk:x.kind=1:=by simpa using hk
   unfold cM at this;rw [if_pos hk] at this;simp only [Bool.and_eq_true] at this
   have:bh x.name.data.toList=true:=by
    rcases this with ⟨⟨⟨h1,h2⟩,h3⟩,h4⟩
    first | exact h1 | exact h2 | exact h3 | exact h4
   exact uS this hn
  rcases List.mem_append.1 h with h | h
  ·rcases List.mem_append.1 h with h | h
   ·exact key _ 0 W.text h
   ·exact key _ 1 W.data h
  ·obtain ⟨x,hx,hn⟩:=List.mem_map.1 h;exact uS (W.aV x hx).1 hn
theorem oT.congr {h:Hp} {g:Nat} {D D':List ByteArray} (m:oT h g D) (e:∀ s,eQ D s=eQ D' s):oT h g D':=by
 obtain ⟨n,m⟩:=m;refine ⟨n,?_⟩
 have:(fun s=>if eQ D' s then some true else none)=(fun s=>if eQ D s then some true else none):=by funext s; rw [e]
 rw [this];exact m
theorem Az (D:List ByteArray) (x s:ByteArray):eQ (x::D) s=eQ (D++[x]) s:=by
 unfold eQ;rw [List.any_cons,List.any_append,List.any_cons,List.any_nil,Bool.or_false,Bool.or_comm]
def Ao (p0 : Option Addr) (n1 : Int) (a10 a30 : Addr) (n29 : Int) : T :=
    cond (n29 != (0 : Int))
     (T.ret (.int .i64 n29))
     (T.join [(false, [.string])]
      (T.ae a30 [.int .i64] <| fun (n31 : Int) =>
      cond (n31 == (3 : Int))
       (T.ae (a30.add 2) [.string] <| fun (Bh : ByteArray) =>
       T.again 0 [.string Bh])
       (T.again 0 [.string ⟨#[]⟩])) <| fun (s31 : ByteArray) =>
     T.join [(false, [.bool])]
      (T.ae a10 [.string] <| fun (Bh : ByteArray) =>
      cond (!((ByteArray.toList Bh) == []))
       (T.au p0 <| fun (a33 : Addr) =>
       T.ae (a33.add 6) [.map 9 4] <| fun (r34 : Option Nat) =>
       T.ae a10 [.string] <| fun (s35 : ByteArray) =>
       T.aY Tryz.prog (Instr.lookup 70 (.map r34) (.string s35) false) false [(false, [.bool])] <| fun (b36 : Bool) =>
       T.aR [(a10, [.string Bh])] <|
       cond b36
        (T.again 0 [.bool true])
        (T.ae a10 [.string] <| fun (s37 : ByteArray) =>
        cond ((ByteArray.toList s37) == (ByteArray.toList s31))
         (T.again 0 [.bool true])
         (T.au p0 <| fun (a38 : Addr) =>
         T.ae (a38.add 6) [.map 9 4] <| fun (r39 : Option Nat) =>
         T.aY Tryz.prog (Instr.lookup 70 (.map r39) (.string s31) false) false [(false, [.bool])] <| fun (b40 : Bool) =>
         T.aR [(a10, [.string s37]), (a10, [.string s35]), ((a33.add 6), [.map r34]), (a10, [.string Bh])] <|
         T.again 0 [.bool b40])))
       (T.au p0 <| fun (a33 : Addr) =>
       T.ae (a33.add 6) [.map 9 4] <| fun (r34 : Option Nat) =>
       T.aY Tryz.prog (Instr.lookup 70 (.map r34) (.string s31) false) false [(false, [.bool])] <| fun (b35 : Bool) =>
       T.aR [(a10, [.string Bh])] <|
       T.again 0 [.bool b35])) <| fun (b32 : Bool) =>
     cond b32
      (T.ret (.int .i64 (22 : Int)))
      (T.ae (a30.add 1) [.slice 96] <| fun (p33 : Option Addr) (l34 : Nat) (l35 : Nat) =>
      T.join [(false, [.int .i64])]
       (T.ae a10 [.string] <| fun (s36 : ByteArray) =>
       cond (!((ByteArray.toList s36) == []))
        (T.again 0 [.int .i64 (IntKind.wrap .i64 ((l34 : Int) + (1 : Int)))])
        (T.again 0 [.int .i64 (l34 : Int)])) <| fun (n36 : Int) =>
      T.au p0 <| fun (a37 : Addr) =>
      T.ae (a37.add 5) [.int .i64] <| fun (n38 : Int) =>
      cond (decide ((IntKind.wrap .i64 (n38 + n36)) > (8192 : Int)))
       (T.ret (.int .i64 (4 : Int)))
       (T.join []
        (T.ae a10 [.string] <| fun (s39 : ByteArray) =>
        cond (!((ByteArray.toList s39) == []))
         (T.au p0 <| fun (a40 : Addr) =>
         T.ae (a40.add 6) [.map 9 4] <| fun (r41 : Option Nat) =>
         T.ae a10 [.string] <| fun (s42 : ByteArray) =>
         T.mC Tryz.prog (Instr.mapUpdate 70 (.map r41) (.string s42) (.bool true)) <|
         T.au p0 <| fun (a43 : Addr) =>
         T.ae (a43.add 4) [.int .i64] <| fun (n44 : Int) =>
         T.ae a10 [.string] <| fun (s45 : ByteArray) =>
         T.aY Tryz.prog (Instr.buildSlice 23 1 #[(0, .agg #[.int .i64 (1 : Int), .string s45, .int .i64 (0 : Int), .int .i64 (0 : Int), .int .i64 (0 : Int), .int .i32 (0 : Int), .int .i64 (0 : Int), .slice none 0 0, .int .u32 (0 : Int), .int .i64 (0 : Int)])]) false [(false, [.slice 0])] <| fun (p46 : Option Addr) (l47 : Nat) (l48 : Nat) =>
         T.aR [(a10, [.string s45]), ((a43.add 4), [.int .i64 n44])] <|
         T.call Tryz.prog 66 [.pointer p0, .int .i64 n44, .slice p46 l47 l48] true [] <| T.aR [(a10, [.string s45])] <|
         T.again 0 [])
         (T.again 0 [])) <| T.au p0 <| fun (a39 : Addr) =>
       T.ae (a39.add 4) [.int .i64] <| fun (n40 : Int) =>
       T.ae (a30.add 1) [.slice 96] <| fun (p41 : Option Addr) (l42 : Nat) (l43 : Nat) =>
       T.call Tryz.prog 66 [.pointer p0, .int .i64 n40, .slice p41 l42 l43] true [] <| T.join []
        (T.ae a30 [.int .i64] <| fun (n44 : Int) =>
        cond (n44 == (3 : Int))
         (T.au p0 <| fun (a45 : Addr) =>
         T.ae (a45.add 6) [.map 9 4] <| fun (r46 : Option Nat) =>
         T.mC Tryz.prog (Instr.mapUpdate 70 (.map r46) (.string s31) (.bool true)) <|
         T.au p0 <| fun (a47 : Addr) =>
         T.ae (a47.add 2) [.slice 99] <| fun (p48 : Option Addr) (l49 : Nat) (l50 : Nat) =>
         T.ae (a30.add 2) [.string] <| fun (s51 : ByteArray) =>
         T.ae (a30.add 3) [.slice 109, .int .u32] <| fun (p52 : Option Addr) (l53 : Nat) (l54 : Nat) (n55 : Int) =>
         T.aY Tryz.prog (Instr.buildSlice 24 1 #[(0, .agg #[.string s51, .slice p52 l53 l54, .int .u32 n55])]) false [(false, [.slice 0])] <| fun (p56 : Option Addr) (l57 : Nat) (l58 : Nat) =>
         T.aR [((a30.add 3), [.slice p52 l53 l54, .int .u32 n55]), ((a30.add 2), [.string s51]), ((a47.add 2), [.slice p48 l49 l50])] <|
         T.aY Tryz.prog (Builtin.append_ #[24, 24] 24 #[.slice p48 l49 l50, .slice p56 l57 l58]) false [(false, [.slice 0])] <| fun (p59 : Option Addr) (l60 : Nat) (l61 : Nat) =>
         T.aR [((a30.add 3), [.slice p52 l53 l54, .int .u32 n55]), ((a30.add 2), [.string s51])] <|
         T.au p0 <| fun (a62 : Addr) =>
         T.ap (a62.add 2) [.slice p59 l60 l61] <|
         T.again 0 [])
         (cond (n44 == (4 : Int))
          (T.au p0 <| fun (a45 : Addr) =>
          T.ae (a45.add 7) [.slice 76] <| fun (p46 : Option Addr) (l47 : Nat) (l48 : Nat) =>
          T.ae (a30.add 2) [.string] <| fun (s49 : ByteArray) =>
          T.aY Tryz.prog (Instr.buildSlice 71 1 #[(0, .agg #[.string s49, .int .i64 n1])]) false [(false, [.slice 0])] <| fun (p50 : Option Addr) (l51 : Nat) (l52 : Nat) =>
          T.aR [((a30.add 2), [.string s49]), ((a45.add 7), [.slice p46 l47 l48])] <|
          T.aY Tryz.prog (Builtin.append_ #[71, 71] 71 #[.slice p46 l47 l48, .slice p50 l51 l52]) false [(false, [.slice 0])] <| fun (p53 : Option Addr) (l54 : Nat) (l55 : Nat) =>
          T.aR [((a30.add 2), [.string s49])] <|
          T.au p0 <| fun (a56 : Addr) =>
          T.ap (a56.add 7) [.slice p53 l54 l55] <|
          T.again 0 [])
          (cond (n44 == (5 : Int))
           (T.ae (a30.add 5) [.int .i64] <| fun (n45 : Int) =>
           T.au p0 <| fun (a46 : Addr) =>
           T.ap (a46.add 4) [.int .i64 n45] <|
           T.again 0 [])
           (T.again 0 [])))) <| T.ret (.int .i64 (0 : Int)))))
def Jt (b A g:Nat) (qq:Nat→Prop) (h:Hp) (r:Except Nat dW) (v:Value) (h':Hp):Prop :=
 match r with
 | .error e=>v=.int .i64 (e:Int)∧e≠0∧Ext h h'
 | .ok w'=>v=.int .i64 0∧∃ t d e q ut ud ue ow,de h' b A g w' t d e q ut ud ue ow∧Ab b qq ow h h'
def pV (w:dW) (n:Nat) (dG:ByteArray) (r:Except Nat kg):Except Nat dW :=
 match r with
 | .error e=>.error e
 | .ok t=>if tU w dG t then .error 22 else if 8192<w.text.length+w.data.length+(jJ dG t).length then .error 4 else .ok (iL w n dG t)
end Go.Sx.Ob
