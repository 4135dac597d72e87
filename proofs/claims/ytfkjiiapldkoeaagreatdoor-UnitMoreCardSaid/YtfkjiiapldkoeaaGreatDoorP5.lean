/- Contracts over heaps, and plain laws, for the functions that the laws of chapter 9 call, part 5: Lists of names as the document treats them, over heaps: has, labels, all, sorted Condition: as each statement says. -/
import Derived.Test.YtfkjiiapldkoeaaGreatDoorP4
import Derived.Test.YtfkjiiapldkoeaaGreatDoorAtL
import Derived.Test.YtfkjiiapldkoeaaGreatDoorAtM
set_option linter.unusedVariables false
set_option linter.unusedSimpArgs false
set_option maxRecDepth 100000
namespace Go.Sx.Ob
open Go.Proofs
variable {K:Value→Hp→Prop}
def F' (s:ByteArray):List Value:=[.string s]
abbrev SN (h:Hp) (b:Nat) (p:Option Addr) (l c:Nat) (xs:List ByteArray):Prop:=SL h b 9 1 p l c (xs.map F')
theorem SN.len {h:Hp} {b:Nat} {p:Option Addr} {l c:Nat} {xs:List ByteArray} (s:SN h b p l c xs):l=xs.length:=by
 have:=s.1
 rwa [List.length_map] at this
theorem SN.cell {h:Hp} {b:Nat} {p:Option Addr} {l c:Nat} {xs:List ByteArray} (s:SN h b p l c xs) {i:Nat} (hi:i<xs.length):∃ a,p=some a∧aG h (a.add (i*1)) 0 [.string xs[i]]:=by
 obtain ⟨a,ha,hc⟩:=SL.cells s (i:=i) (by rw [List.length_map]; exact hi);refine ⟨a,ha,?_⟩;rw [List.getElem_map] at hc;exact hc
theorem Lj (D:List ByteArray) (s:ByteArray) (i:Nat) (hi:i<D.length):fm (D.take (i+1)) s=(fm (D.take i) s || decide (D[i]=s)):=by
 unfold fm;rw [List.take_succ_eq_append_getElem hi,List.any_append]
 simp
theorem I8 {h:Hp} {b:Nat} {p:Option Addr} {l c:Nat} {xs:List ByteArray} (v:SN h b p l c xs) (hl:xs.length≤2^61) (s:ByteArray):tp Tryz.prog 50 [.slice p l c,.string s] h (.bool (fm xs s)):=by
 refine dU mixed Tryz.func50 (by kernel_rfl) (lF p l c s) ?_;unfold iY;have n:=SN.len v;refine bC (cs:=[(false,[.bool]),(false,[.int .i64])]) (fun y m h'=>∃ i:Nat,y.2.1=(i:Int)∧m=xs.length-i∧i≤xs.length∧h'=h∧fm (xs.take i) s=false) (false,(0:Int),()) xs.length rfl
  ⟨0,rfl,rfl,by omega,rfl,rfl⟩ ?_
 rintro ⟨b2,n3,⟨⟩⟩ m h' ⟨i,hi,rfl,hle,rfl,hn⟩;simp only at hi;subst hi;dsimp only [flat,aA,ai,nA,cA];refine af (fun q=>?_) (fun q=>?_)
 ·have q:=of_decide_eq_true q;have hil:i<xs.length:=by omega
  obtain ⟨a,ha,hc⟩:=SN.cell v hil;refine aB ⟨by omega,by omega⟩ (an ha ?_);rw [show Int.toNat (i:Int)=i by omega];refine aH (xs[i],()) hc ?_;dsimp only [flat,aA,ai,nA,cA];have hs:=Lj xs s i hil;rw [Kb];refine af (fun r=>?_) (fun r=>?_)
  ·have r:=of_decide_eq_true r;refine ⟨congrArg Value.bool ?_,rfl⟩;unfold fm;exact (List.any_eq_true.2 ⟨_,List.getElem_mem hil,decide_eq_true r⟩).symm
  ·rw [hn,r] at hs;refine aL (cs:=[(false,[.bool]),(false,[.int .i64])]) (b2,((i+1:Nat):Int),()) (xs.length-(i+1)) rfl (by omega) (by rw [wrap_i64 (by omega) (by omega)]; rfl) ?_;exact ⟨i+1,rfl,rfl,by omega,rfl,hs⟩
 ·have q:=of_decide_eq_false q
  have:i=xs.length:=by omega
  subst this;rw [List.take_length] at hn;exact ⟨by rw [hn],rfl⟩
def eX (l:List bw):List ByteArray:=(l.filter fun x=>decide (x.kind=1)).map (·.name)
theorem DF (l:List bw) (i:Nat) (hi:i<l.length):eX (l.take (i+1))=eX (l.take i)++if l[i].kind=1 then [l[i].name] else []:=by
 unfold eX;rw [List.take_succ_eq_append_getElem hi,List.filter_append,List.map_append]
 congr 1
 by_cases hk:l[i].kind=1 <;> simp [hk]
theorem SN.push {L:Lp} {h:Hp} {b:Nat} {p:Option Addr} {l c:Nat} {xs:List ByteArray} (v:SN h b p l c xs) (x:ByteArray) (hl:xs.length≤2^40) (hb:b≤h.size) {k:Option Addr→Nat→Nat→T}
  (hk:∀ p' c' h',SN h' b p' (l+1) c' (xs++[x])→Ch (ay p) h h'→k p' (l+1) c' L K h') :
  T.aV Tryz.prog (Instr.buildSlice 25 1 #[(0,.string x)]) false [(false,[.slice 0])] (fun q m cc=>T.aV Tryz.prog (Builtin.append_ #[25,25] 25 #[.slice p l c,.slice q m cc]) false [(false,[.slice 0])] k) L K h:=by
 have n:=SN.len v;refine qm (vs:=[.string x]) EL KG rfl (by omega) (by omega) (by kernel_rfl) rfl rfl v hb (by omega) (by omega) ?_;intro p' c' h' s' ch _;refine hk p' c' h' ?_ ch;unfold SN;rw [List.map_append];exact s'
theorem SN.ext {h a b':Hp} {b:Nat} {p:Option Addr} {l c:Nat} {xs:List ByteArray} (e:Ext h a) (v:SN a b p l c xs) (hb:h.size≤b) (k:Ch (ay p) a b'):Ext h b' :=
 Ch.trans e k (fun i hi hl=>by have:=(Ob.SL.bN v i hi).1; omega)
theorem xN {h:Hp} {p:Option Addr} {l c:Nat} {us:List bw} (v:A8 h p l us) (hm:us.length≤2^20) :
  HC Tryz.prog 52 #[.slice p l c] h fun w h'=>∃ p' l' c',w=.slice p' l' c'∧SN h' h.size p' l' c' (eX us)∧Ext h h':=by
 refine aI (args:=[.slice p l c]) mixed Tryz.func52 (by kernel_rfl) (jN p l c) ?_;unfold ga;have n:=v.len;refine bC (cs:=[(false,[.slice 0]),(false,[.int .i64])]) (fun y m h'=>∃ i:Nat,y.2.1=(i:Int)∧m=us.length-i∧i≤us.length∧Ext h h'∧(eX (us.take i)).length≤i∧SN h' h.size y.1.1 y.1.2.1 y.1.2.2 (eX (us.take i))) ((none,0,0),(0:Int),()) us.length rfl
  ⟨0,rfl,rfl,by omega,Ch.refl _ _,by simp [eX],SL.nil _ _ _ _⟩ ?_
 rintro ⟨⟨p1,l2,l3⟩,n4,⟨⟩⟩ m h1 ⟨i,hi,rfl,hle,e1,hll,s⟩;simp only at hi s;subst hi;dsimp only [flat,aA,ai,nA,cA];have hz:=e1.size;refine af (fun q=>?_) (fun q=>?_)
 ·have q:=of_decide_eq_true q;have hil:i<us.length:=by omega
  obtain ⟨aa,pp,ll,cc,pT,hc,va⟩:=(v.ah e1).cells i hil;have ht:=DF us i hil;generalize us[i]=x at hc va ht;refine aB ⟨by omega,by omega⟩ (an pT ?_);rw [show Int.toNat (i:Int)=i by omega];refine aH (x.kind,()) ⟨hc.1,trivial⟩ ?_;dsimp only [flat,aA,ai,nA,cA];refine af (fun r=>?_) (fun r=>?_)
  ·have r:x.kind=1:=by simpa using r
   rw [if_pos r] at ht;refine aB ⟨by omega,by omega⟩ (an pT ?_);refine aH (x.name,()) ⟨by rw [add_add]; exact hc.2.1,trivial⟩ ?_;dsimp only [flat,aA,ai,nA,cA];refine SN.push s x.name (by omega) (by omega) ?_;intro p' c' h2 s2 k2;refine aL (cs:=[(false,[.slice 0]),(false,[.int .i64])]) ((p',l2+1,c'),((i+1:Nat):Int),()) (us.length-(i+1)) rfl (by omega) (by rw [wrap_i64 (by omega) (by omega)]; rfl) ?_;exact ⟨i+1,rfl,rfl,by omega,SN.ext e1 s (Nat.le_refl _) k2,by rw [ht,List.length_append]; simp; omega,by rw [ht]; exact s2⟩
  ·have r:¬ x.kind=1:=by simpa using r
   rw [if_neg r,List.append_nil] at ht;refine aL (cs:=[(false,[.slice 0]),(false,[.int .i64])]) ((p1,l2,l3),((i+1:Nat):Int),()) (us.length-(i+1)) rfl (by omega) (by rw [wrap_i64 (by omega) (by omega)]; rfl) ?_;exact ⟨i+1,rfl,rfl,by omega,e1,by rw [ht]; omega,by rw [ht]; exact s⟩
 ·have q:=of_decide_eq_false q
  have:i=us.length:=by omega
  subst this;rw [List.take_length] at s;exact ⟨p1,l2,l3,rfl,s,e1⟩
theorem Hc {L:Lp} {h:Hp} {k:Option Addr→Nat→Nat→T} {b b':Nat} {p:Option Addr} {l c:Nat} {xs:List ByteArray} (s:SN h b p l c xs) {q:Option Addr} {m d:Nat} {us:List ByteArray} (v:SN h b' q m d us)
  (hl:l+m≤2^40) (hb:b≤h.size)
  (hk:∀ p' c' h',SN h' b p' (l+m) c' (xs++us)→Ch (ay p) h h'→k p' (l+m) c' L K h') :
  T.aV Tryz.prog (Builtin.append_ #[25,25] 25 #[.slice p l c,.slice q m d]) false [(false,[.slice 0])] k L K h:=by
 obtain ⟨i,hi,hz,hsz,hby⟩:=mj KG;refine cO ?_;cases q with
 | none =>
  have h1:us=[]:=by
   have:=v.2.2.2
   simpa using this
  have h0:m=0:=by have:=SN.len v; rw [h1] at this; exact this
  have hd:d=0:=v.2.2.1;subst h0 h1 hd;have hc0:l≤c:=by
   cases p with
   | none =>
    have h2:=s.2.2.2;have h3:=s.1;rw [h2] at h3;simp at h3;omega
   | some a =>
    obtain ⟨g,pre,rest,rfl,hbg,hlc,_⟩:=s.2.2;exact hlc.1
  simp [Builtin.append_,aj,az EL,bj hi,cI hi,Builtin.lenOf,Builtin.firstCells,hc0];have hfin:∃ p' l' c',Value.slice p l c=.slice p' l' c'∧k p' l' c' L K h:=⟨p,l,c,rfl,by simpa using hk p c h (by simpa using s) (Ch.refl _ _)⟩
  cases p with
  | none=>exact hfin
  | some a=>exact hfin
 | some a =>
  have hc:aG h a 0 (us.map F').flatten:=by
   obtain ⟨g,pre,rest,rfl,hbg,hlc,hbox,hr⟩:=v.2.2;refine hbox.cells _ ?_;rw [List.drop_left,List.take_left]
  have hpl:(us.map F').flatten.all dW=true:=by
   rw [List.all_eq_true];intro x hx;obtain ⟨y,hy,hxy⟩:=List.mem_flatten.1 hx;obtain ⟨z,_,rfl⟩:=List.mem_map.1 hy;rw [List.mem_singleton.1 hxy] <;> rfl
  refine kf EL hi hz (by rw [hsz]; rfl) (by rw [hsz]; exact s) (ys:=us.map F') (by rw [List.length_map]; exact SN.len v) (fun y hy=>?_) hc hpl (by rw [hby]; omega) (by omega) hb ?_
  ·obtain ⟨t,_,rfl⟩:=List.mem_map.1 hy;rw [hsz] <;> rfl
  ·intro p' c' h' s' k' hp';rw [hsz,← List.map_append] at s';exact ⟨_,_,_,rfl,hk p' c' h' s' k'⟩
def La (u:jv):List ByteArray:=eX u.text++eX u.data++u.aZ.map (·.1)
theorem zZ (l:List bw):(eX l).length≤l.length:=by
 unfold eX;rw [List.length_map];exact List.length_filter_le _ _
theorem Bx {h:Hp} {a b c d:bI} {u:jv} (v:iO h a b c d u) (h1:u.text.length≤2^20) (h2:u.data.length≤2^20) (h3:u.aZ.length≤2^20) :
  HC Tryz.prog 23 #[ti a b c d] h fun w h'=>∃ p' l' c',w=.slice p' l' c'∧SN h' h.size p' l' c' (La u)∧Ext h h':=by
 refine aI (args:=[ti a b c d]) mixed Tryz.func23 (by kernel_rfl) (lJ a.p a.l a.c b.p b.l b.c c.p c.l c.c d.p d.l d.c) ?_;unfold iK;refine aT ?_;intro g1 b1 e1 z1;have b1:aN g1 h.size 27 [a.v,b.v,c.v,d.v]:=b1;simp only [ao];refine ad b1 ((a.p,a.l,a.c),()) rfl ?_;dsimp only [flat,aA,ai,nA,cA];refine ad b1 ((b.p,b.l,b.c),()) rfl ?_;dsimp only [flat,aA,ai,nA,cA];refine aC (xN (c:=a.c) (v.text.ah e1) h1) ?_;rintro _ g2 ⟨p8,l9,l10,rfl,s8,e2⟩;refine ⟨((p8,l9,l10),()),rfl,?_⟩;dsimp only [flat,aA,ai,nA,cA];have b2:=b1.ah e2 (by simp);refine ⟨⟨b2.cells _ rfl,trivial⟩,?_⟩;refine aC (xN (c:=b.c) (v.data.ah (e1.trans e2)) h2) ?_;rintro _ g3 ⟨p11,l12,l13,rfl,s11,e3⟩;refine ⟨((p11,l12,l13),()),rfl,?_⟩;dsimp only [flat,aA,ai,nA,cA];have b3:=b2.ah e3 (by simp);have q1:=e1.size;have q2:=e2.size;have q3:=e3.size;refine ⟨⟨b3.cells _ rfl,trivial⟩,?_⟩;have s8':SN g3 g1.size p8 l9 l10 (eX u.text):=s8.ah e3 (by simp);have n8:=SN.len s8;have n11:=SN.len s11;have k8:=zZ u.text;have k11:=zZ u.data;have e03:=(e1.trans e2).trans e3;refine Hc s8' s11 (by omega) (by omega) ?_;intro p14 c14 g4 s14 k4;have e4:=SN.ext e03 s8' (by omega) k4;have nb:h.size∉ay p8:=fun hi=>by have:=(Ob.SL.bN s8' _ hi).1; omega
 have b4:=b3.ah k4 nb;refine ⟨⟨b4.cells _ rfl,b4.cells _ rfl,trivial⟩,?_⟩;have nc:=v.aZ.len;have hu:∀ i,i<u.aZ.length→eX u.text++eX u.data++(u.aZ.take (i+1)).map (·.1)=(eX u.text++eX u.data++(u.aZ.take i).map (·.1))++[(u.aZ.getD i (bK,dJ)).1]:=by
  intro i hi;rw [List.take_succ_eq_append_getElem hi,List.map_append,← List.append_assoc,List.getD_eq_getElem?_getD,List.getElem?_eq_getElem hi] <;> rfl
 refine bC (cs:=[(false,[.slice 0]),(false,[.int .i64])]) (fun y m h'=>∃ i:Nat,y.2.1=(i:Int)∧m=u.aZ.length-i∧i≤u.aZ.length∧(Ext h h'∧g1.size≤h'.size)∧aN h' h.size 27 [a.v,b.v,c.v,d.v]∧SN h' g1.size y.1.1 y.1.2.1 y.1.2.2 (eX u.text++eX u.data++(u.aZ.take i).map (·.1))) ((p14,l9+l12,c14),(0:Int),()) u.aZ.length rfl
  ⟨0,rfl,rfl,by omega,⟨e4,by have:=k4.size; omega⟩,b4,by simpa using s14⟩ ?_
 rintro ⟨⟨p1,l2,l3⟩,n4,⟨⟩⟩ m g5 ⟨i,hi,rfl,hle,⟨e5,z5⟩,b5,s⟩;simp only at hi s;subst hi;dsimp only [flat,aA,ai,nA,cA];have hz:=e5.size;refine ad b5 ((c.p,c.l,c.c),()) rfl ?_;dsimp only [flat,aA,ai,nA,cA];refine af (fun q=>?_) (fun q=>?_)
 ·have q:=of_decide_eq_true q;have hil:i<u.aZ.length:=by omega
  refine ad b5 ((c.p,c.l,c.c),()) rfl ?_;dsimp only [flat,aA,ai,nA,cA];obtain ⟨aa,pp,ll,cc,pT,hc,va,vn⟩:=(v.aZ.ah e5).cells i hil;refine aB ⟨by omega,by omega⟩ (an pT ?_);rw [show Int.toNat (i:Int)=i by omega];refine aH (u.aZ[i].1,()) ⟨hc.1,trivial⟩ ?_;dsimp only [flat,aA,ai,nA,cA];have ns:=SN.len s;have hg:(u.aZ.getD i (bK,dJ)).1=u.aZ[i].1:=by
   rw [List.getD_eq_getElem?_getD,List.getElem?_eq_getElem hil] <;> rfl
  refine SN.push s _ (by simp only [List.length_append,List.length_map,List.length_take]; omega) z5 ?_;intro p' c' h2 s2 k2;have nb2:h.size∉ay p1:=fun hi=>by have:=(Ob.SL.bN s _ hi).1; omega
  refine aL (cs:=[(false,[.slice 0]),(false,[.int .i64])]) ((p',l2+1,c'),((i+1:Nat):Int),()) (u.aZ.length-(i+1)) rfl (by omega) (by rw [wrap_i64 (by omega) (by omega)]; rfl) ?_;exact ⟨i+1,rfl,rfl,by omega,⟨SN.ext e5 s (by omega) k2,by have:=k2.size; omega⟩,b5.ah k2 nb2,by rw [hu i hil,hg]; exact s2⟩
 ·have q:=of_decide_eq_false q
  have:i=u.aZ.length:=by omega
  subst this;rw [List.take_length] at s;exact ⟨p1,l2,l3,rfl,Sx.SL.mono s (by omega),e5⟩
theorem SN.put {L:Lp} {h:Hp} {b:Nat} {p:Option Addr} {l c:Nat} {xs:List ByteArray} (v:SN h b p l c xs) {i:Nat} (hi:i<xs.length) (x:ByteArray) {a:Addr} (ha:p=some a) {k:T}
  (hk:∀ h',SN h' b p l c (xs.set i x)→Ch (ay p) h h'→h'.size=h.size→k L K h'):T.ap (a.add (i*1)) [.string x] k L K h:=by
 refine SL.store (P:=Tryz.prog) v (i:=i) (vs:=F' x) (by rw [List.length_map]; exact hi) rfl rfl ha ?_;intro h' s' ch z;refine hk h' ?_ ch z;unfold SN;rw [List.map_set];exact s'
theorem AB (zs:List ByteArray) (j:Nat) (hj:0<j) (hl:j<zs.length):(zs.set j (zs[j-1]'(by omega))).eraseIdx (j-1)=zs.eraseIdx j:=by
 apply List.ext_getElem?;intro k;rw [List.getElem?_eraseIdx,List.getElem?_eraseIdx]
 by_cases h1:k<j-1
 ·rw [if_pos h1,if_pos (by omega),List.getElem?_set_ne (by omega)]
 ·rw [if_neg h1]
  by_cases h2:k<j
  ·have:k=j-1:=by omega
   subst this;rw [if_pos h2,show j-1+1=j by omega,List.getElem?_set_self hl,List.getElem?_eq_getElem (by omega)]
  ·rw [if_neg h2,List.getElem?_set_ne (by omega)]
theorem HS (zs:List ByteArray) (j:Nat) (hl:j<zs.length) (x s:ByteArray):fm (zs.set j x) s=(fm (zs.eraseIdx j) s || decide (x=s)):=by
 unfold fm;rw [List.set_eq_take_append_cons_drop,if_pos hl,List.eraseIdx_eq_take_drop_succ];simp only [List.any_append,List.any_cons]
 all_goals (cases List.any (zs.take j) (fun t=>decide (t=s)) <;> cases List.any (zs.drop (j+1)) (fun t=>decide (t=s)) <;> cases decide (x=s) <;> rfl)
theorem nB {D:List ByteArray} {s:ByteArray}:fm D s=true↔s∈D:=by
 unfold fm;rw [List.any_eq_true];constructor
 ·rintro ⟨t,ht,e⟩;rw [← of_decide_eq_true e];exact ht
 ·intro hs;exact ⟨s,hs,decide_eq_true rfl⟩
theorem kL (l:List ByteArray) (x:ByteArray):(l++[x]).Nodup↔l.Nodup∧x∉l:=by
 rw [List.nodup_append];constructor
 ·rintro ⟨a,_,c⟩;exact ⟨a,fun hx=>c x hx x (by simp) rfl⟩
 ·rintro ⟨a,b⟩;refine ⟨a,by simp,fun y hy z hz e=>?_⟩;rw [List.mem_singleton.1 hz] at e;exact b (e▸hy)
theorem w8 {h : Hp} {b : Nat} {p : Option Addr} {l c : Nat} {xs : List ByteArray} (v : SN h b p l c xs) (hm : xs.length ≤ 2 ^ 30) :
    HC Tryz.prog 22 #[.slice p l c] h fun w h' => ∃ p' c' ys, w = .slice p' (ys : List ByteArray).length c' ∧ ys.length ≤ xs.length ∧ (ys.length = xs.length ↔ xs.Nodup) ∧ Ext h h' := by
  refine aI (args := [.slice p l c]) mixed Tryz.func22 (by kernel_rfl) (jO p l c) ?_;unfold fY;have n := SN.len v
  refine bC (cs := [(false, [.slice 0]), (false, [.int .i64])]) (fun y m h' => ∃ (i : Nat) (ys : List ByteArray), y.2.1 = (i : Int) ∧ m = xs.length - i ∧ i ≤ xs.length ∧ Ext h h' ∧ SN h' h.size y.1.1 y.1.2.1 y.1.2.2 ys ∧ ys.length ≤ i ∧ (∀ s, fm ys s = fm (xs.take i) s) ∧ (ys.length = i ↔ (xs.take i).Nodup)) ((none, 0, 0), (0 : Int), ()) xs.length rfl
    ⟨0, [], rfl, rfl, by omega, Ch.refl _ _, SL.nil _ _ _ _, by simp, fun s => rfl, by simp⟩ ?_
  rintro ⟨⟨p1, l2, l3⟩, n4, ⟨⟩⟩ m h1 ⟨i, ys, hi, rfl, hle, e1, s, hyl, hin, hnd⟩;simp only at hi s;subst hi;dsimp only [flat, aA, ai, nA, cA];have hz := e1.size;have ny := SN.len s;refine af (fun q => ?_) (fun q => ?_)
  · have q := of_decide_eq_true q
    have hil : i < xs.length := by omega
    have hx : ∀ {g}, Ext h g → ∃ a, p = some a ∧ aG g (a.add (i * 1)) 0 [.string xs[i]] := by
      intro g e;obtain ⟨a, ha, hc⟩ := SN.cell v hil;exact ⟨a, ha, bk e (by simp) _ _ hc⟩
    have htk : xs.take (i + 1) = xs.take i ++ [xs[i]] := List.take_succ_eq_append_getElem hil;generalize hxv : xs[i] = x at hx htk;obtain ⟨a, ha, hc⟩ := hx e1;refine aB ⟨by omega, by omega⟩ (an ha ?_);rw [show Int.toNat (i : Int) = i by omega];refine aH (x, ()) hc ?_;dsimp only [flat, aA, ai, nA, cA];refine aD (I8 s (by omega) x) ?_;rw [hin];have hinx : fm (xs.take i) x = true ↔ x ∈ xs.take i := nB;refine af (fun r => ?_) (fun r => ?_)
    · have r2 := hinx.1 r
      refine aL (cs := [(false, [.slice 0]), (false, [.int .i64])]) ((p1, l2, l3), ((i + 1 : Nat) : Int), ()) (xs.length - (i + 1)) rfl (by omega) (by rw [wrap_i64 (by omega) (by omega)]; rfl) ?_;refine ⟨i + 1, ys, rfl, rfl, by omega, e1, s, by omega, fun t => ?_, ?_⟩
      · rw [hin, htk]
        by_cases e : x = t
        · subst e
          rw [r];exact (nB.2 (List.mem_append.2 (.inl r2))).symm
        · unfold fm
          rw [List.any_append];simp [e]
      · rw [htk, kL]
        exact ⟨fun k => by omega, fun k => absurd r2 k.2⟩
    · have r2 : x ∉ xs.take i := fun k => by rw [hinx.2 k] at r; cases r
      refine aB ⟨by omega, by omega⟩ (an ha ?_);refine aH (x, ()) hc ?_;dsimp only [flat, aA, ai, nA, cA];refine SN.push s x (by omega) hz ?_;intro p' c' h2 s2 k2;have e2 := SN.ext e1 s (Nat.le_refl _) k2
      refine bC (cs := [(false, [.int .i64])]) (fun y m h' => ∃ (j : Nat) (zs : List ByteArray), y.1 = (j : Int) ∧ m = j ∧ j ≤ ys.length ∧ zs.length = ys.length + 1 ∧ zs.eraseIdx j = ys ∧ Ext h h' ∧ SN h' h.size p' (l2 + 1) c' zs) ((l2 : Int), ()) ys.length rfl
        ⟨ys.length, ys ++ [x], by rw [ny], rfl, by omega, by simp, by rw [List.eraseIdx_append_of_length_le (by omega)]; simp, e2, s2⟩ ?_
      rintro ⟨n16, ⟨⟩⟩ m h3 ⟨j, zs, hj, rfl, hjl, hzl, hze, e3, s3⟩;simp only at hj;subst hj;dsimp only [flat, aA, ai, nA, cA]
      have hpl : ∃ a2, p' = some a2 := by
        obtain ⟨a2, h2, _⟩ := SN.cell s3 (i := 0) (by omega);exact ⟨a2, h2⟩
      obtain ⟨a2, ha2⟩ := hpl
      have last : (T.need (((0 : Int) ≤ (i : Int)) ∧ ((i : Int) < (l : Int))) <|
         T.au p fun (a21 : Addr) =>
         T.ae (a21.add ((Int.toNat (i : Int)) * 1)) [.string] <| fun (s22 : ByteArray) =>
         T.need (((0 : Int) ≤ (m : Int)) ∧ ((m : Int) < ((l2 + 1 : Nat) : Int))) <|
         T.au p' fun (a23 : Addr) =>
         T.ap (a23.add ((Int.toNat (m : Int)) * 1)) [.string s22] <|
         T.again 0 [.slice p' (l2 + 1) c', .int .i64 (IntKind.wrap .i64 ((i : Int) + (1 : Int)))])
         ([] ++ [Jl (cs := [(false, [.slice 0]), (false, [.int .i64])]) (fun y m h' => ∃ (i : Nat) (ys : List ByteArray), y.2.1 = (i : Int) ∧ m = xs.length - i ∧ i ≤ xs.length ∧ Ext h h' ∧ SN h' h.size y.1.1 y.1.2.1 y.1.2.2 ys ∧ ys.length ≤ i ∧ (∀ s, fm ys s = fm (xs.take i) s) ∧ (ys.length = i ↔ (xs.take i).Nodup)) (xs.length - i)] ++
          [Jl (cs := [(false, [.int .i64])]) (fun y m h' => ∃ (j : Nat) (zs : List ByteArray), y.1 = (j : Int) ∧ m = j ∧ j ≤ ys.length ∧ zs.length = ys.length + 1 ∧ zs.eraseIdx j = ys ∧ Ext h h' ∧ SN h' h.size p' (l2 + 1) c' zs) m])
         (fun w h' => ∃ p' c' ys, w = .slice p' (ys : List ByteArray).length c' ∧ ys.length ≤ xs.length ∧ (ys.length = xs.length ↔ xs.Nodup) ∧ Ext h h') h3 := by
        obtain ⟨a, ha, hc⟩ := hx e3;refine aB ⟨by omega, by omega⟩ (an ha ?_);rw [show Int.toNat (i : Int) = i by omega];refine aH (x, ()) hc ?_;dsimp only [flat, aA, ai, nA, cA];refine aB ⟨by omega, by omega⟩ (an ha2 ?_);rw [show Int.toNat (m : Int) = m by omega];refine SN.put s3 (by omega) x ha2 ?_;intro h4 s4 k4 z4;refine aL (cs := [(false, [.slice 0]), (false, [.int .i64])]) ((p', l2 + 1, c'), ((i + 1 : Nat) : Int), ()) (xs.length - (i + 1)) rfl (by omega) (by rw [wrap_i64 (by omega) (by omega)]; rfl) ?_;refine ⟨i + 1, zs.set m x, rfl, rfl, by omega, SN.ext e3 s3 (Nat.le_refl _) k4, s4, by rw [List.length_set]; omega, fun t => ?_, ?_⟩
        · rw [HS zs m (by omega), hze, hin, htk]
          unfold fm;rw [List.any_append]
          simp
        · rw [List.length_set, htk, kL, ← hnd, hzl]
          exact ⟨fun k => ⟨by omega, r2⟩, fun k => by omega⟩
      refine af (fun q2 => ?_) (fun q2 => last);have q2 := of_decide_eq_true q2;rw [wrap_i64 (by omega) (by omega)];obtain ⟨a3, ha3, hc3⟩ := SN.cell s3 (i := m - 1) (by omega);refine aB ⟨by omega, by omega⟩ (an ha3 ?_);rw [show Int.toNat ((m : Int) - 1) = m - 1 by omega];refine aH (zs[m - 1]'(by omega), ()) hc3 ?_;dsimp only [flat, aA, ai, nA, cA];obtain ⟨a, ha, hc⟩ := hx e3;refine aB ⟨by omega, by omega⟩ (an ha ?_);refine aH (x, ()) hc ?_;dsimp only [flat, aA, ai, nA, cA];refine af (fun q3 => ?_) (fun q3 => ?_)
      · refine aB ⟨by omega, by omega⟩ (an ha3 ?_)
        refine aH (zs[m - 1]'(by omega), ()) hc3 ?_;dsimp only [flat, aA, ai, nA, cA];refine aB ⟨by omega, by omega⟩ (an ha2 ?_);rw [show Int.toNat (m : Int) = m by omega];refine SN.put s3 (by omega) _ ha2 ?_;intro h4 s4 k4 z4;refine aL (cs := [(false, [.int .i64])]) (((m - 1 : Nat) : Int), ()) (m - 1) rfl (by omega) (by rw [show (m : Int) - 1 = ((m - 1 : Nat) : Int) by omega]; rfl) ?_;exact ⟨m - 1, _, rfl, rfl, by omega, by rw [List.length_set]; exact hzl, by rw [AB zs m (by omega) (by omega)]; exact hze, SN.ext e3 s3 (Nat.le_refl _) k4, s4⟩
      · have := last
        rw [show Int.toNat (i : Int) = i by omega] at this;exact this
  · have q := of_decide_eq_false q
    have : i = xs.length := by omega
    subst this;rw [List.take_length] at hnd;exact ⟨p1, l3, ys, by rw [ny], hyl, hnd, e1⟩
end Go.Sx.Ob
set_option linter.unusedVariables false
set_option linter.unusedSimpArgs false
set_option maxRecDepth 100000
namespace Go.Sx.Ob
open Go.Proofs
variable {more src tail:ByteArray}
structure dX where
 text:List bw
 data:List bw
 aZ:List nh
 names:List ByteArray
 aF:List (ByteArray × Nat)
 sec:Nat
def fe:dX:=⟨[],[],[],[],[],0⟩
def tU (s:ByteArray):bw:={ cK 1 with name:=s }
def ju (dC:ByteArray) (t:jW):List bw:=(if dC=bK then [] else [tU dC])++t.items
def ik (w:dX) (n:Nat) (dC:ByteArray) (t:jW):dX :=
 let rf:=ju dC t
 let nm:=w.names++(if dC=bK then [] else [dC])
 { text:=if w.sec=0 then w.text++rf else w.text,data:=if w.sec=0 then w.data else w.data++rf,aZ:=if t.kind=3 then w.aZ++[(t.name,t.e)] else w.aZ,names:=if t.kind=3 then nm++[t.name] else nm,aF:=if t.kind=4 then w.aF++[(t.name,n)] else w.aF,sec:=if t.kind=5 then t.sec else w.sec }
def tk (w:dX) (dC:ByteArray) (t:jW):Prop:=(dC≠bK∧fm w.names dC=true)∨(t.kind=3∧(fm w.names t.name=true∨t.name=dC))
instance (w:dX) (dC:ByteArray) (t:jW):Decidable (tk w dC t):=by unfold tk; infer_instance
def dH (w:dX) (n:Nat) (s:ByteArray):Except Nat dX :=
 if (aJ s).2.2≠0 then .error (aJ s).2.2
 else if (aJ s).1.label≠bK∧bf (aJ s).1.label.data.toList=false then .error 21
 else match dy (aJ s).1 (decide (w.sec=1)) with
  | .error e=>.error e
  | .ok t=>if tk w (aJ s).1.label t then .error 22
   else if 8192<w.text.length+w.data.length+(ju (aJ s).1.label t).length then .error 4
   else .ok (ik w n (aJ s).1.label t)
def aR:Nat→List UInt8→List (List UInt8)
 | 0,_=>[]
 | _+1,[]=>[]
 | f+1,s=>(s.takeWhile (·≠10))::aR f ((s.dropWhile (·≠10)).drop 1)
def cY (s:ByteArray):List ByteArray:=(aR (s.size+1) s.data.toList).map fun l=>⟨l.toArray⟩
def dI:dX→Nat→List ByteArray→Except (Nat × Nat) dX
 | w,_,[]=>.ok w
 | w,n,s::l=>match dH w n s with
  | .error e=>.error (n,e)
  | .ok w=>dI w (n+1) l
def FV (w:dX):Option (ByteArray × Nat):=w.aF.find? fun g=>!fm w.names g.1
def lQ (s:ByteArray):List ByteArray→List ByteArray
 | []=>[s]
 | t::l=>if jU s t then s::t::l else if s=t then t::l else t::lQ s l
def cj (l:List ByteArray):List ByteArray:=l.foldl (fun d s=>lQ s d) []
def cQ (src:ByteArray):Except (Nat × Nat) jv :=
 if 65536<src.size then .error (0,3)
 else if 4096<(cY src).length then .error (4097,4)
 else match dI fe 1 (cY src) with
  | .error e=>.error e
  | .ok w=>match FV w with
   | some g=>.error (g.2,23)
   | none=>.ok ⟨w.text,w.data,w.aZ,cj (w.aF.map (·.1))⟩
/-! What is put is right. -/
structure AT (w:dX):Prop where
 text:∀ x,x∈w.text→cS x 0=true∧Good x.e
 data:∀ x,x∈w.data→cS x 1=true∧Good x.e
 aZ:∀ x,x∈w.aZ→bf x.1.data.toList=true∧Good x.2
 perm:w.names.Perm (eX w.text++eX w.data++w.aZ.map (·.1))
 JT:w.names.Nodup
 aF:∀ g,g∈w.aF→bf g.1.data.toList=true
 sec:w.sec≤1
 many:w.text.length+w.data.length≤8192
theorem AT.z:AT fe:=⟨by simp [fe],by simp [fe],by simp [fe],by simp [fe,eX],by simp [fe],by simp [fe],by simp [fe],by simp [fe]⟩
/-! No line's own items are labels. -/
theorem Dw {x y:bw} {r:CD} {ts:List Tok} (h:dE x r ts=.ok y):y.kind=x.kind:=by
 unfold dE at h;split at h
 ·split at h
  ·cases h
  ·injection h with h
   subst h;split
   ·rfl
   ·split
    ·rfl
    ·rfl
 ·split at h
  ·cases h
  ·injection h with h
   subst h;rfl
 ·split at h
  ·cases h
  ·injection h with h
   subst h;rfl
theorem uA:∀ (rs:List CD) (args:List (List Tok)) (x y:bw),dO x rs args=.ok y→y.kind=x.kind
 | [],args,x,y,h=>by
  have h:Except.ok x=(Except.ok y:Except Nat bw):=by cases args <;> exact h
  injection h with h
  rw [h]
 | r::rs,[],x,y,h=>by
  simp only [dO] at h;injection h with h
  rw [h]
 | r::rs,a::args,x,y,h=>by
  simp only [dO] at h;split at h
  ·cases h
  ·rename_i z hz;rw [uA rs args z y h,Dw hz]
theorem BT {op:Int} {args:List (List Tok)} {y:bw} (h:ey op args=.ok y):y.kind=2:=by
 unfold ey at h;split at h
 ·cases h
 ·rw [uA _ _ _ _ h]; rfl
theorem mw {k:Nat} (hk:k=5∨k=6):∀ (args:List (List Tok)) (l:List bw),cC k args=.ok l→∀ x,x∈l→x.kind≠1
 | [],l,h=>by
  simp only [cC] at h;injection h with h
  subst h
  simp
 | a::args,l,h=>by
  simp only [cC] at h;split at h
  ·cases h
  ·rename_i x hx;split at h
   ·cases h
   ·rename_i l' hl;injection h with h
    subst h;intro y hy;rcases List.mem_cons.1 hy with rfl | hy
    ·unfold iN at hx;rcases hk with rfl | rfl
     ·rw [if_pos rfl] at hx;split at hx
      ·cases hx
      ·injection hx with hx
       subst hx;simp [cK]
     ·rw [if_neg (by decide)] at hx;split at hx
      ·cases hx
      ·injection hx with hx
       subst hx;simp [cK]
    ·exact mw hk args l' hl y hy
theorem Bq {op:ByteArray} {args:List (List Tok)} {t:jW} {w:Nat} (h:fO op args=.ok (t,w)):(∀ x,x∈t.items→x.kind≠1)∧(t.kind=3→t.items=[]):=by
 unfold fO at h;simp only at h;split at h
 ·cases h
 split at h
 ·injection h with h; injection h with h _; subst h
  exact ⟨by simp [eW,cK],by simp [eW]⟩
 split at h
 ·split at h
  ·cases h
  split at h
  ·injection h with h; injection h with h _; subst h
   exact ⟨by simp [eW,cK],by simp [eW]⟩
  ·cases h
 split at h
 ·split at h
  ·cases h
  injection h with h; injection h with h _; subst h
  exact ⟨by simp [eW,cK],by simp [eW]⟩
 split at h
 ·split at h
  ·cases h
  split at h
  ·cases h
  rename_i l hh;injection h with h; injection h with h _; subst h
  exact ⟨mw (.inl rfl) _ _ hh,by simp⟩
 split at h
 ·split at h
  ·cases h
  split at h
  ·cases h
  rename_i l hh;injection h with h; injection h with h _; subst h
  exact ⟨mw (.inr rfl) _ _ hh,by simp⟩
 split at h
 ·split at h
  ·cases h
  split at h
  ·cases h
  injection h with h; injection h with h _; subst h
  exact ⟨by simp [bE],by simp [bE]⟩
 split at h
 ·split at h
  ·cases h
  injection h with h; injection h with h _; subst h
  exact ⟨by simp [bE],by simp [bE]⟩
 split at h
 ·split at h
  ·injection h with h; injection h with h _; subst h
   exact ⟨by simp [bE],by simp [bE]⟩
  split at h
  ·injection h with h; injection h with h _; subst h
   exact ⟨by simp [bE],by simp [bE]⟩
  ·cases h
 ·cases h
theorem zY {l:Ln} {data:Bool} {t:jW} (h:dy l data=.ok t):(∀ x,x∈t.items→x.kind≠1)∧(t.kind=3→t.items=[]):=by
 unfold dy at h;split at h
 ·injection h with h
  subst h;exact ⟨by simp [bE],by simp [bE]⟩
 split at h
 ·split at h
  ·cases h
  rename_i x hx;split at h
  ·cases h
  injection h with h
  subst h;exact ⟨by simp [eW,BT hx],by simp [eW]⟩
 split at h
 ·cases h
 rename_i t' w' hd
 by_cases g:w'=2∨w'=(if data then 1 else 0)
 ·rw [if_pos g] at h;injection h with h
  subst h;exact Bq hd
 ·rw [if_neg g] at h;cases h
theorem vL (a b:List bw):eX (a++b)=eX a++eX b:=by simp [eX]
theorem FM (dC:ByteArray) {t:jW} (h:∀ x,x∈t.items→x.kind≠1):eX (ju dC t)=if dC=bK then [] else [dC]:=by
 unfold ju;rw [vL]
 have:eX t.items=[]:=by
  unfold eX;rw [List.map_eq_nil_iff,List.filter_eq_nil_iff];intro x hx;simpa using h x hx
 rw [this,List.append_nil];split
 ·rfl
 ·rfl
theorem F8 {s:ByteArray} (h:bf s.data.toList=true) (k:Nat):cS (tU s) k=true∧Good (tU s).e:=by
 refine ⟨?_,Good.z⟩;unfold cS;rw [if_pos (show (tU s).kind=1 from rfl)];simp [tU,cK,z2,z3,z4,CZ,h]
theorem Ad {w w':dX} {n:Nat} {s:ByteArray} (hs:s.size≤2^20) (W:AT w) (h:dH w n s=.ok w'):AT w':=by
 unfold dH at h;split at h
 ·cases h
 split at h
 ·cases h
 rename_i hl;split at h
 ·cases h
 rename_i t ht;split at h
 ·cases h
 rename_i hd;split at h
 ·cases h
 rename_i hm;injection h with h
 have f:=gJ s hs;have ok:=sj (fun a ha=>(f a ha).1) ht;obtain ⟨nl,n3⟩:=zY ht;generalize (aJ s).1.label=dC at *;have hlab:dC≠bK→bf dC.data.toList=true:=by
  intro g
  by_cases q:bf dC.data.toList=true
  ·exact q
  ·exact absurd ⟨g,by simpa using q⟩ hl
 have hits:∀ x,x∈ju dC t→cS x w.sec=true∧Good x.e:=by
  intro x hx;unfold ju at hx;rcases List.mem_append.1 hx with hx | hx
  ·split at hx
   ·simp at hx
   ·rename_i g
    have:x=tU dC:=by simpa using hx
    rw [this];exact F8 (hlab g) _
  ·have h1:=ok.items x hx;have hs:=W.sec;rcases (show w.sec=0∨w.sec=1 by omega) with e | e
   ·rw [e] at h1 ⊢; simpa using h1
   ·rw [e] at h1 ⊢; simpa using h1
 have hlb:=FM dC nl;have hsec:=W.sec;subst h;refine ⟨?_,?_,?_,?_,?_,?_,?_,?_⟩
 ·intro x hx;unfold ik at hx;simp only at hx;split at hx
  ·rename_i e;rcases List.mem_append.1 hx with hx | hx
   ·exact W.text x hx
   ·have:=hits x hx
    rwa [e] at this
  ·exact W.text x hx
 ·intro x hx;unfold ik at hx;simp only at hx;split at hx
  ·exact W.data x hx
  ·rename_i e;rcases List.mem_append.1 hx with hx | hx
   ·exact W.data x hx
   ·have:=hits x hx
    rwa [show w.sec=1 by omega] at this
 ·intro x hx;unfold ik at hx;simp only at hx;split at hx
  ·rename_i e;rcases List.mem_append.1 hx with hx | hx
   ·exact W.aZ x hx
   ·have:x=(t.name,t.e):=by simpa using hx
    rw [this];exact ⟨ok.name (.inl e),ok.e⟩
  ·exact W.aZ x hx
 ·unfold ik;simp only;have P:=W.perm;generalize hlw:(if dC=bK then ([]:List ByteArray) else [dC])=lw at *;have base:(w.names++lw).Perm (eX (if w.sec=0 then w.text++ju dC t else w.text)++eX (if w.sec=0 then w.data else w.data++ju dC t)++w.aZ.map (·.1)):=by
   refine (P.append_right lw).trans ?_;split
   ·rw [vL,hlb];simp only [List.append_assoc];refine List.Perm.append_left _ ?_;rw [← List.append_assoc,← List.append_assoc];exact List.perm_append_comm.trans (by simp)
   ·rw [vL,hlb];simp only [List.append_assoc];refine List.Perm.append_left _ (List.Perm.append_left _ ?_);exact List.perm_append_comm
  by_cases e:t.kind=3
  ·rw [if_pos e,if_pos e,List.map_append,← List.append_assoc];exact base.append_right _
  ·rw [if_neg e,if_neg e];exact base
 ·have hnd:∀ s',(s'∈w.names↔fm w.names s'=true):=fun s'=>nB.symm
  unfold tk at hd;unfold ik;simp only;have h1:(w.names++(if dC=bK then [] else [dC])).Nodup:=by
   split
   ·simpa using W.JT
   ·rename_i g;rw [kL];refine ⟨W.JT,fun hm=>hd (.inl ⟨g,(hnd _).1 hm⟩)⟩
  split
  ·rename_i e;rw [kL];refine ⟨h1,fun hm=>?_⟩;rcases List.mem_append.1 hm with hm | hm
   ·exact hd (.inr ⟨e,.inl ((hnd _).1 hm)⟩)
   ·split at hm
    ·simp at hm
    ·exact hd (.inr ⟨e,.inr (by simpa using hm)⟩)
  ·exact h1
 ·intro g hg;unfold ik at hg;simp only at hg;split at hg
  ·rename_i e;rcases List.mem_append.1 hg with hg | hg
   ·exact W.aF g hg
   ·have:g=(t.name,n):=by simpa using hg
    rw [this];exact ok.name (.inr e)
  ·exact W.aF g hg
 ·unfold ik;simp only;split
  ·exact ok.sec
  ·exact hsec
 ·unfold ik;simp only
  have:=W.many
  split
  ·rw [List.length_append]; omega
  ·rw [List.length_append]; omega
theorem uo (s:ByteArray):∀ (l:List ByteArray) (x:ByteArray),x∈lQ s l↔x=s∨x∈l
 | [],x=>by simp [lQ]
 | t::l,x=>by
  unfold lQ;split
  ·simp
  ·split
   ·rename_i e;subst e
    simp
   ·rw [List.mem_cons,uo s l,List.mem_cons];constructor
    ·rintro (h | h | h)
     ·exact .inr (.inl h)
     ·exact .inl h
     ·exact .inr (.inr h)
    ·rintro (h | h | h)
     ·exact .inr (.inl h)
     ·exact .inl h
     ·exact .inr (.inr h)
theorem xq (s:ByteArray):∀ (l:List ByteArray),l.Pairwise jU→(lQ s l).Pairwise jU
 | [],_=>by simp [lQ]
 | t::l,h=>by
  obtain ⟨h1,h2⟩:=List.pairwise_cons.1 h;unfold lQ;split
  ·rename_i g;refine List.pairwise_cons.2 ⟨fun x hx=>?_,h⟩;rcases List.mem_cons.1 hx with rfl | hx
   ·exact g
   ·exact iw g (h1 x hx)
  ·rename_i g;split
   ·exact h
   ·rename_i e;have g2:jU t s:=by
     by_cases k:jU t s
     ·exact k
     ·exact absurd (pQ s t g k) e
    refine List.pairwise_cons.2 ⟨fun x hx=>?_,xq s l h2⟩;rcases (uo s l x).1 hx with rfl | hx
    ·exact g2
    ·exact h1 x hx
theorem xU:∀ (l d:List ByteArray) (x:ByteArray),x∈l.foldl (fun d s=>lQ s d) d↔x∈l∨x∈d
 | [],d,x=>by simp
 | s::l,d,x=>by
  rw [List.foldl_cons,xU l,uo,List.mem_cons];constructor
  ·rintro (h | h | h)
   ·exact .inl (.inr h)
   ·exact .inl (.inl h)
   ·exact .inr h
  ·rintro ((h | h) | h)
   ·exact .inr (.inl h)
   ·exact .inl h
   ·exact .inr (.inr h)
theorem rk (l:List ByteArray) (x:ByteArray):x∈cj l↔x∈l:=by unfold cj; rw [xU]; simp
theorem tH:∀ (l d:List ByteArray),d.Pairwise jU→(l.foldl (fun d s=>lQ s d) d).Pairwise jU
 | [],d,h=>h
 | s::l,d,h=>tH l _ (xq s d h)
theorem vx (l:List ByteArray):(cj l).Pairwise jU:=tH l [] List.Pairwise.nil
theorem Ck:∀ (l:List ByteArray) (w w':dX) (n:Nat),(∀ s,s∈l→s.size≤2^20)→AT w→dI w n l=.ok w'→AT w'
 | [],w,w',n,_,W,h=>by
  simp only [dI] at h;injection h with h
  subst h;exact W
 | s::l,w,w',n,hs,W,h=>by
  simp only [dI] at h;split at h
  ·cases h
  ·rename_i w1 h1;exact Ck l w1 w' (n+1) (fun x hx=>hs x (by simp [hx])) (Ad (hs s (by simp)) W h1) h
theorem sJ:∀ (f:Nat) (s:List UInt8) (N:Nat),s.length≤N→∀ l,l∈aR f s→l.length≤N
 | 0,s,N,_,l,h=>by simp [aR] at h
 | f+1,[],N,_,l,h=>by simp [aR] at h
 | f+1,c::s,N,hN,l,h=>by
  simp only [aR] at h;rcases List.mem_cons.1 h with rfl | h
  ·exact Nat.le_trans (List.IsPrefix.length_le (List.takeWhile_prefix _)) hN
  ·refine sJ f _ N ?_ l h;have h1:((c::s).dropWhile (fun x=>decide (x≠10))).length≤(c::s).length:=by
    have:=List.IsSuffix.length_le (List.dropWhile_suffix (l:=c::s) (fun x=>decide (x≠10)))
    exact this
   rw [List.length_drop];omega
theorem jw (src:ByteArray):∀ s,s∈cY src→s.size≤src.size:=by
 intro s hs;unfold cY at hs;obtain ⟨l,hl,rfl⟩:=List.mem_map.1 hs
 have:=sJ _ _ src.size (by simp) l hl
 show l.toArray.size≤_;simpa using this
def nl:UInt8→Bool:=fun c=>decide (c≠10)
theorem Gk (p d:List UInt8) (h:d≠[]):(p++d).getLast?=d.getLast?:=by
 rw [List.getLast?_append];cases hd:d.getLast? with
 | none=>exact absurd (List.getLast?_eq_none_iff.1 hd) h
 | some x=>rfl
theorem F5:∀ (l:List UInt8) (x:UInt8),x∈l.takeWhile nl→nl x=true
 | [],x,h=>by simp at h
 | c::l,x,h=>by
  rw [List.takeWhile_cons] at h;split at h
  ·rename_i g;rcases List.mem_cons.1 h with rfl | h
   ·exact g
   ·exact F5 l x h
  ·simp at h
theorem pg:∀ (l:List UInt8),(∀ x,x∈l→nl x=true)→l.takeWhile nl=l∧l.dropWhile nl=[]
 | [],_=>⟨rfl,rfl⟩
 | c::l,h=>by
  have:=pg l (fun x hx=>h x (by simp [hx]))
  rw [List.takeWhile_cons,List.dropWhile_cons,if_pos (h c (by simp)),if_pos (h c (by simp)),this.1];exact ⟨rfl,this.2⟩
theorem cL (f:Nat) (c:UInt8) (s:List UInt8):aR (f+1) (c::s)=((c::s).takeWhile nl)::aR f (((c::s).dropWhile nl).drop 1):=rfl
theorem tC (s:List UInt8):((s.dropWhile nl).drop 1).length≤s.length-1:=by
 have:=List.IsSuffix.length_le (List.dropWhile_suffix (l:=s) nl)
 rw [List.length_drop];omega
theorem fp:∀ (f g:Nat) (s:List UInt8),s.length<f→s.length<g→aR f s=aR g s
 | 0,g,s,h,_=>by omega
 | f+1,0,s,_,h=>by omega
 | f+1,g+1,[],_,_=>rfl
 | f+1,g+1,c::s,h1,h2=>by
  rw [cL,cL]
  have:=tC (c::s)
  simp only [List.length_cons] at *;rw [fp f g _ (by omega) (by omega)]
def BP (s:List UInt8):List (List UInt8):=if s=[]∨s.getLast?=some 10 then [[]] else []
theorem uJ:∀ (f:Nat) (s t:List UInt8),s.length+t.length+1<f→aR f (s++10::t)=aR f s++(BP s++aR f t)
 | 0,s,t,h=>by omega
 | f+1,[],t,h=>by
  simp only [List.length_nil] at h;rw [List.nil_append,cL];have e1:(10::t).takeWhile nl=[]:=by simp [nl]
  have e2:((10::t).dropWhile nl).drop 1=t:=by simp [nl]
  rw [e1,e2,fp f (f+1) t (by omega) (by omega)] <;> rfl
 | f+1,c::s,t,h=>by
  have hd:=tC (c::s)
  by_cases g:(10:UInt8)∈c::s
  ·have hlt:((c::s).takeWhile nl).length≠(c::s).length:=by
    intro e;have e2:(c::s).takeWhile nl=c::s:=List.IsPrefix.eq_of_length (List.takeWhile_prefix _) e
    have:=F5 (c::s) 10 (by rw [e2]; exact g)
    simp [nl] at this
   have et:((c::s)++10::t).takeWhile nl=(c::s).takeWhile nl:=by
    rw [List.takeWhile_append,if_neg hlt]
   have hne:(c::s).dropWhile nl≠[]:=by
    intro e
    have:=List.takeWhile_append_dropWhile (p:=nl) (l:=c::s)
    rw [e,List.append_nil] at this;rw [this] at hlt;exact hlt rfl
   have ed:((c::s)++10::t).dropWhile nl=(c::s).dropWhile nl++10::t:=by
    rw [List.dropWhile_append];cases hq:(c::s).dropWhile nl with
    | nil=>exact absurd hq hne
    | cons a l=>rfl
   have hlast:(c::s).getLast?=((c::s).dropWhile nl).getLast?:=by
    conv=>lhs; rw [← List.takeWhile_append_dropWhile (p:=nl) (l:=c::s)]
    exact Gk _ _ hne
   have hhead:∃ l,(c::s).dropWhile nl=10::l:=by
    cases hq:(c::s).dropWhile nl with
    | nil=>exact absurd hq hne
    | cons a l =>
     have:=List.head_dropWhile_not (p:=nl) (l:=c::s) (by rw [hq]; simp)
     simp only [hq,List.head_cons,nl] at this;simp at this;exact ⟨l,by rw [this]⟩
   obtain ⟨l,hl⟩:=hhead;rw [show (c::s)++10::t=c::(s++10::t) from rfl] at et ed ⊢;rw [cL,et,ed,cL,hl];rw [hl] at hd hlast;simp only [List.cons_append,List.drop_succ_cons,List.drop_zero,List.length_cons] at *;rw [uJ f l t (by omega),fp f (f+1) t (by omega) (by omega)];have hg:BP (c::s)=BP l:=by
    unfold BP;rw [hlast];cases l with
    | nil=>simp
    | cons a l=>simp
   rw [hg]
  ·have hall:∀ x,x∈c::s→nl x=true:=fun x hx=>by
    unfold nl;exact decide_eq_true fun e=>g (e▸hx)
   have et0:(c::s).takeWhile nl=c::s:=(pg _ hall).1;have ed0:(c::s).dropWhile nl=[]:=(pg _ hall).2;have et:((c::s)++10::t).takeWhile nl=c::s:=by
    rw [List.takeWhile_append,et0,if_pos rfl];simp [nl]
   have ed:((c::s)++10::t).dropWhile nl=10::t:=by
    rw [List.dropWhile_append,ed0];simp [nl]
   rw [show (c::s)++10::t=c::(s++10::t) from rfl] at et ed ⊢;rw [cL,et,ed,cL,et0,ed0];simp only [List.drop_succ_cons,List.drop_zero,List.length_cons] at *;rw [fp f (f+1) t (by omega) (by omega)];have hg:BP (c::s)=[]:=by
    unfold BP;rw [if_neg];rintro (h | h)
    ·cases h
    ·exact g (List.mem_of_getLast? h)
   rw [hg];cases f with
   | zero=>omega
   | succ f=>rfl
theorem vH:∀ (a b:List ByteArray) (w:dX) (n:Nat),dI w n (a++b)=match dI w n a with
  | .error e=>.error e
  | .ok w'=>dI w' (n+a.length) b
 | [],b,w,n=>by simp [dI]
 | s::a,b,w,n=>by
  simp only [List.cons_append,dI];cases dH w n s with
  | error e=>rfl
  | ok w1 =>
   simp only;rw [vH a b w1 (n+1),List.length_cons,show n+1+a.length=n+(a.length+1) by omega]
theorem xG:∀ (l:List ByteArray) (w w':dX) (n:Nat),dI w n l=.ok w'→w.text <+: w'.text∧w.data <+: w'.data
 | [],w,w',n,h=>by
  simp only [dI] at h;injection h with h
  subst h;exact ⟨List.prefix_rfl,List.prefix_rfl⟩
 | s::l,w,w',n,h=>by
  simp only [dI] at h;split at h
  ·cases h
  ·rename_i w1 h1;have ih:=xG l w1 w' (n+1) h
   have:w.text <+: w1.text∧w.data <+: w1.data:=by
    unfold dH at h1;split at h1
    ·cases h1
    split at h1
    ·cases h1
    split at h1
    ·cases h1
    split at h1
    ·cases h1
    split at h1
    ·cases h1
    injection h1 with h1
    subst h1;unfold ik;simp only;split
    ·exact ⟨List.prefix_append _ _,List.prefix_rfl⟩
    ·exact ⟨List.prefix_rfl,List.prefix_append _ _⟩
   exact ⟨this.1.trans ih.1,this.2.trans ih.2⟩
theorem fg:∀ (f:Nat) (s:List UInt8),(aR f s).length≤s.length
 | 0,s=>by simp [aR]
 | f+1,[]=>by simp [aR]
 | f+1,c::s=>by
  rw [cL];have h1:=tC (c::s)
  have:=fg f (((c::s).dropWhile nl).drop 1)
  simp only [List.length_cons] at *;omega
theorem B6 (s:ByteArray):(cY s).length≤s.size:=by
 unfold cY;rw [List.length_map]
 have:=fg (s.size+1) s.data.toList
 simpa using this
theorem uU (h:more.data.toList=src.data.toList++10::tail.data.toList):∃ gap,cY more=cY src++gap:=by
 have hs:∀ a:ByteArray,a.data.toList.length=a.size:=fun a=>by simp
 have hl:more.size=src.size+1+tail.size:=by
  rw [← hs,h,List.length_append,List.length_cons,hs,hs]; omega
 refine ⟨(BP src.data.toList++aR (more.size+2) tail.data.toList).map fun l=>⟨l.toArray⟩,?_⟩;unfold cY;rw [fp (more.size+1) (more.size+2) more.data.toList (by rw [hs]; omega) (by rw [hs]; omega),h,uJ _ _ _ (by rw [hs,hs]; omega),List.map_append,fp (more.size+2) (src.size+1) src.data.toList (by rw [hs]; omega) (by rw [hs]; omega)]
theorem xa (hs:src.size≤4096):cQ src=match dI fe 1 (cY src) with
  | .error e=>.error e
  | .ok w=>match FV w with
   | some g=>.error (g.2,23)
   | none=>.ok ⟨w.text,w.data,w.aZ,cj (w.aF.map (·.1))⟩:=by
 have:=B6 src
 unfold cQ;rw [if_neg (by omega),if_neg (by omega)] <;> rfl
theorem yv (h:more.data.toList=src.data.toList++10::tail.data.toList) (hm:more.size≤4096) {n e:Nat} (ha:cQ src=.error (n,e)) (he:e≠23):cQ more=.error (n,e):=by
 have hs:∀ a:ByteArray,a.data.toList.length=a.size:=fun a=>by simp
 have hl:more.size=src.size+1+tail.size:=by
  rw [← hs,h,List.length_append,List.length_cons,hs,hs]; omega
 obtain ⟨gap,hg⟩:=uU h;rw [xa (by omega)] at ha ⊢;rw [hg,vH];cases hr:dI fe 1 (cY src) with
 | error q =>
  rw [hr] at ha;exact ha
 | ok w =>
  rw [hr] at ha;simp only at ha;split at ha
  ·injection ha with ha
   injection ha with _ ha
   exact absurd ha.symm he
  ·cases ha
theorem Dx (h:more.data.toList=src.data.toList++10::tail.data.toList) (hm:more.size≤4096) {u v:jv} (ha:cQ src=.ok u) (hb:cQ more=.ok v):u.text <+: v.text∧u.data <+: v.data:=by
 have hs:∀ a:ByteArray,a.data.toList.length=a.size:=fun a=>by simp
 have hl:more.size=src.size+1+tail.size:=by
  rw [← hs,h,List.length_append,List.length_cons,hs,hs]; omega
 obtain ⟨gap,hg⟩:=uU h;rw [xa (by omega)] at ha hb;rw [hg,vH] at hb;cases hr:dI fe 1 (cY src) with
 | error q =>
  rw [hr] at ha;cases ha
 | ok w =>
  rw [hr] at ha hb;simp only at ha hb;split at ha
  ·cases ha
  injection ha with ha
  subst ha;split at hb
  ·cases hb
  rename_i w2 hw2;split at hb
  ·cases hb
  injection hb with hb
  subst hb;exact xG _ _ _ _ hw2
def er (t:Tok):Tok:={ t with at_:=0 }
def eR:cD→cD
 | .error e=>.error e
 | .ok (x,r)=>.ok (x,r.map er)
def lm (f:List Tok→cD):Prop:=∀ ts,f (ts.map er)=eR (f ts)
theorem o0 (t:Tok) (c:UInt8):fh (er t) c=fh t c:=rfl
theorem Bp {o:Option (List Tok→cD)} (ho:∀ f,o=some f→lm f):lm (pD o):=by
 intro ts;cases ts with
 | nil=>rfl
 | cons t r =>
  simp only [List.map_cons,pD];rw [show (er t).kind=t.kind from rfl,show (er t).text=t.text from rfl,show (er t).num=t.num from rfl,o0]
  by_cases h1:t.kind=1
  ·rw [if_pos h1,if_pos h1]
   by_cases h2:(iv t.text.data.toList).2.2=true
   ·rw [if_pos h2,if_pos h2]; rfl
   ·rw [if_neg h2,if_neg h2]; rfl
  rw [if_neg h1,if_neg h1]
  by_cases h2:t.kind=2
  ·rw [if_pos h2,if_pos h2]; rfl
  rw [if_neg h2,if_neg h2]
  by_cases h3:fh t 40=true
  ·rw [if_pos h3,if_pos h3];cases o with
   | none=>rfl
   | some f =>
    simp only;rw [ho f rfl r];cases f r with
    | error e=>rfl
    | ok q =>
     obtain ⟨x,r'⟩:=q;cases r' with
     | nil=>rfl
     | cons t' r'' =>
      simp only [eR,List.map_cons];rw [o0]
      by_cases h4:fh t' 41=true
      ·rw [if_pos h4,if_pos h4]
      ·rw [if_neg h4,if_neg h4]
  ·rw [if_neg h3,if_neg h3]; rfl
theorem uD {o:Option (List Tok→cD)} (ho:∀ f,o=some f→lm f) (b:Bool):lm (wk o b):=by
 intro ts;unfold wk;rw [Bp ho ts];cases pD o ts with
 | error e=>rfl
 | ok q=>rfl
theorem oU {o:Option (List Tok→cD)} (ho:∀ f,o=some f→lm f):∀ (ts:List Tok) (b:Bool),uu o b (ts.map er)=eR (uu o b ts)
 | [],b=>uD ho b []
 | t::r,b=>by
  simp only [List.map_cons,uu];rw [o0];split
  ·exact oU ho r _
  ·exact uD ho b (t::r)
theorem lX {fac:List Tok→cD} (hf:lm fac):∀ (n:Nat) (x:eJ) (r:List Tok),gH fac n x (r.map er)=eR (gH fac n x r)
 | 0,x,r=>rfl
 | n+1,x,[]=>rfl
 | n+1,x,t::r=>by
  simp only [List.map_cons,gH];rw [o0];split
  ·rw [hf r];cases fac r with
   | error e=>rfl
   | ok q =>
    obtain ⟨y,r''⟩:=q;simp only [eR];split
    ·rfl
    split
    ·exact lX hf n _ _
    ·exact lX hf n _ _
  ·rfl
theorem sq {fac:List Tok→cD} (hf:lm fac):lm (na fac):=by
 intro ts;unfold na;rw [hf ts];cases fac ts with
 | error e=>rfl
 | ok q =>
  obtain ⟨x,r⟩:=q;simp only [eR,List.length_map];exact lX hf _ _ _
theorem pJ {part:List Tok→cD} (hf:lm part):∀ (n:Nat) (x:eJ) (r:List Tok),jJ part n x (r.map er)=eR (jJ part n x r)
 | 0,x,r=>rfl
 | n+1,x,[]=>rfl
 | n+1,x,t::r=>by
  simp only [List.map_cons,jJ];rw [o0,o0];split
  ·rw [hf r];cases part r with
   | error e=>rfl
   | ok q =>
    obtain ⟨y,r''⟩:=q;exact pJ hf n _ _
  split
  ·rw [hf r];cases part r with
   | error e=>rfl
   | ok q =>
    obtain ⟨y,r''⟩:=q;exact pJ hf n _ _
  ·rfl
theorem tM {part:List Tok→cD} (hf:lm part):lm (j' part):=by
 intro ts;unfold j';rw [hf ts];cases part ts with
 | error e=>rfl
 | ok q =>
  obtain ⟨x,r⟩:=q;simp only [eR,List.length_map];exact pJ hf _ _ _
theorem uq:∀ k,lm (ml k)
 | 0=>tM (sq fun ts=>oU (o:=none) (fun f h=>by cases h) ts false)
 | k+1=>tM (sq fun ts=>oU (o:=some (ml k)) (fun f h=>by cases h; exact uq k) ts false)
theorem j4 (ts:List Tok):bP (ts.map er)=bP ts:=by
 unfold bP;rw [uq 32 ts];cases ml 32 ts with
 | error e=>rfl
 | ok q =>
  obtain ⟨x,r⟩:=q;simp only [eR,List.map_eq_nil_iff]
theorem HH (z:Bool) (ts:List Tok):mM z (ts.map er)=mM z ts:=by
 match ts with
 | []=>rfl
 | [t]=>rfl
 | t::u::r=>rfl
theorem H0 (ts:List Tok):mZ (ts.map er)=mZ ts:=by
 match ts with
 | []=>rfl
 | [t]=>rfl
 | t::u::r=>rfl
theorem yg (lo hi:Int) (ts:List Tok):gT lo hi (ts.map er)=gT lo hi ts:=by unfold gT; rw [j4]
theorem G7 (p:Bool) (ts:List Tok):qf p (ts.map er)=qf p ts:=by
 cases p with
 | false=>exact j4 ts
 | true =>
  cases ts with
  | nil=>rfl
  | cons t r =>
   simp only [List.map_cons,qf];rw [o0,j4]
theorem Hw (x:bw) (r:CD) (ts:List Tok):dE x r (ts.map er)=dE x r ts:=by
 cases r with
 | tA z s t=>simp only [dE,HH]
 | HV lo hi=>simp only [dE,yg]
 | val p=>simp only [dE,G7]
theorem zu:∀ (rs:List CD) (args:List (List Tok)) (x:bw),dO x rs (args.map (·.map er))=dO x rs args
 | [],args,x=>by cases args <;> rfl
 | r::rs,[],x=>rfl
 | r::rs,a::args,x=>by
  simp only [List.map_cons,dO,Hw];cases dE x r a with
  | error e=>rfl
  | ok y=>exact zu rs args y
theorem Gp (op:Int) (args:List (List Tok)):ey op (args.map (·.map er))=ey op args:=by unfold ey; rw [List.length_map,zu]
theorem F0 (k:Nat) (ts:List Tok):iN k (ts.map er)=iN k ts:=by unfold iN; rw [yg,j4]
theorem xk (k:Nat):∀ args:List (List Tok),cC k (args.map (·.map er))=cC k args
 | []=>rfl
 | a::args=>by simp only [List.map_cons,cC,F0,xk k args]
theorem JY (args:List (List Tok)) (i:Nat):ag (args.map (·.map er)) i=(ag args i).map er:=by
 unfold ag;rw [List.getD_eq_getElem?_getD,List.getD_eq_getElem?_getD,List.getElem?_map]
 all_goals (cases args[i]? <;> rfl)
theorem HT (op:ByteArray) (args:List (List Tok)):fO op (args.map (·.map er))=fO op args:=by
 unfold fO;simp only [List.length_map,JY,yg,H0,j4,xk,List.map_eq_nil_iff];generalize ag args 0=a
 match a with
 | []=>rfl
 | [t]=>rfl
 | t::u::r=>rfl
theorem Am (dC op:ByteArray) (args:List (List Tok)) (d:Bool):dy ⟨dC,op,args.map (·.map er)⟩ d=dy ⟨dC,op,args⟩ d:=by
 unfold dy;simp only [Gp,HT]
end Go.Sx.Ob
set_option linter.unusedVariables false
set_option linter.unusedSimpArgs false
set_option maxRecDepth 100000
namespace Go.Sx
open Go.Proofs
inductive Wr (s:ByteArray):Nat→Nat→Prop where
 | here (k:Nat):k≤s.size→nq (s.data.toList.drop (k+aQ (s.data.toList.drop k) aK))=.ct→Wr s k (k+aQ (s.data.toList.drop k) aK)
 | tok (k kind n m a:Nat):k≤s.size→nq (s.data.toList.drop (k+aQ (s.data.toList.drop k) aK))=.tok kind n m→Wr s (k+aQ (s.data.toList.drop k) aK+n) a→Wr s k a
theorem Cy {s:ByteArray} {k a:Nat} (h:Wr s k a):∀ (f:Nat) (acc:List Tok),s.size-k<f→jk s f k acc=([],a,20):=by
 have hsz:s.data.toList.length=s.size:=by simp
 induction h with
 | here k hk hD =>
  intro f acc hf;obtain ⟨f,rfl⟩:∃ f',f=f'+1:=⟨f-1,by omega⟩
  have hst:=fy hk;rw [hD] at hst;exact oR hst
 | tok k kind n m a hk hD hc ih =>
  intro f acc hf;obtain ⟨f,rfl⟩:∃ f',f=f'+1:=⟨f-1,by omega⟩
  have hst:=fy hk;rw [hD] at hst;obtain ⟨h1,h2⟩:=mV hD;have ha:=mv hk;rw [List.length_drop] at h2;rw [mJ hst,ih f _ (by omega)]
theorem Cd {s:ByteArray}:∀ (f k:Nat) (acc:List Tok),k≤s.size→s.size-k<f→(∃ ts,gY s k ts)∨∃ a,Wr s k a
 | 0,k,acc,hk,hf=>by omega
 | f+1,k,acc,hk,hf=>by
  have ha:=mv hk;have hsz:s.data.toList.length=s.size:=by simp
  cases hD:nq (s.data.toList.drop (k+aQ (s.data.toList.drop k) aK)) with
  | stop=>exact .inl ⟨_,.stop k hk hD⟩
  | ct=>exact .inr ⟨_,.here k hk hD⟩
  | tok kind n m =>
   obtain ⟨h1,h2⟩:=mV hD;rw [List.length_drop] at h2;rcases Cd (s:=s) f (k+aQ (s.data.toList.drop k) aK+n) [] (by omega) (by omega) with ⟨ts,hc⟩ | ⟨a,hw⟩
   ·exact .inl ⟨_,.tok k kind n m ts hk hD hc⟩
   ·exact .inr ⟨a,.tok k kind n m a hk hD hw⟩
theorem Ip (s:ByteArray):(∃ ts,gY s 0 ts∧ef s=(ts,0,0))∨∃ a,Wr s 0 a∧ef s=([],a,20):=by
 rcases Cd (s:=s) (s.size+1) 0 [] (by omega) (by omega) with ⟨ts,hc⟩ | ⟨a,hw⟩
 ·exact .inl ⟨ts,hc,vo hc⟩
 ·exact .inr ⟨a,hw,Cy hw _ _ (by omega)⟩
def sh (n:Nat) (t:Tok):Tok:=⟨t.kind,t.text,t.num,t.at_+n⟩
theorem vO {s s':ByteArray} {P:List UInt8} (hs':s'.data.toList=P++s.data.toList) (k:Nat):s'.data.toList.drop (k+P.length)=s.data.toList.drop k:=by
 rw [hs',Nat.add_comm,← List.drop_drop,List.drop_left]
theorem An {s s':ByteArray} {P:List UInt8} (hs':s'.data.toList=P++s.data.toList) {k:Nat} {ts:List Tok} (h:gY s k ts):gY s' (k+P.length) (ts.map (sh P.length)):=by
 have hd:=vO hs';have hsz':s'.size=s.size+P.length:=by
  have:=congrArg List.length hs'
  simp at this; omega
 induction h with
 | stop k hk hD =>
  refine .stop _ (by omega) ?_;rw [hd,show k+P.length+aQ (s.data.toList.drop k) aK=k+aQ (s.data.toList.drop k) aK+P.length by omega,hd];exact hD
 | tok k kind n m ts hk hD hc ih =>
  have e1:k+P.length+aQ (s'.data.toList.drop (k+P.length)) aK=k+aQ (s.data.toList.drop k) aK+P.length:=by rw [hd]; omega
  have:=gY.tok (s:=s') (k+P.length) kind n m (ts.map (sh P.length)) (by omega) (by rw [e1,hd]; exact hD) (by rw [e1,show k+aQ (s.data.toList.drop k) aK+P.length+n=k+aQ (s.data.toList.drop k) aK+n+P.length by omega]; exact ih)
  rw [e1] at this;have e2:s'.extract (k+aQ (s.data.toList.drop k) aK+P.length) (k+aQ (s.data.toList.drop k) aK+P.length+n)=s.extract (k+aQ (s.data.toList.drop k) aK) (k+aQ (s.data.toList.drop k) aK+n):=by
   refine kB ?_;rw [gG,gG,hd]
   congr 1
   omega
  rw [e2] at this;exact this
theorem Fo {s s':ByteArray} {P:List UInt8} (hs':s'.data.toList=P++s.data.toList) {k a:Nat} (h:Wr s k a):Wr s' (k+P.length) (a+P.length):=by
 have hd:=vO hs';have hsz':s'.size=s.size+P.length:=by
  have:=congrArg List.length hs'
  simp at this; omega
 induction h with
 | here k hk hD =>
  have e1:k+P.length+aQ (s'.data.toList.drop (k+P.length)) aK=k+aQ (s.data.toList.drop k) aK+P.length:=by rw [hd]; omega
  have:=Wr.here (s:=s') (k+P.length) (by omega) (by rw [e1,hd]; exact hD)
  rw [e1] at this;exact this
 | tok k kind n m a hk hD hc ih =>
  have e1:k+P.length+aQ (s'.data.toList.drop (k+P.length)) aK=k+aQ (s.data.toList.drop k) aK+P.length:=by rw [hd]; omega
  exact Wr.tok (k+P.length) kind n m _ (by omega) (by rw [e1,hd]; exact hD) (by rw [e1,show k+aQ (s.data.toList.drop k) aK+P.length+n=k+aQ (s.data.toList.drop k) aK+n+P.length by omega]; exact ih)
theorem ym {s:ByteArray} {k:Nat} {ts:List Tok} (hk:k≤s.size) (hb:aQ s.data.toList aK=k+aQ (s.data.toList.drop k) aK) (h:gY s k ts):gY s 0 ts:=by
 have e:0+aQ (s.data.toList.drop 0) aK=k+aQ (s.data.toList.drop k) aK:=by rw [List.drop_zero,hb,Nat.zero_add]
 cases h with
 | stop _ _ hD=>exact .stop 0 (by omega) (by rw [e]; exact hD)
 | tok _ kind n m ts _ hD hc =>
  have:=gY.tok (s:=s) 0 kind n m ts (by omega) (by rw [e]; exact hD) (by rw [e]; exact hc)
  rw [e] at this;exact this
theorem DO {s:ByteArray} {k a:Nat} (hk:k≤s.size) (hb:aQ s.data.toList aK=k+aQ (s.data.toList.drop k) aK) (h:Wr s k a):Wr s 0 a:=by
 have e:0+aQ (s.data.toList.drop 0) aK=k+aQ (s.data.toList.drop k) aK:=by rw [List.drop_zero,hb,Nat.zero_add]
 cases h with
 | here _ _ hD =>
  have:=Wr.here (s:=s) 0 (by omega) (by rw [e]; exact hD)
  rw [e] at this;exact this
 | tok _ kind n m _ _ hD hc=>exact Wr.tok (s:=s) 0 kind n m a (by omega) (by rw [e]; exact hD) (by rw [e]; exact hc)
theorem vD (d n n':Nat):∀ (ts:List Tok) (done:List (List Tok)) (bS:List Tok),
  (∃ r,dN n ts done bS=.ok r∧dN n' (ts.map (sh d)) (done.map (List.map (sh d))) (bS.map (sh d))=.ok (r.map (List.map (sh d)))) ∨
  ∃ a a',dN n ts done bS=.error a∧dN n' (ts.map (sh d)) (done.map (List.map (sh d))) (bS.map (sh d))=.error a'∧(a'=a+d∨(a=n∧a'=n'))
 | [],done,bS=>by
  simp only [List.map_nil,dN,List.map_eq_nil_iff]
  by_cases h:bS=[]
  ·rw [if_pos h,if_pos h];exact .inr ⟨_,_,rfl,rfl,.inr ⟨rfl,rfl⟩⟩
  ·rw [if_neg h,if_neg h];exact .inl ⟨_,rfl,by simp⟩
 | t::ts,done,bS=>by
  have hdec:decide (bS.map (sh d)=[])=decide (bS=[]):=by simp
  simp only [List.map_cons,dN]
  by_cases h1:(fh t 58 || (fh t 44 && decide (bS=[])))=true
  ·rw [if_pos h1,if_pos (show (fh (sh d t) 58 || (fh (sh d t) 44 && decide (bS.map (sh d)=[])))=true by rw [hdec]; exact h1)];exact .inr ⟨_,_,rfl,rfl,.inl rfl⟩
  ·rw [if_neg h1,if_neg (show ¬ (fh (sh d t) 58 || (fh (sh d t) 44 && decide (bS.map (sh d)=[])))=true by rw [hdec]; exact h1)]
   by_cases h2:fh t 44=true
   ·rw [if_pos h2,if_pos (show fh (sh d t) 44=true from h2)]
    have:=vD d n n' ts (done++[bS]) []
    simpa using this
   ·rw [if_neg h2,if_neg (show ¬ fh (sh d t) 44=true from h2)]
    have:=vD d n n' ts done (bS++[t])
    simpa using this
def yh (d n n':Nat) (r r':Ln × Nat × Nat):Prop :=
 (r.2.2=0∧r'.2.2=0∧r'.1.label=r.1.label∧r'.1.op=r.1.op∧r'.1.args=r.1.args.map (List.map (sh d)))∨(r.2.2=20∧r'.2.2=20∧(r'.2.1=r.2.1+d∨(r.2.1=n∧r'.2.1=n')))
theorem wS (d n n':Nat) (lb:ByteArray) (us:List Tok):yh d n n' (bM n lb us) (bM n' lb (us.map (sh d))):=by
 cases us with
 | nil=>exact .inl ⟨rfl,rfl,rfl,rfl,rfl⟩
 | cons t us =>
  simp only [List.map_cons,bM]
  by_cases h:t.kind≠1
  ·rw [if_pos h,if_pos (show (sh d t).kind≠1 from h)];exact .inr ⟨rfl,rfl,.inl rfl⟩
  ·rw [if_neg h,if_neg (show ¬ (sh d t).kind≠1 from h)];have hA:(∃ r,eO n us=.ok r∧eO n' (us.map (sh d))=.ok (r.map (List.map (sh d))))∨∃ a a',eO n us=.error a∧eO n' (us.map (sh d))=.error a'∧(a'=a+d∨(a=n∧a'=n')):=by
    unfold eO;simp only [List.map_eq_nil_iff]
    by_cases h2:us=[]
    ·rw [if_pos h2,if_pos h2];exact .inl ⟨_,rfl,rfl⟩
    ·rw [if_neg h2,if_neg h2]
     have:=vD d n n' us [] []
     simpa using this
   rcases hA with ⟨r,h1,h2⟩ | ⟨a,a',h1,h2,h3⟩
   ·rw [h1,h2];exact .inl ⟨rfl,rfl,rfl,rfl,rfl⟩
   ·rw [h1,h2];exact .inr ⟨rfl,rfl,h3⟩
theorem CS (d n n':Nat) (ts:List Tok):yh d n n' (eH n ts) (eH n' (ts.map (sh d))):=by
 have hlab:AI (ts.map (sh d))=AI ts:=by
  match ts with
  | []=>rfl
  | [_]=>rfl
  | t::u::r=>rfl
 unfold eH;rw [hlab]
 by_cases h:AI ts=true
 ·rw [if_pos h,if_pos h];have e1:(ts.map (sh d)).drop 2=(ts.drop 2).map (sh d):=by rw [List.map_drop]
  have e2:(((ts.map (sh d)).head?).map (·.text)).getD ⟨#[]⟩=((ts.head?).map (·.text)).getD ⟨#[]⟩:=by
   all_goals (cases ts <;> rfl)
  rw [e1,e2];exact wS d n n' _ _
 ·rw [if_neg h,if_neg h];exact wS d n n' _ _
theorem y9 {P:List UInt8} (hP:aQ P aK=P.length) {s s':ByteArray} (hs':s'.data.toList=P++s.data.toList):yh P.length s.size s'.size (aJ s) (aJ s'):=by
 have hsz':P.length≤s'.size:=by
  have:=congrArg List.length hs'
  simp at this; omega
 have hbl:aQ s'.data.toList aK=P.length+aQ (s'.data.toList.drop P.length) aK:=by
  rw [hs',List.drop_left];exact sY (D:=P) hP
 rcases Ip s with ⟨ts,hc,he⟩ | ⟨a,hw,he⟩
 ·have hc':=ym hsz' hbl (by simpa using An (P:=P) hs' hc);have he':=vo hc';have h1:aJ s=eH s.size ts:=by unfold aJ; rw [he]; rfl
  have h2:aJ s'=eH s'.size (ts.map (sh P.length)):=by unfold aJ; rw [he']; rfl
  rw [h1,h2];exact CS P.length _ _ ts
 ·have hw':=DO hsz' hbl (by simpa using Fo (P:=P) hs' hw);have he':ef s'=([],a+P.length,20):=Cy hw' _ _ (by omega);have h1:aJ s=(gP,a,20):=by unfold aJ; rw [he]; rfl
  have h2:aJ s'=(gP,a+P.length,20):=by unfold aJ; rw [he']; rfl
  rw [h1,h2];exact .inr ⟨rfl,rfl,.inl rfl⟩
end Go.Sx
set_option linter.unusedVariables false
set_option linter.unusedSimpArgs false
set_option maxRecDepth 100000
namespace Go.Sx.Ob
open Go.Proofs
structure CO (w v:dX):Prop where
 text:v.text=w.text
 data:v.data=w.data
 aZ:v.aZ=w.aZ
 names:v.names=w.names
 aF:v.aF.map (·.1)=w.aF.map (·.1)
 sec:v.sec=w.sec
theorem CO.pT (w:dX):CO w w:=⟨rfl,rfl,rfl,rfl,rfl,rfl⟩
theorem CO.trans {a b c:dX} (h:CO a b) (k:CO b c):CO a c:=⟨k.text.trans h.text,k.data.trans h.data,k.aZ.trans h.aZ,k.names.trans h.names,k.aF.trans h.aF,k.sec.trans h.sec⟩
theorem ES {w v:dX} (e:CO w v) (n n':Nat) (dC:ByteArray) (t:jW):CO (ik w n dC t) (ik v n' dC t):=by
 unfold ik;simp only [e.text,e.data,e.aZ,e.names,e.sec];refine ⟨rfl,rfl,rfl,rfl,?_,rfl⟩;simp only;split
 ·rw [List.map_append,List.map_append,e.aF]; rfl
 ·exact e.aF
theorem Db {w v w1:dX} (e:CO w v) {n n' d a b:Nat} {s s':ByteArray} (sp:yh d a b (aJ s) (aJ s')) (h:dH w n s=.ok w1):∃ v1,dH v n' s'=.ok v1∧CO w1 v1:=by
 unfold dH at h;split at h
 ·cases h
 rename_i h0;rcases sp with ⟨p1,p2,p3,p4,p5⟩ | ⟨p1,_,_⟩
 ·have hr:∀ dd,dy (aJ s').1 dd=dy (aJ s).1 dd:=by
   intro dd;generalize (aJ s').1=q at *;generalize (aJ s).1=q0 at *;obtain ⟨l1,o1,a1⟩:=q;obtain ⟨l2,o2,a2⟩:=q0;simp only at p3 p4 p5;subst p3 p4 p5;have h1:=Am l1 o1 (a2.map (List.map (sh d))) dd;have h2:=Am l1 o1 a2 dd;rw [← h1,← h2]
   congr 2
   rw [List.map_map];apply List.map_congr_left;intro x _;show (x.map (sh d)).map er=x.map er;rw [List.map_map] <;> rfl
  unfold dH;rw [if_neg (by omega),p3,hr,e.sec];split at h
  ·cases h
  rename_i hl;rw [if_neg hl];split at h
  ·cases h
  rename_i t ht;split at h
  ·cases h
  rename_i hd;have hd':¬ tk v (aJ s).1.label t:=by
   unfold tk at hd ⊢;rw [e.names];exact hd
  rw [if_neg hd',e.text,e.data];split at h
  ·cases h
  rename_i hm;rw [if_neg hm];injection h with h
  subst h;exact ⟨_,rfl,ES e n n' _ t⟩
 ·omega
theorem Gf:aJ ⟨#[]⟩=(⟨bK,bK,[]⟩,0,0):=by kernel_rfl
theorem Eb (w:dX) (n:Nat) (hm:w.text.length+w.data.length≤8192):∃ w1,dH w n ⟨#[]⟩=.ok w1∧CO w w1:=by
 unfold dH;rw [Gf];have hr:∀ d,dy ⟨bK,bK,[]⟩ d=.ok bE:=fun d=>by unfold dy; rw [if_pos rfl]
 simp only [hr];rw [if_neg (by decide),if_neg (by simp),if_neg (by unfold tk; simp [bE])];have hi:ju bK bE=[]:=by simp [ju,bE]
 rw [hi,if_neg (by simp; omega)];refine ⟨_,rfl,?_⟩;unfold ik;rw [hi];constructor <;> simp [bE]
theorem yx:∀ (f:Nat) (x y:List UInt8),(∀ c,c∈x→nl c=true)→aR (f+1) (x++10::y)=x::aR f y:=by
 intro f x y hx;have h1:(x++10::y).takeWhile nl=x:=by
  rw [List.takeWhile_append,(pg x hx).1,if_pos rfl];simp [nl]
 have h2:(x++10::y).dropWhile nl=10::y:=by
  rw [List.dropWhile_append,(pg x hx).2];simp [nl]
 cases hq:x++10::y with
 | nil=>simp at hq
 | cons a l =>
  rw [cL,← hq,h1,h2] <;> rfl
theorem rX (f:Nat) (x:List UInt8) (hx:∀ c,c∈x→nl c=true) (hn:x≠[]):aR (f+1) x=[x]:=by
 cases x with
 | nil=>exact absurd rfl hn
 | cons a l =>
  rw [cL,(pg _ hx).1,(pg _ hx).2]
  all_goals (cases f <;> rfl)
def x' (b:List UInt8) (s:List UInt8):List UInt8:=s.flatMap fun c=>if c=10 then 32::59::(b++[10,10,9,32]) else [c]
theorem Cp:∀ (s:List UInt8),(∀ c,c∈s→nl c=true)∨∃ l r,s=l++10::r∧∀ c,c∈l→nl c=true
 | []=>.inl (by simp)
 | c::s=>by
  by_cases hc:c=10
  ·exact .inr ⟨[],s,by rw [hc]; rfl,by simp⟩
  ·rcases Cp s with h | ⟨l,r,h1,h2⟩
   ·refine .inl fun x hx=>?_
    rcases List.mem_cons.1 hx with rfl | hx
    ·simp [nl,hc]
    ·exact h x hx
   ·refine .inr ⟨c::l,r,by rw [h1]; rfl,fun x hx=>?_⟩;rcases List.mem_cons.1 hx with rfl | hx
    ·simp [nl,hc]
    ·exact h2 x hx
def ba (l:List UInt8):ByteArray:=⟨l.toArray⟩
def Jj (w:dX) (n:Nat) (f:Nat) (s:List UInt8):Except (Nat × Nat) dX:=dI w n ((aR f s).map ba)
theorem base {b:List UInt8} (w v w':dX) (n n' f g:Nat) (P:List UInt8) (hg:P.length+(x' b []).length<g) (hP:P=[]∨P=[9,32]) (e:CO w v) (W:AT w) (h:Jj w n f []=.ok w'):∃ v',Jj v n' g (P++x' b [])=.ok v'∧CO w' v':=by
 have hl:∀ k,aR k []=[]:=fun k=>by cases k <;> rfl
 unfold Jj at h ⊢;rw [hl] at h;simp only [List.map_nil,dI] at h;injection h with h
 subst h;have hs:x' b []=[]:=rfl;rw [hs,List.append_nil];rcases hP with rfl | rfl
 ·rw [hl];exact ⟨v,rfl,e⟩
 ·obtain ⟨g,rfl⟩:∃ k,g=k+1:=⟨g-1,by omega⟩
  rw [rX g [9,32] (by decide) (by simp)];simp only [List.map_cons,List.map_nil,dI];obtain ⟨v0,hv0,ev0⟩:=Eb v n' (by rw [e.text,e.data]; exact W.many);obtain ⟨v1,hv,ev⟩:=Db (n':=n') (CO.pT v) (y9 (P:=[9,32]) (by decide) (s:=⟨#[]⟩) (s':=ba [9,32]) rfl) hv0;rw [hv];exact ⟨v1,rfl,(e.trans ev0).trans ev⟩
theorem yS:∀ (l:List ByteArray) (w:dX) (n:Nat) (q:Nat × Nat),dI w n l=.error q→n≤q.1∧q.1<n+l.length
 | [],w,n,q,h=>by simp [dI] at h
 | s::l,w,n,q,h=>by
  simp only [dI] at h;split at h
  ·injection h with h
   subst h
   simp
  ·have:=yS l _ (n+1) q h
   rw [List.length_cons];omega
theorem yK {w w':dX} {n:Nat} {s:ByteArray} (h:dH w n s=.ok w'):∀ g,g∈w'.aF→g∈w.aF∨g.2=n:=by
 unfold dH at h;split at h
 ·cases h
 split at h
 ·cases h
 split at h
 ·cases h
 split at h
 ·cases h
 split at h
 ·cases h
 injection h with h
 subst h;intro g hg;unfold ik at hg;simp only at hg;split at hg
 ·rcases List.mem_append.1 hg with hg | hg
  ·exact .inl hg
  ·have:=List.mem_singleton.1 hg
   subst this;exact .inr rfl
 ·exact .inl hg
theorem uT:∀ (l:List ByteArray) (w w':dX) (n:Nat),dI w n l=.ok w'→∀ g,g∈w'.aF→g∈w.aF∨(n≤g.2∧g.2<n+l.length)
 | [],w,w',n,h,g,hg=>by
  simp only [dI] at h;injection h with h
  subst h;exact .inl hg
 | s::l,w,w',n,h,g,hg=>by
  simp only [dI] at h;split at h
  ·cases h
  ·rename_i w1 h1;rw [List.length_cons];rcases uT l w1 w' (n+1) h g hg with k | k
   ·rcases yK h1 g k with k | k
    ·exact .inl k
    ·exact .inr (by omega)
   ·exact .inr (by omega)
/-! The document goes on behind a refused line. -/
theorem K9:Tryz.prog.underlying 24=some (.slice 99):=by kernel_rfl
def Lu:List Value:=[.string ⟨#[]⟩,.slice none 0 0,.int .u32 (0:Int)]
theorem K7:(Tryz.prog.info? 99).map (fun i=>(i.zero,i.size,i.bytes))=some (some (.agg Lu.toArray),3,48):=by kernel_rfl
theorem Kl (s:ByteArray) (p:Option Addr) (l c:Nat) (n:Int):Instr.fill (fun j=>some (j*3,3)) ((Array.range (1*3)).map ((Value.agg Lu.toArray).cells[· % (Value.agg Lu.toArray).cells.size]!)) [(0,.agg #[.string s,.slice p l c,.int .u32 n])]=some #[.string s,.slice p l c,.int .u32 n]:=by kernel_rfl
theorem K3:Tryz.prog.underlying 71=some (.slice 76):=by kernel_rfl
theorem Ld:(Tryz.prog.info? 76).map (fun i=>(i.zero,i.size,i.bytes))=some (some (.agg #[.string ⟨#[]⟩,.int .i64 (0:Int)]),2,24):=by kernel_rfl
theorem JI (s:ByteArray) (n:Int):Instr.fill (fun j=>some (j*2,2)) ((Array.range (1*2)).map ((Value.agg #[.string ⟨#[]⟩,.int .i64 (0:Int)]).cells[· % (Value.agg #[.string ⟨#[]⟩,.int .i64 (0:Int)]).cells.size]!)) [(0,.agg #[.string s,.int .i64 n])]=some #[.string s,.int .i64 n]:=by kernel_rfl
section
variable {P:Program} {h:Hp} {K:Value→Hp→Prop}
theorem wO {t ty e:TypeId} {i:TypeInfo} {z:Value} (ht:P.underlying t=some (.slice e)) (hi:P.info? e=some i) (hz:i.zero=some z) (hzs:z.cells.size=i.size)
  {b b':Nat} {p q:Option Addr} {l c m cc:Nat} {xs ys:List (List Value)} (s:SL h b e i.size p l c xs) (s':SL h b' e i.size q m cc ys) (hp:ys.flatten.all dW=true) (hby:(2*(l+m)+1024)*i.bytes≤2^48) (hl:l+m≤2^48) (hb:b≤h.size)
  (hk:∀ p' c' h',SL h' b e i.size p' (l+m) c' (xs++ys)→Ch (ay p) h h'→(p'=p∨∃ a,p'=some a∧h.size≤a.block)→K (.slice p' (l+m) c') h') :
  aE P (Builtin.append_ #[t,t] ty #[.slice p l c,.slice q m cc]) h K:=by
 cases q with
 | some a =>
  refine kf (ys:=ys) ht hi hz hzs s s'.1 s'.2.1 ?_ hp hby hl hb hk;obtain ⟨g,pre,rest,rfl,hbg,hlc,hbox,hr⟩:=s'.2.2;refine hbox.cells _ ?_;rw [List.drop_left,List.take_left]
 | none =>
  have h1:ys=[]:=s'.2.2.2;have h2:m=0:=by rw [s'.1,h1]; rfl
  subst h1 h2;have hroom:l+0≤c:=by
   cases p with
   | none =>
    have h3:c=0:=s.2.2.1;have h4:xs=[]:=s.2.2.2;have h5:l=0:=by rw [s.1,h4]; rfl
    omega
   | some a =>
    obtain ⟨g,pre,rest,rfl,hbg,hlc,hbox,hr⟩:=s.2.2;omega
  simp only [Nat.add_zero] at hroom;have hk:=hk p c h (by rw [List.append_nil]; exact s) (Ch.refl _ _) (.inl rfl);cases p with
  | none =>
   have h3:c=0:=s.2.2.1;have h4:xs=[]:=s.2.2.2;have h5:l=0:=by rw [s.1,h4]; rfl
   subst h3 h5;simp [Builtin.append_,aj,az ht,bj hi,cI hi,Builtin.lenOf,Builtin.firstCells];exact hk
  | some a =>
   simp [Builtin.append_,aj,az ht,bj hi,cI hi,Builtin.lenOf,Builtin.firstCells,hroom];exact hk
end
theorem vh {α:Type} (f:α→List Value) (hf:∀ x,(f x).all dW=true) (l:List α):(l.map f).flatten.all dW=true:=by
 rw [List.all_flatten,List.all_map];exact List.all_eq_true.2 fun x _=>hf x
theorem vG (u:bI × bw):(wC u).all dW=true:=rfl
def LN (u:bI × nh):List Value:=Fl u.1.p u.1.l u.1.c u.2
def LM (g:ByteArray × Nat):List Value:=[.string g.1,.int .i64 (g.2:Int)]
structure Core (h:Hp) (b:Nat) (tx dx:List bw) (ex:List nh) (t d e:bI) (ut ud:List (bI × bw)) (ue:List (bI × nh)) (ow:Nat→Nat):Prop where
 t1:SL h b 96 10 t.p t.l t.c (ut.map wC)
 t2:∀ u,u∈ut→SL h b 109 2 u.1.p u.1.l u.1.c (u.2.e.aw.map cJ)
 t3:ut.map (·.2)=tx
 d1:SL h b 96 10 d.p d.l d.c (ud.map wC)
 d2:∀ u,u∈ud→SL h b 109 2 u.1.p u.1.l u.1.c (u.2.e.aw.map cJ)
 d3:ud.map (·.2)=dx
 e1:SL h b 99 3 e.p e.l e.c (ue.map LN)
 e2:∀ u,u∈ue→SL h b 109 2 u.1.p u.1.l u.1.c (u.2.2.aw.map cJ)
 e3:ue.map (·.2)=ex
 o3:∀ i,i∈ay t.p→ow i=3
 o4:∀ i,i∈ay d.p→ow i=4
 o5:∀ i,i∈ay e.p→ow i=5
 ot:∀ u,u∈ut→∀ i,i∈ay u.1.p→ow i=0
 od:∀ u,u∈ud→∀ i,i∈ay u.1.p→ow i=0
 oe:∀ u,u∈ue→∀ i,i∈ay u.1.p→ow i=0
section
variable {h h':Hp} {b:Nat} {tx dx:List bw} {ex:List nh} {t d e:bI} {ut ud:List (bI × bw)} {ue:List (bI × nh)} {ow:Nat→Nat}
theorem Core.nil (h:Hp) (b:Nat) (ow:Nat→Nat):Core h b [] [] [] fL fL fL [] [] [] ow :=
 ⟨SL.nil _ _ _ _,by simp,rfl,SL.nil _ _ _ _,by simp,rfl,SL.nil _ _ _ _,by simp,rfl,by simp [fL,ay],by simp [fL,ay],by simp [fL,ay],by simp,by simp,by simp⟩
theorem SL.cm {ws:List Nat} {e':TypeId} {sz:Nat} {p:Option Addr} {l c:Nat} {xs:List (List Value)} (s:SL h b e' sz p l c xs) (k:Ch ws h h') {k0:Nat} (ho:∀ i,i∈ay p→ow i=k0) (hw:∀ i,i∈ws→i<h.size→b≤i→ow i≠k0):SL h' b e' sz p l c xs :=
 Sx.SL.aS s k fun i hi hm=>by
  have h1:=Sx.SL.bN s hi;exact hw i hm h1.2 h1.1 (ho i hi)
theorem Core.ah {ws:List Nat} (C:Core h b tx dx ex t d e ut ud ue ow) (k:Ch ws h h') (hw:∀ i,i∈ws→i<h.size→b≤i→6≤ow i):Core h' b tx dx ex t d e ut ud ue ow:=by
 have n:∀ k0,k0<6→∀ i,i∈ws→i<h.size→b≤i→ow i≠k0:=fun k0 hk i h1 h2 h3=>by have:=hw i h1 h2 h3; omega
 exact ⟨SL.cm C.t1 k C.o3 (n 3 (by omega)),fun u hu=>SL.cm (C.t2 u hu) k (C.ot u hu) (n 0 (by omega)),C.t3,
  SL.cm C.d1 k C.o4 (n 4 (by omega)),fun u hu=>SL.cm (C.d2 u hu) k (C.od u hu) (n 0 (by omega)),C.d3,
  SL.cm C.e1 k C.o5 (n 5 (by omega)),fun u hu=>SL.cm (C.e2 u hu) k (C.oe u hu) (n 0 (by omega)),C.e3,C.o3,C.o4,C.o5,C.ot,C.od,C.oe⟩
theorem Core.relabel (C:Core h b tx dx ex t d e ut ud ue ow) {ow':Nat→Nat} (ho:∀ i,i<h.size→ow' i=ow i):Core h b tx dx ex t d e ut ud ue ow' :=
 ⟨C.t1,C.t2,C.t3,C.d1,C.d2,C.d3,C.e1,C.e2,C.e3,fun i hi=>(ho i (Sx.SL.bN C.t1 hi).2).trans (C.o3 i hi),fun i hi=>(ho i (Sx.SL.bN C.d1 hi).2).trans (C.o4 i hi),fun i hi=>(ho i (Sx.SL.bN C.e1 hi).2).trans (C.o5 i hi),
  fun u hu i hi=>(ho i (Sx.SL.bN (C.t2 u hu) hi).2).trans (C.ot u hu i hi),fun u hu i hi=>(ho i (Sx.SL.bN (C.d2 u hu) hi).2).trans (C.od u hu i hi),fun u hu i hi=>(ho i (Sx.SL.bN (C.e2 u hu) hi).2).trans (C.oe u hu i hi)⟩
def dC (n k:Nat) (ow:Nat→Nat):Nat→Nat:=fun i=>if i<n then ow i else k
theorem cb {n k:Nat} {ow:Nat→Nat} {i:Nat} (hi:i<n):dC n k ow i=ow i:=if_pos hi
theorem tv {n k:Nat} {ow:Nat→Nat} {i:Nat} (hi:n≤i):dC n k ow i=k:=if_neg (by omega)
theorem tE {p p':Option Addr} {n k:Nat} {ow:Nat→Nat} (ho:∀ i,i∈ay p→ow i=k) (hl:∀ i,i∈ay p→i<n) (hp:p'=p∨∃ a,p'=some a∧n≤a.block):∀ i,i∈ay p'→dC n k ow i=k:=by
 intro i hi;rcases hp with rfl | ⟨a,rfl,ha⟩
 ·rw [cb (hl i hi)];exact ho i hi
 ·simp [ay] at hi;exact tv (by omega)
variable {L:Lp} {K:Value→Hp→Prop}
theorem Core.Lh (C:Core h b tx dx ex t d e ut ud ue ow) (hb:b≤h.size) {b':Nat} {s:bI} {us:List (bI × bw)} (hs:SL h b' 96 10 s.p s.l s.c (us.map wC)) (hu:∀ u,u∈us→SL h b 109 2 u.1.p u.1.l u.1.c (u.2.e.aw.map cJ)) (ho:∀ u,u∈us→∀ i,i∈ay u.1.p→ow i=0)
  (hm:t.l+s.l≤2^30) {k:Option Addr→Nat→Nat→T}
  (hk:∀ (t':bI) h',Core h' b (tx++us.map (·.2)) dx ex t' d e (ut++us) ud ue (dC h.size 3 ow)→Ch (ay t.p) h h'→t'.l=t.l+s.l→k t'.p t'.l t'.c L K h') :
  T.aV Tryz.prog (Builtin.append_ #[23,23] 23 #[.slice t.p t.l t.c,.slice s.p s.l s.c]) false [(false,[.slice 0])] k L K h:=by
 obtain ⟨i,hi,hz,h1,h2⟩:=mj CI;refine cO ?_;have t1:=C.t1;rw [← h1] at t1 hs;refine wO G6 hi hz (by rw [h1]; rfl) t1 hs (vh _ vG _) (by rw [h2]; omega) (by omega) hb ?_;intro p' c' h' s' k' hp';have old:∀ {p:Option Addr} {k0:Nat},(∀ i,i∈ay p→i<h.size)→(∀ i,i∈ay p→ow i=k0)→∀ i,i∈ay p→dC h.size 3 ow i=k0:=fun hl ho i hi=>(cb (hl i hi)).trans (ho i hi)
 have n:∀ k0,k0≠3→∀ i,i∈ay t.p→i<h.size→b≤i→ow i≠k0:=fun k0 hk i h1 h2 h3=>by rw [C.o3 i h1]; omega
 refine ⟨p',t.l+s.l,c',rfl,hk ⟨p',t.l+s.l,c'⟩ h' ?_ k' rfl⟩;rw [h1,← List.map_append] at s';refine ⟨s',?_,by rw [List.map_append,C.t3],SL.cm C.d1 k' C.o4 (n 4 (by omega)),fun u hu=>SL.cm (C.d2 u hu) k' (C.od u hu) (n 0 (by omega)),C.d3,SL.cm C.e1 k' C.o5 (n 5 (by omega)),fun u hu=>SL.cm (C.e2 u hu) k' (C.oe u hu) (n 0 (by omega)),C.e3,?_,?_,?_,?_,?_,?_⟩
 ·intro u hu';rcases List.mem_append.1 hu' with hu' | hu'
  ·exact SL.cm (C.t2 u hu') k' (C.ot u hu') (n 0 (by omega))
  ·exact SL.cm (hu u hu') k' (ho u hu') (n 0 (by omega))
 ·exact tE C.o3 (fun i hi=>(Sx.SL.bN C.t1 hi).2) hp'
 ·exact old (fun i hi=>(Sx.SL.bN C.d1 hi).2) C.o4
 ·exact old (fun i hi=>(Sx.SL.bN C.e1 hi).2) C.o5
 ·intro u hu';rcases List.mem_append.1 hu' with hu' | hu'
  ·exact old (fun i hi=>(Sx.SL.bN (C.t2 u hu') hi).2) (C.ot u hu')
  ·exact old (fun i hi=>(Sx.SL.bN (hu u hu') hi).2) (ho u hu')
 ·exact fun u hu'=>old (fun i hi=>(Sx.SL.bN (C.d2 u hu') hi).2) (C.od u hu')
 ·exact fun u hu'=>old (fun i hi=>(Sx.SL.bN (C.e2 u hu') hi).2) (C.oe u hu')
theorem Core.K8 (C:Core h b tx dx ex t d e ut ud ue ow) (hb:b≤h.size) {b':Nat} {s:bI} {us:List (bI × bw)} (hs:SL h b' 96 10 s.p s.l s.c (us.map wC)) (hu:∀ u,u∈us→SL h b 109 2 u.1.p u.1.l u.1.c (u.2.e.aw.map cJ)) (ho:∀ u,u∈us→∀ i,i∈ay u.1.p→ow i=0)
  (hm:d.l+s.l≤2^30) {k:Option Addr→Nat→Nat→T}
  (hk:∀ (d':bI) h',Core h' b tx (dx++us.map (·.2)) ex t d' e ut (ud++us) ue (dC h.size 4 ow)→Ch (ay d.p) h h'→d'.l=d.l+s.l→k d'.p d'.l d'.c L K h') :
  T.aV Tryz.prog (Builtin.append_ #[23,23] 23 #[.slice d.p d.l d.c,.slice s.p s.l s.c]) false [(false,[.slice 0])] k L K h:=by
 obtain ⟨i,hi,hz,h1,h2⟩:=mj CI;refine cO ?_;have d1:=C.d1;rw [← h1] at d1 hs;refine wO G6 hi hz (by rw [h1]; rfl) d1 hs (vh _ vG _) (by rw [h2]; omega) (by omega) hb ?_;intro p' c' h' s' k' hp';have old:∀ {p:Option Addr} {k0:Nat},(∀ i,i∈ay p→i<h.size)→(∀ i,i∈ay p→ow i=k0)→∀ i,i∈ay p→dC h.size 4 ow i=k0:=fun hl ho i hi=>(cb (hl i hi)).trans (ho i hi)
 have n:∀ k0,k0≠4→∀ i,i∈ay d.p→i<h.size→b≤i→ow i≠k0:=fun k0 hk i h1 h2 h3=>by rw [C.o4 i h1]; omega
 refine ⟨p',d.l+s.l,c',rfl,hk ⟨p',d.l+s.l,c'⟩ h' ?_ k' rfl⟩;rw [h1,← List.map_append] at s';refine ⟨SL.cm C.t1 k' C.o3 (n 3 (by omega)),fun u hu=>SL.cm (C.t2 u hu) k' (C.ot u hu) (n 0 (by omega)),C.t3,s',?_,by rw [List.map_append,C.d3],SL.cm C.e1 k' C.o5 (n 5 (by omega)),fun u hu=>SL.cm (C.e2 u hu) k' (C.oe u hu) (n 0 (by omega)),C.e3,?_,?_,?_,?_,?_,?_⟩
 ·intro u hu';rcases List.mem_append.1 hu' with hu' | hu'
  ·exact SL.cm (C.d2 u hu') k' (C.od u hu') (n 0 (by omega))
  ·exact SL.cm (hu u hu') k' (ho u hu') (n 0 (by omega))
 ·exact old (fun i hi=>(Sx.SL.bN C.t1 hi).2) C.o3
 ·exact tE C.o4 (fun i hi=>(Sx.SL.bN C.d1 hi).2) hp'
 ·exact old (fun i hi=>(Sx.SL.bN C.e1 hi).2) C.o5
 ·exact fun u hu'=>old (fun i hi=>(Sx.SL.bN (C.t2 u hu') hi).2) (C.ot u hu')
 ·intro u hu';rcases List.mem_append.1 hu' with hu' | hu'
  ·exact old (fun i hi=>(Sx.SL.bN (C.d2 u hu') hi).2) (C.od u hu')
  ·exact old (fun i hi=>(Sx.SL.bN (hu u hu') hi).2) (ho u hu')
 ·exact fun u hu'=>old (fun i hi=>(Sx.SL.bN (C.e2 u hu') hi).2) (C.oe u hu')
theorem Core.yq (C:Core h b tx dx ex t d e ut ud ue ow) (hb:b≤h.size) {st:List (Addr × List Value)} {s:bI} {x:nh} (hu:SL h b 109 2 s.p s.l s.c (x.2.aw.map cJ)) (ho:∀ i,i∈ay s.p→ow i=0)
  (hm:e.l+1≤2^30) {k:Option Addr→Nat→Nat→T} (hst:∀ h',Ext h h'→T.ER h' st)
  (hk:∀ (e':bI) h',Core h' b tx dx (ex++[x]) t d e' ut ud (ue++[(s,x)]) (dC h.size 5 ow)→Ch (ay e.p) h h'→e'.l=e.l+1→k e'.p e'.l e'.c L K h') :
  T.aV Tryz.prog (Instr.buildSlice 24 1 #[(0,.agg #[.string x.1,.slice s.p s.l s.c,.int .u32 (x.2.num:Int)])]) false [(false,[.slice 0])] (fun q m cc=>T.aO st (T.aV Tryz.prog (Builtin.append_ #[24,24] 24 #[.slice e.p e.l e.c,.slice q m cc]) false [(false,[.slice 0])] k)) L K h:=by
 refine yy K9 K7 rfl (by omega) (by omega) (Kl x.1 s.p s.l s.c x.2.num) rfl rfl C.e1 hb (by omega) (by omega) hst ?_;intro p' c' h' s' k' hp';have old:∀ {p:Option Addr} {k0:Nat},(∀ i,i∈ay p→i<h.size)→(∀ i,i∈ay p→ow i=k0)→∀ i,i∈ay p→dC h.size 5 ow i=k0:=fun hl ho i hi=>(cb (hl i hi)).trans (ho i hi)
 have n:∀ k0,k0≠5→∀ i,i∈ay e.p→i<h.size→b≤i→ow i≠k0:=fun k0 hk i h1 h2 h3=>by rw [C.o5 i h1]; omega
 refine hk ⟨p',e.l+1,c'⟩ h' ?_ k' rfl;refine ⟨SL.cm C.t1 k' C.o3 (n 3 (by omega)),fun u hu=>SL.cm (C.t2 u hu) k' (C.ot u hu) (n 0 (by omega)),C.t3,SL.cm C.d1 k' C.o4 (n 4 (by omega)),fun u hu=>SL.cm (C.d2 u hu) k' (C.od u hu) (n 0 (by omega)),C.d3,by rw [List.map_append]; exact s',?_,by rw [List.map_append,C.e3]; rfl,?_,?_,?_,?_,?_,?_⟩
 ·intro u hu';rcases List.mem_append.1 hu' with hu' | hu'
  ·exact SL.cm (C.e2 u hu') k' (C.oe u hu') (n 0 (by omega))
  ·have:=List.mem_singleton.1 hu'
   subst this;exact SL.cm hu k' ho (n 0 (by omega))
 ·exact old (fun i hi=>(Sx.SL.bN C.t1 hi).2) C.o3
 ·exact old (fun i hi=>(Sx.SL.bN C.d1 hi).2) C.o4
 ·exact tE C.o5 (fun i hi=>(Sx.SL.bN C.e1 hi).2) hp'
 ·exact fun u hu'=>old (fun i hi=>(Sx.SL.bN (C.t2 u hu') hi).2) (C.ot u hu')
 ·exact fun u hu'=>old (fun i hi=>(Sx.SL.bN (C.d2 u hu') hi).2) (C.od u hu')
 ·intro u hu';rcases List.mem_append.1 hu' with hu' | hu'
  ·exact old (fun i hi=>(Sx.SL.bN (C.e2 u hu') hi).2) (C.oe u hu')
  ·have:=List.mem_singleton.1 hu'
   subst this;exact old (fun i hi=>(Sx.SL.bN hu hi).2) ho
end
structure Ab (b:Nat) (q:Nat→Prop) (ow:Nat→Nat) (h h':Hp):Prop where
 size:h.size≤h'.size
 same:∀ i,i<h.size→(i<b∨q i)→h'[i]?=h[i]?
 qs:∀ i,q i→i<h.size
 qo:∀ i,q i→ow i=9
theorem Ab.FX {b:Nat} {q:Nat→Prop} {ow:Nat→Nat} {h h':Hp} (k:Ext h h') (qs:∀ i,q i→i<h.size) (qo:∀ i,q i→ow i=9):Ab b q ow h h' :=
 ⟨k.size,fun i hi _=>k.same i hi (by simp),qs,qo⟩
theorem Ab.step {b:Nat} {q:Nat→Prop} {ow ow':Nat→Nat} {h h1 h2:Hp} {ws:List Nat} (a:Ab b q ow h h1) (k:Ch ws h1 h2) (hw:∀ i,i∈ws→i<h1.size→b≤i∧ow i≠9) (ho:∀ i,i<h1.size→ow' i=ow i):Ab b q ow' h h2:=by
 have hlt:∀ i,i<h.size→i<h1.size:=fun i hi=>Nat.lt_of_lt_of_le hi a.size
 refine ⟨Nat.le_trans a.size k.size,fun i hi hq=>?_,a.qs,fun i hq=>(ho i (hlt i (a.qs i hq))).trans (a.qo i hq)⟩;rw [← a.same i hi hq];refine k.same i (hlt i hi) fun hm=>?_
 have:=hw i hm (hlt i hi)
 rcases hq with hq | hq
 ·omega
 ·exact this.2 (a.qo i hq)
theorem Ab.yW {b:Nat} {q:Nat→Prop} {ow ow':Nat→Nat} {h h1 h2:Hp} (a:Ab b q ow h h1) (k:Ext h1 h2) (ho:∀ i,i<h1.size→ow' i=ow i):Ab b q ow' h h2:=a.step k (by simp) ho
theorem Ab.ext {b:Nat} {q:Nat→Prop} {ow:Nat→Nat} {h h':Hp} (k:Ab b q ow h h') (hb:h.size≤b):Ext h h':=⟨k.size,fun i hi _=>k.same i hi (.inl (by omega))⟩
def kd (t d e:bI) (sec items:Int) (g:Nat) (q:bI):List Value:=[t.v,d.v,e.v,.slice none 0 0,.int .i64 sec,.int .i64 items,.map (some g),q.v]
structure cX (h:Hp) (b A g:Nat) (w:dX) (t d e q:bI) (ut ud:List (bI × bw)) (ue:List (bI × nh)) (ow:Nat→Nat):Prop where
 core:Core h b w.text w.data w.aZ t d e ut ud ue ow
 box:aN h A 73 (kd t d e (w.sec:Int) ((w.text.length+w.data.length:Nat):Int) g q)
 names:oc h g w.names
 aF:SL h b 76 2 q.p q.l q.c (w.aF.map LM)
 oA:ow A=6
 og:ow g=7
 oq:∀ i,i∈ay q.p→ow i=8
 bA:b≤A
 bg:b≤g
section
variable {h h':Hp} {b A g:Nat} {w:dX} {t d e q:bI} {ut ud:List (bI × bw)} {ue:List (bI × nh)} {ow:Nat→Nat}
theorem cX.ah {ws:List Nat} (a:cX h b A g w t d e q ut ud ue ow) (k:Ch ws h h') (hw:∀ i,i∈ws→i<h.size→b≤i→9≤ow i):cX h' b A g w t d e q ut ud ue ow :=
 ⟨a.core.ah k (fun i h1 h2 h3=>by have:=hw i h1 h2 h3; omega),a.box.ah k (fun hm=>by have:=hw A hm a.box.lt a.bA; have:=a.oA; omega),a.names.ah k (fun hm=>by have:=hw g hm a.names.lt a.bg; have:=a.og; omega),
  SL.cm a.aF k a.oq (fun i h1 h2 h3=>by have:=hw i h1 h2 h3; omega),a.oA,a.og,a.oq,a.bA,a.bg⟩
theorem cX.relabel (a:cX h b A g w t d e q ut ud ue ow) {ow':Nat→Nat} (ho:∀ i,i<h.size→ow' i=ow i):cX h b A g w t d e q ut ud ue ow' :=
 ⟨a.core.relabel ho,a.box,a.names,a.aF,(ho A a.box.lt).trans a.oA,(ho g a.names.lt).trans a.og,fun i hi=>(ho i (Sx.SL.bN a.aF hi).2).trans (a.oq i hi),a.bA,a.bg⟩
theorem qg {α β:Type} {us:List (α × β)} {l:List β} (h:us.map (·.2)=l):us.length=l.length:=by rw [← h,List.length_map]
theorem cX.tl (a:cX h b A g w t d e q ut ud ue ow):t.l=w.text.length:=by rw [a.core.t1.1,List.length_map,qg a.core.t3]
theorem cX.dl (a:cX h b A g w t d e q ut ud ue ow):d.l=w.data.length:=by rw [a.core.d1.1,List.length_map,qg a.core.d3]
theorem cX.el (a:cX h b A g w t d e q ut ud ue ow):e.l=w.aZ.length:=by rw [a.core.e1.1,List.length_map,qg a.core.e3]
theorem cX.ql (a:cX h b A g w t d e q ut ud ue ow):q.l=w.aF.length:=by rw [a.aF.1,List.length_map]
def jq (w:dX) (rf:List bw):dX:={ w with text:=if w.sec=0 then w.text++rf else w.text,data:=if w.sec=0 then w.data else w.data++rf }
theorem vp (w:dX) (rf:List bw):(jq w rf).text.length+(jq w rf).data.length=w.text.length+w.data.length+rf.length:=by
 unfold jq;simp only;split
 ·rw [List.length_append]; omega
 ·rw [List.length_append]; omega
def LJ (h:Hp) (b A g:Nat) (w:dX) (e q:bI) (us:List (bI × bw)) (ue:List (bI × nh)) (ow:Nat→Nat) (v:Value) (h':Hp):Prop :=
 v=.tuple #[]∧∃ t' d' ut' ud' ow',cX h' b A g (jq w (us.map (·.2))) t' d' e q ut' ud' ue ow'∧(∀ i,i<h.size→ow' i=ow i)∧∃ ws,Ch ws h h'∧∀ i,i∈ws→i<h.size→b≤i∧(ow i=3∨ow i=4∨ow i=6)
set_option maxHeartbeats 1000000 in
theorem Eg (a : cX h b A g w t d e q ut ud ue ow) (hb : b ≤ h.size) (hsec : w.sec ≤ 1) {b' : Nat} {s : bI} {us : List (bI × bw)} (hs : SL h b' 96 10 s.p s.l s.c (us.map wC)) (hu : ∀ u, u ∈ us → SL h b 109 2 u.1.p u.1.l u.1.c (u.2.e.aw.map cJ)) (ho : ∀ u, u ∈ us → ∀ i, i ∈ ay u.1.p → ow i = 0)
    (hm : w.text.length + w.data.length + us.length ≤ 2 ^ 29) : HC Tryz.prog 66 #[.pointer (some ⟨A, 0, none⟩), .int .i64 (w.sec : Int), .slice s.p s.l s.c] h (LJ h b A g w e q us ue ow) := by
  refine aI (args := [.pointer (some ⟨A, 0, none⟩), .int .i64 (w.sec : Int), .slice s.p s.l s.c]) mixed Tryz.func66 (by kernel_rfl) (jQ (some ⟨A, 0, none⟩) w.sec s.p s.l s.c) ?_;unfold fQ;have hsl : s.l = us.length := by rw [hs.1, List.length_map]
  have htl := a.tl;have hdl := a.dl;have hlt := a.box.lt;refine af (fun r => ?_) (fun r => ?_)
  · have r : w.sec = 1 := by have := eq_of_beq r; omega
    refine an rfl ?_;rw [ao];refine ad a.box ((d.p, d.l, d.c), ()) rfl ?_;dsimp only [flat, aA, ai, List.nil_append, List.cons_append];refine a.core.K8 hb hs hu ho (by omega) ?_;intro d' h1 C1 k1 l1;have nA : A ∉ ay d.p := fun hm => by have := a.core.o4 A hm; have := a.oA; omega
    refine an rfl ?_;rw [ao];refine ak (a.box.ah k1 nA) rfl (by simp [kd]) ?_;intro h2 b2 k2 z2;have b2 : aN h2 A 73 (kd t d' e (w.sec : Int) ((w.text.length + w.data.length : Nat) : Int) g q) := b2;refine an rfl ?_;rw [ao];refine ad b2 (((w.text.length + w.data.length : Nat) : Int), ()) rfl ?_;dsimp only [flat, aA, ai, List.nil_append, List.cons_append];refine an rfl ?_;rw [ao];refine ak b2 rfl (by simp [kd]) ?_;intro h3 b3 k3 z3;have b3 : aN h3 A 73 (kd t d' e (w.sec : Int) (IntKind.wrap .i64 (((w.text.length + w.data.length : Nat) : Int) + (s.l : Int))) g q) := b3;rw [wrap_i64 (by omega) (by omega), show (((w.text.length + w.data.length : Nat) : Int) + (s.l : Int)) = ((w.text.length + w.data.length + us.length : Nat) : Int) by omega] at b3;have oA1 : dC h.size 4 ow A = 6 := (cb hlt).trans a.oA;have C3 := (C1.ah k2 (fun i hi _ _ => by have hi := List.mem_singleton.1 hi; subst hi; omega)).ah k3 (fun i hi _ _ => by have hi := List.mem_singleton.1 hi; subst hi; omega);have ng : g ∉ ay d.p := fun hm => by have := a.core.o4 g hm; have := a.og; omega
    have ngA : g ∉ [A] := fun hm => by have hm := List.mem_singleton.1 hm; subst hm; have := a.oA; have := a.og; omega
    have qd : ∀ i, i ∈ ay q.p → i ∉ ay d.p := fun i hi hm => by have := a.core.o4 i hm; have := a.oq i hi; omega
    have qA : ∀ i, i ∈ ay q.p → i ∉ [A] := fun i hi hm => by have hm := List.mem_singleton.1 hm; subst hm; have := a.oA; have := a.oq i hi; omega
    refine ⟨rfl, t, d', ut, ud ++ us, dC h.size 4 ow, ⟨?_, ?_, ((a.names.ah k1 ng).ah k2 ngA).ah k3 ngA, Sx.SL.aS (Sx.SL.aS (Sx.SL.aS a.aF k1 qd) k2 qA) k3 qA, oA1, (cb a.names.lt).trans a.og, fun i hi => (cb (Sx.SL.bN a.aF hi).2).trans (a.oq i hi), a.bA, a.bg⟩, fun i hi => cb hi, A :: ay d.p, ?_, ?_⟩
    · unfold jq
      simp only;rw [if_neg (by omega), if_neg (by omega)];exact C3
    · rw [vp, List.length_map]
      exact b3
    · exact ((k1.mono (fun i hi _ => by simp [hi])).trans k2 (fun i hi _ => by have hi := List.mem_singleton.1 hi; simp [hi])).trans k3 (fun i hi _ => by have hi := List.mem_singleton.1 hi; simp [hi])
    · intro i hi hl
      rcases List.mem_cons.1 hi with rfl | hi
      · exact ⟨a.bA, .inr (.inr a.oA)⟩
      · exact ⟨(Sx.SL.bN a.core.d1 hi).1, .inr (.inl (a.core.o4 i hi))⟩
  · have r : w.sec = 0 := by have : ¬ w.sec = 1 := fun e => by rw [e] at r; simp at r
                             omega
    refine an rfl ?_;refine ad a.box ((t.p, t.l, t.c), ()) rfl ?_;dsimp only [flat, aA, ai, List.nil_append, List.cons_append];refine a.core.Lh hb hs hu ho (by omega) ?_;intro t' h1 C1 k1 l1;have nA : A ∉ ay t.p := fun hm => by have := a.core.o3 A hm; have := a.oA; omega
    refine an rfl ?_;refine ak (a.box.ah k1 nA) rfl (by simp [kd]) ?_;intro h2 b2 k2 z2;have b2 : aN h2 A 73 (kd t' d e (w.sec : Int) ((w.text.length + w.data.length : Nat) : Int) g q) := b2;refine an rfl ?_;rw [ao];refine ad b2 (((w.text.length + w.data.length : Nat) : Int), ()) rfl ?_;dsimp only [flat, aA, ai, List.nil_append, List.cons_append];refine an rfl ?_;rw [ao];refine ak b2 rfl (by simp [kd]) ?_;intro h3 b3 k3 z3;have b3 : aN h3 A 73 (kd t' d e (w.sec : Int) (IntKind.wrap .i64 (((w.text.length + w.data.length : Nat) : Int) + (s.l : Int))) g q) := b3;rw [wrap_i64 (by omega) (by omega), show (((w.text.length + w.data.length : Nat) : Int) + (s.l : Int)) = ((w.text.length + w.data.length + us.length : Nat) : Int) by omega] at b3;have oA1 : dC h.size 3 ow A = 6 := (cb hlt).trans a.oA;have C3 := (C1.ah k2 (fun i hi _ _ => by have hi := List.mem_singleton.1 hi; subst hi; omega)).ah k3 (fun i hi _ _ => by have hi := List.mem_singleton.1 hi; subst hi; omega);have ng : g ∉ ay t.p := fun hm => by have := a.core.o3 g hm; have := a.og; omega
    have ngA : g ∉ [A] := fun hm => by have hm := List.mem_singleton.1 hm; subst hm; have := a.oA; have := a.og; omega
    have qd : ∀ i, i ∈ ay q.p → i ∉ ay t.p := fun i hi hm => by have := a.core.o3 i hm; have := a.oq i hi; omega
    have qA : ∀ i, i ∈ ay q.p → i ∉ [A] := fun i hi hm => by have hm := List.mem_singleton.1 hm; subst hm; have := a.oA; have := a.oq i hi; omega
    refine ⟨rfl, t', d, ut ++ us, ud, dC h.size 3 ow, ⟨?_, ?_, ((a.names.ah k1 ng).ah k2 ngA).ah k3 ngA, Sx.SL.aS (Sx.SL.aS (Sx.SL.aS a.aF k1 qd) k2 qA) k3 qA, oA1, (cb a.names.lt).trans a.og, fun i hi => (cb (Sx.SL.bN a.aF hi).2).trans (a.oq i hi), a.bA, a.bg⟩, fun i hi => cb hi, A :: ay t.p, ?_, ?_⟩
    · unfold jq
      simp only;rw [if_pos r, if_pos r];exact C3
    · rw [vp, List.length_map]
      exact b3
    · exact ((k1.mono (fun i hi _ => by simp [hi])).trans k2 (fun i hi _ => by have hi := List.mem_singleton.1 hi; simp [hi])).trans k3 (fun i hi _ => by have hi := List.mem_singleton.1 hi; simp [hi])
    · intro i hi hl
      rcases List.mem_cons.1 hi with rfl | hi
      · exact ⟨a.bA, .inr (.inr a.oA)⟩
      · exact ⟨(Sx.SL.bN a.core.t1 hi).1, .inl (a.core.o3 i hi)⟩
end
structure nY (h:Hp) (b:Nat) (t:jW) (sl:bI) (us:List (bI × bw)) (se:bI) (ow:Nat→Nat):Prop where
 rf:SL h b 96 10 sl.p sl.l sl.c (us.map wC)
 own:∀ u,u∈us→SL h b 109 2 u.1.p u.1.l u.1.c (u.2.e.aw.map cJ)
 eq:us.map (·.2)=t.items
 e:SL h b 109 2 se.p se.l se.c (t.e.aw.map cJ)
 o9:∀ i,i∈ay sl.p→ow i=9
 ou:∀ u,u∈us→∀ i,i∈ay u.1.p→ow i=0
 oe:∀ i,i∈ay se.p→ow i=0
section
variable {h h':Hp} {b:Nat} {t:jW} {sl se:bI} {us:List (bI × bw)} {ow:Nat→Nat}
theorem nY.ah {ws:List Nat} (o:nY h b t sl us se ow) (k:Ch ws h h') (hw:∀ i,i∈ws→i<h.size→b≤i→ow i≠0∧ow i≠9):nY h' b t sl us se ow :=
 ⟨SL.cm o.rf k o.o9 (fun i h1 h2 h3=>(hw i h1 h2 h3).2),fun u hu=>SL.cm (o.own u hu) k (o.ou u hu) (fun i h1 h2 h3=>(hw i h1 h2 h3).1),o.eq,SL.cm o.e k o.oe (fun i h1 h2 h3=>(hw i h1 h2 h3).1),o.o9,o.ou,o.oe⟩
theorem nY.relabel (o:nY h b t sl us se ow) {ow':Nat→Nat} (ho:∀ i,i<h.size→ow' i=ow i):nY h b t sl us se ow' :=
 ⟨o.rf,o.own,o.eq,o.e,fun i hi=>(ho i (Sx.SL.bN o.rf hi).2).trans (o.o9 i hi),fun u hu i hi=>(ho i (Sx.SL.bN (o.own u hu) hi).2).trans (o.ou u hu i hi),fun i hi=>(ho i (Sx.SL.bN o.e hi).2).trans (o.oe i hi)⟩
theorem nY.LP {ws:List Nat} (o:nY h b t sl us se ow) (k:Ch ws h h') (hw:∀ i,i∈ws→i<h.size→b≤i→ow i≠0∧ow i≠9) {ow':Nat→Nat} (ho:∀ i,i<h.size→ow' i=ow i):nY h' b t sl us se ow' :=
 (o.relabel ho).ah k (fun i h1 h2 h3=>by rw [ho i h2]; exact hw i h1 h2 h3)
theorem SL.ty {e1 e2:TypeId} {s1 s2 b1 b2:Nat} {p q:Option Addr} {l c m d:Nat} {xs ys:List (List Value)} (s:SL h b1 e1 s1 p l c xs) (r:SL h b2 e2 s2 q m d ys) (hne:e1≠e2):∀ i,i∈ay p→i∉ay q:=by
 intro i hi hj;cases p with
 | none=>simp [ay] at hi
 | some a =>
  cases q with
  | none=>simp [ay] at hj
  | some a' =>
   obtain ⟨g,pre,rest,rfl,hbg,hlc,hbox,hr⟩:=s.2.2;obtain ⟨g',pre',rest',rfl,hbg',hlc',hbox',hr'⟩:=r.2.2;simp [ay] at hi hj;subst hi;subst hj;unfold aN at hbox hbox';rw [hbox] at hbox';injection hbox' with hbox'
   injection hbox' with _ hbox' _
   exact hne hbox'
open Classical in
theorem nY.of {h0:Hp} {us:List (bI × bw)} (A:gV h h0.size t sl us se) (hb:b≤h0.size) (ow:Nat→Nat):∃ ow',(∀ i,i<h0.size→ow' i=ow i)∧nY h b t sl us se ow':=by
 have ty:∀ {s:bI} {xs:List (List Value)},SL h h0.size 109 2 s.p s.l s.c xs→∀ i,i∈ay s.p→i∉ay sl.p:=fun r i hi hj=>SL.ty A.rf.out r (by decide) i hj hi
 refine ⟨fun i=>if i<h0.size then ow i else if i∈ay sl.p then 9 else 0,fun i hi=>if_pos hi,Sx.SL.mono A.rf.out hb,fun u hu=>Sx.SL.mono (A.rf.own u hu) hb,A.eq,Sx.SL.mono A.e hb,?_,?_,?_⟩
 ·intro i hi
  have:=(Sx.SL.bN A.rf.out hi).1
  rw [if_neg (by omega),if_pos hi]
 ·intro u hu i hi
  have:=(Sx.SL.bN (A.rf.own u hu) hi).1
  rw [if_neg (by omega),if_neg (ty (A.rf.own u hu) i hi)]
 ·intro i hi
  have:=(Sx.SL.bN A.e hi).1
  rw [if_neg (by omega),if_neg (ty A.e i hi)]
end
theorem vK {s:ByteArray} (h:bf s.data.toList=true):s≠bK:=by
 rintro rfl;revert h;decide
theorem rC {s:ByteArray} (h:bf s.data.toList=true):s.size≤32:=by
 unfold bf at h;simp only [Bool.and_eq_true,decide_eq_true_eq] at h
 have:=h.1.1.1.2
 simpa using this
theorem AT.Mc {w:dX} (W:AT w):fm w.names bK=false:=by
 cases h:fm w.names bK with
 | false=>rfl
 | true =>
  have h:=W.perm.mem_iff.1 (nB.1 h);exfalso;have key:∀ (l:List bw) (k:Nat),(∀ x,x∈l→cS x k=true∧Good x.e)→bK∉eX l:=by
   intro l k hl hm;unfold eX at hm;obtain ⟨x,hx,hn⟩:=List.mem_map.1 hm;obtain ⟨hx,hk⟩:=List.mem_filter.1 hx
   have:=(hl x hx).1
   have hk:x.kind=1:=by simpa using hk
   unfold cS at this;rw [if_pos hk] at this;simp only [Bool.and_eq_true] at this
   have:bf x.name.data.toList=true:=by
    rcases this with ⟨⟨⟨h1,h2⟩,h3⟩,h4⟩
    first | exact h1 | exact h2 | exact h3 | exact h4
   exact vK this hn
  rcases List.mem_append.1 h with h | h
  ·rcases List.mem_append.1 h with h | h
   ·exact key _ 0 W.text h
   ·exact key _ 1 W.data h
  ·obtain ⟨x,hx,hn⟩:=List.mem_map.1 h;exact vK (W.aZ x hx).1 hn
theorem oc.congr {h:Hp} {g:Nat} {D D':List ByteArray} (m:oc h g D) (e:∀ s,fm D s=fm D' s):oc h g D':=by
 obtain ⟨n,m⟩:=m;refine ⟨n,?_⟩
 have:(fun s=>if fm D' s then some true else none)=(fun s=>if fm D s then some true else none):=by funext s; rw [e]
 rw [this];exact m
theorem zO (D:List ByteArray) (x s:ByteArray):fm (x::D) s=fm (D++[x]) s:=by
 unfold fm;rw [List.any_cons,List.any_append,List.any_cons,List.any_nil,Bool.or_false,Bool.or_comm]
def Az (p0 : Option Addr) (n1 : Int) (a10 a30 : Addr) (n29 : Int) : T :=
    cond (n29 != (0 : Int))
     (T.ret (.int .i64 n29))
     (T.join [(false, [.string])]
      (T.ae a30 [.int .i64] <| fun (n31 : Int) =>
      cond (n31 == (3 : Int))
       (T.ae (a30.add 2) [.string] <| fun (yY : ByteArray) =>
       T.again 0 [.string yY])
       (T.again 0 [.string ⟨#[]⟩])) <| fun (s31 : ByteArray) =>
     T.join [(false, [.bool])]
      (T.ae a10 [.string] <| fun (yY : ByteArray) =>
      cond (!((ByteArray.toList yY) == []))
       (T.au p0 <| fun (a33 : Addr) =>
       T.ae (a33.add 6) [.map 9 4] <| fun (r34 : Option Nat) =>
       T.ae a10 [.string] <| fun (s35 : ByteArray) =>
       T.aV Tryz.prog (Instr.lookup 70 (.map r34) (.string s35) false) false [(false, [.bool])] <| fun (b36 : Bool) =>
       T.aO [(a10, [.string yY])] <|
       cond b36
        (T.again 0 [.bool true])
        (T.ae a10 [.string] <| fun (s37 : ByteArray) =>
        cond ((ByteArray.toList s37) == (ByteArray.toList s31))
         (T.again 0 [.bool true])
         (T.au p0 <| fun (a38 : Addr) =>
         T.ae (a38.add 6) [.map 9 4] <| fun (r39 : Option Nat) =>
         T.aV Tryz.prog (Instr.lookup 70 (.map r39) (.string s31) false) false [(false, [.bool])] <| fun (b40 : Bool) =>
         T.aO [(a10, [.string s37]), (a10, [.string s35]), ((a33.add 6), [.map r34]), (a10, [.string yY])] <|
         T.again 0 [.bool b40])))
       (T.au p0 <| fun (a33 : Addr) =>
       T.ae (a33.add 6) [.map 9 4] <| fun (r34 : Option Nat) =>
       T.aV Tryz.prog (Instr.lookup 70 (.map r34) (.string s31) false) false [(false, [.bool])] <| fun (b35 : Bool) =>
       T.aO [(a10, [.string yY])] <|
       T.again 0 [.bool b35])) <| fun (b32 : Bool) =>
     cond b32
      (T.ret (.int .i64 (22 : Int)))
      (T.ae (a30.add 1) [.slice 96] <| fun (p33 : Option Addr) (l34 : Nat) (l35 : Nat) =>
      T.join [(false, [.int .i64])]
       (T.ae a10 [.string] <| fun (s36 : ByteArray) =>
       cond (!((ByteArray.toList s36) == []))
        (T.again 0 [.int .i64 (IntKind.wrap .i64 ((l34 : Int) + (1 : Int)))])
        (T.again 0 [.int .i64 (l34 : Int)])) <| fun (n36 : Int) =>
      T.au p0 <| fun (a37 : Addr) =>
      T.ae (a37.add 5) [.int .i64] <| fun (n38 : Int) =>
      cond (decide ((IntKind.wrap .i64 (n38 + n36)) > (8192 : Int)))
       (T.ret (.int .i64 (4 : Int)))
       (T.join []
        (T.ae a10 [.string] <| fun (s39 : ByteArray) =>
        cond (!((ByteArray.toList s39) == []))
         (T.au p0 <| fun (a40 : Addr) =>
         T.ae (a40.add 6) [.map 9 4] <| fun (r41 : Option Nat) =>
         T.ae a10 [.string] <| fun (s42 : ByteArray) =>
         T.lI Tryz.prog (Instr.mapUpdate 70 (.map r41) (.string s42) (.bool true)) <|
         T.au p0 <| fun (a43 : Addr) =>
         T.ae (a43.add 4) [.int .i64] <| fun (n44 : Int) =>
         T.ae a10 [.string] <| fun (s45 : ByteArray) =>
         T.aV Tryz.prog (Instr.buildSlice 23 1 #[(0, .agg #[.int .i64 (1 : Int), .string s45, .int .i64 (0 : Int), .int .i64 (0 : Int), .int .i64 (0 : Int), .int .i32 (0 : Int), .int .i64 (0 : Int), .slice none 0 0, .int .u32 (0 : Int), .int .i64 (0 : Int)])]) false [(false, [.slice 0])] <| fun (p46 : Option Addr) (l47 : Nat) (l48 : Nat) =>
         T.aO [(a10, [.string s45]), ((a43.add 4), [.int .i64 n44])] <|
         T.call Tryz.prog 66 [.pointer p0, .int .i64 n44, .slice p46 l47 l48] true [] <| T.aO [(a10, [.string s45])] <|
         T.again 0 [])
         (T.again 0 [])) <| T.au p0 <| fun (a39 : Addr) =>
       T.ae (a39.add 4) [.int .i64] <| fun (n40 : Int) =>
       T.ae (a30.add 1) [.slice 96] <| fun (p41 : Option Addr) (l42 : Nat) (l43 : Nat) =>
       T.call Tryz.prog 66 [.pointer p0, .int .i64 n40, .slice p41 l42 l43] true [] <| T.join []
        (T.ae a30 [.int .i64] <| fun (n44 : Int) =>
        cond (n44 == (3 : Int))
         (T.au p0 <| fun (a45 : Addr) =>
         T.ae (a45.add 6) [.map 9 4] <| fun (r46 : Option Nat) =>
         T.lI Tryz.prog (Instr.mapUpdate 70 (.map r46) (.string s31) (.bool true)) <|
         T.au p0 <| fun (a47 : Addr) =>
         T.ae (a47.add 2) [.slice 99] <| fun (p48 : Option Addr) (l49 : Nat) (l50 : Nat) =>
         T.ae (a30.add 2) [.string] <| fun (s51 : ByteArray) =>
         T.ae (a30.add 3) [.slice 109, .int .u32] <| fun (p52 : Option Addr) (l53 : Nat) (l54 : Nat) (n55 : Int) =>
         T.aV Tryz.prog (Instr.buildSlice 24 1 #[(0, .agg #[.string s51, .slice p52 l53 l54, .int .u32 n55])]) false [(false, [.slice 0])] <| fun (p56 : Option Addr) (l57 : Nat) (l58 : Nat) =>
         T.aO [((a30.add 3), [.slice p52 l53 l54, .int .u32 n55]), ((a30.add 2), [.string s51]), ((a47.add 2), [.slice p48 l49 l50])] <|
         T.aV Tryz.prog (Builtin.append_ #[24, 24] 24 #[.slice p48 l49 l50, .slice p56 l57 l58]) false [(false, [.slice 0])] <| fun (p59 : Option Addr) (l60 : Nat) (l61 : Nat) =>
         T.aO [((a30.add 3), [.slice p52 l53 l54, .int .u32 n55]), ((a30.add 2), [.string s51])] <|
         T.au p0 <| fun (a62 : Addr) =>
         T.ap (a62.add 2) [.slice p59 l60 l61] <|
         T.again 0 [])
         (cond (n44 == (4 : Int))
          (T.au p0 <| fun (a45 : Addr) =>
          T.ae (a45.add 7) [.slice 76] <| fun (p46 : Option Addr) (l47 : Nat) (l48 : Nat) =>
          T.ae (a30.add 2) [.string] <| fun (s49 : ByteArray) =>
          T.aV Tryz.prog (Instr.buildSlice 71 1 #[(0, .agg #[.string s49, .int .i64 n1])]) false [(false, [.slice 0])] <| fun (p50 : Option Addr) (l51 : Nat) (l52 : Nat) =>
          T.aO [((a30.add 2), [.string s49]), ((a45.add 7), [.slice p46 l47 l48])] <|
          T.aV Tryz.prog (Builtin.append_ #[71, 71] 71 #[.slice p46 l47 l48, .slice p50 l51 l52]) false [(false, [.slice 0])] <| fun (p53 : Option Addr) (l54 : Nat) (l55 : Nat) =>
          T.aO [((a30.add 2), [.string s49])] <|
          T.au p0 <| fun (a56 : Addr) =>
          T.ap (a56.add 7) [.slice p53 l54 l55] <|
          T.again 0 [])
          (cond (n44 == (5 : Int))
           (T.ae (a30.add 5) [.int .i64] <| fun (n45 : Int) =>
           T.au p0 <| fun (a46 : Addr) =>
           T.ap (a46.add 4) [.int .i64 n45] <|
           T.again 0 [])
           (T.again 0 [])))) <| T.ret (.int .i64 (0 : Int)))))
def IQ (b A g:Nat) (qq:Nat→Prop) (h:Hp) (r:Except Nat dX) (v:Value) (h':Hp):Prop :=
 match r with
 | .error e=>v=.int .i64 (e:Int)∧e≠0∧Ext h h'
 | .ok w'=>v=.int .i64 0∧∃ t d e q ut ud ue ow,cX h' b A g w' t d e q ut ud ue ow∧Ab b qq ow h h'
def pI (w:dX) (n:Nat) (dC:ByteArray) (r:Except Nat jW):Except Nat dX :=
 match r with
 | .error e=>.error e
 | .ok t=>if tk w dC t then .error 22 else if 8192<w.text.length+w.data.length+(ju dC t).length then .error 4 else .ok (ik w n dC t)
def tf (t:jW):ByteArray:=if t.kind=3 then t.name else bK
theorem KC {w:dX} {lb:ByteArray} {t:jW} (h:lb≠bK) (hi:fm w.names lb=true):tk w lb t:=.inl ⟨h,hi⟩
theorem J1 {w:dX} {lb:ByteArray} {t:jW} (h:lb≠bK) (hi:lb=tf t):tk w lb t:=by
 unfold tf at hi;split at hi
 ·rename_i k;exact .inr ⟨k,.inr hi.symm⟩
 ·exact absurd hi h
theorem IE {w:dX} (W:AT w) {lb:ByteArray} {t:jW} (ok:t.kind=3→bf t.name.data.toList=true) (h:¬ (lb≠bK∧(fm w.names lb=true∨lb=tf t))):fm w.names (tf t)=decide (tk w lb t):=by
 by_cases k:t.kind=3
 ·have he:tf t=t.name:=if_pos k;rw [he] at h ⊢;cases hi:fm w.names t.name with
  | true=>exact (decide_eq_true (.inr ⟨k,.inl hi⟩)).symm
  | false =>
   refine (decide_eq_false ?_).symm;rintro (⟨h1,h2⟩ | ⟨_,h1 | h1⟩)
   ·exact h ⟨h1,.inl h2⟩
   ·rw [hi] at h1; cases h1
   ·exact h ⟨fun e=>vK (ok k) (h1.trans e),.inr h1.symm⟩
 ·have he:tf t=bK:=if_neg k;rw [he] at h ⊢;rw [W.Mc];refine (decide_eq_false ?_).symm;rintro (⟨h1,h2⟩ | ⟨h1,_⟩)
  ·exact h ⟨h1,.inl h2⟩
  ·exact k h1
def eC (w:dX) (lb:ByteArray):dX:=if lb=bK then w else jq { w with names:=w.names++[lb] } [tU lb]
theorem EM (w:dX) (lb:ByteArray):(eC w lb).sec=w.sec:=by unfold eC jq; split <;> rfl
theorem C8 (w:dX) (lb:ByteArray):(eC w lb).aZ=w.aZ:=by unfold eC jq; split <;> rfl
theorem Bc (w:dX) (lb:ByteArray):(eC w lb).aF=w.aF:=by unfold eC jq; split <;> rfl
theorem Gl (w:dX) (lb:ByteArray):(eC w lb).text.length+(eC w lb).data.length≤w.text.length+w.data.length+1:=by
 unfold eC;split
 ·omega
 ·rw [vp]; simp
theorem tB (w:dX) (n:Nat) (lb:ByteArray) (t:jW):ik w n lb t={ text:=(jq (eC w lb) t.items).text,data:=(jq (eC w lb) t.items).data,aZ:=if t.kind=3 then (eC w lb).aZ++[(t.name,t.e)] else (eC w lb).aZ,names:=if t.kind=3 then (eC w lb).names++[t.name] else (eC w lb).names,aF:=if t.kind=4 then (eC w lb).aF++[(t.name,n)] else (eC w lb).aF,sec:=if t.kind=5 then t.sec else (eC w lb).sec }:=by
 unfold ik eC jq ju
 by_cases h:lb=bK
 ·simp only [if_pos h,List.nil_append,List.append_nil]
 ·by_cases s:w.sec=0
  ·simp [if_neg h,s,List.append_assoc]
  ·simp [if_neg h,s,List.append_assoc]
theorem HY (lb:ByteArray) (t:jW):(ju lb t).length=t.items.length+(if lb=bK then 0 else 1):=by
 unfold ju;rw [List.length_append];split <;> simp <;> omega
structure K0 (qq:Nat→Prop) (h0 h:Hp) (b A gm x y:Nat) (w:dX) (lb opn:ByteArray) (pA:Option Addr) (lA cA:Nat) (tg:jW) (t d e q sl se:bI) (ut ud us:List (bI × bw)) (ue:List (bI × nh)) (ow:Nat→Nat):Prop where
 a:cX h b A gm w t d e q ut ud ue ow
 bx:aN h x 130 [.string lb,.string opn,.slice pA lA cA]
 v8:aN h y 134 (qK tg.kind sl.p sl.l sl.c tg.name se.p se.l se.c tg.e.num tg.sec)
 o:nY h b tg sl us se ow
 ox:ow x=9
 oy:ow y=9
 ab:Ab b qq ow h0 h
theorem K0.size {qq:Nat→Prop} {h0 h:Hp} {b A gm x y:Nat} {w:dX} {lb opn:ByteArray} {pA:Option Addr} {lA cA:Nat} {tg:jW} {t d e q sl se:bI} {ut ud us:List (bI × bw)} {ue:List (bI × nh)} {ow:Nat→Nat} (s:K0 qq h0 h b A gm x y w lb opn pA lA cA tg t d e q sl se ut ud us ue ow) (hb:b≤h0.size):b≤h.size:=Nat.le_trans hb s.ab.size
theorem jB {s:ByteArray}:(!(ByteArray.toList s==[]))=true↔s≠bK:=by
 rw [ByteArray.toList_eq];constructor
 ·intro h e;subst e;simp [bK] at h
 ·intro h;simp only [Bool.not_eq_true',beq_eq_false_iff_ne,ne_eq];intro e;exact h (kB e)
theorem FH {s u:ByteArray}:(ByteArray.toList s==ByteArray.toList u)=true↔s=u:=by
 rw [ByteArray.toList_eq,ByteArray.toList_eq,beq_iff_eq];exact ⟨fun h=>kB h,fun h=>by rw [h]⟩
set_option maxHeartbeats 4000000 in
theorem rU {qq:Nat→Prop} {h h1:Hp} {b A gm x y:Nat} {w:dX} {t d e q sl se:bI} {ut ud us:List (bI × bw)} {ue:List (bI × nh)} {ow:Nat→Nat} {n:Nat} {lb opn:ByteArray} {pA:Option Addr} {lA cA:Nat} {tg:jW}
  (hb:b≤h.size) (ext:Ext h h1) (W:AT w) (hE:w.aZ.length≤2^20) (hG:w.aF.length≤2^20) (hn:n≤2^20)
  (s:K0 qq h h1 b A gm x y w lb opn pA lA cA tg t d e q sl se ut ud us ue ow) (hlab:lb≠bK→bf lb.data.toList=true) (ok:ke tg (decide (w.sec=1))) (sz:tg.items.length≤2^20) :
  Az (some ⟨A,0,none⟩) n ⟨x,0,none⟩ ⟨y,0,none⟩ 0 [] (IQ b A gm qq h (pI w n lb (.ok tg))) h1:=by
 unfold Az;have hsec:=W.sec;have hmany:=W.many;have okn:tg.kind=3→bf tg.name.data.toList=true:=fun k=>ok.name (.inl k)
 have hul:us.length=tg.items.length:=qg s.o.eq;have hsl:sl.l=tg.items.length:=by rw [s.o.rf.1,List.length_map,hul]
 refine bm rfl ?_;refine dt (cs:=[(false,[.string])]) (fun z h'=>h'=h1∧z.1=tf tg) ?_ ?_
 ·refine ad s.v8 ((tg.kind:Int),()) rfl ?_;dsimp only [flat,aA,ai,List.nil_append,List.cons_append];refine af (fun r=>?_) (fun r=>?_)
  ·have r:tg.kind=3:=by have:=eq_of_beq r; omega
   rw [ao];refine ad s.v8 (tg.name,()) rfl ?_;dsimp only [flat,aA,ai,List.nil_append,List.cons_append];exact bh (cs:=[(false,[.string])]) (tg.name,()) rfl rfl ⟨rfl,(if_pos r).symm⟩
  ·have r:¬ tg.kind=3:=fun e=>by rw [e] at r; simp at r
   exact bh (cs:=[(false,[.string])]) (bK,()) rfl rfl ⟨rfl,(if_neg r).symm⟩
 rintro ⟨s31,⟨⟩⟩ h2 ⟨e2,hs31⟩;simp only at hs31;have e2:=e2.symm;subst e2;subst hs31;dsimp only [flat,aA,ai,List.nil_append,List.cons_append];refine dt (cs:=[(false,[.bool])]) (fun z h'=>h'=h1∧z.1=decide (tk w lb tg)) ?_ ?_
 ·refine ad s.bx (lb,()) rfl ?_;dsimp only [flat,aA,ai,List.nil_append,List.cons_append];refine af (fun r=>?_) (fun r=>?_)
  ·have r:=jB.1 r;refine an rfl ?_;rw [ao];refine ad s.a.box (some gm,()) rfl ?_;dsimp only [flat,aA,ai,List.nil_append,List.cons_append];refine ad s.bx (lb,()) rfl ?_;dsimp only [flat,aA,ai,List.nil_append,List.cons_append];refine ve s.a.names lb ?_;refine ⟨⟨s.bx.cells _ rfl,trivial⟩,?_⟩;refine af (fun q1=>?_) (fun q1=>?_)
   ·exact bh (cs:=[(false,[.bool])]) (true,()) rfl rfl ⟨rfl,(decide_eq_true (KC r q1)).symm⟩
   refine ad s.bx (lb,()) rfl ?_;dsimp only [flat,aA,ai,List.nil_append,List.cons_append];refine af (fun q2=>?_) (fun q2=>?_)
   ·exact bh (cs:=[(false,[.bool])]) (true,()) rfl rfl ⟨rfl,(decide_eq_true (J1 r (FH.1 q2))).symm⟩
   refine an rfl ?_;refine ad s.a.box (some gm,()) rfl ?_;dsimp only [flat,aA,ai,List.nil_append,List.cons_append];refine ve s.a.names (tf tg) ?_;refine ⟨⟨s.bx.cells _ rfl,s.bx.cells _ rfl,s.a.box.cells _ rfl,s.bx.cells _ rfl,trivial⟩,?_⟩;refine bh (cs:=[(false,[.bool])]) (fm w.names (tf tg),()) rfl rfl ⟨rfl,IE W okn ?_⟩;rintro ⟨_,k | k⟩
   ·rw [k] at q1; cases q1
   ·rw [FH.2 k] at q2; cases q2
  ·have r:lb=bK:=by
    by_cases e:lb=bK
    ·exact e
    ·rw [jB.2 e] at r; cases r
   refine an rfl ?_;rw [ao];refine ad s.a.box (some gm,()) rfl ?_;dsimp only [flat,aA,ai,List.nil_append,List.cons_append];refine ve s.a.names (tf tg) ?_;refine ⟨⟨s.bx.cells _ rfl,trivial⟩,?_⟩;exact bh (cs:=[(false,[.bool])]) (fm w.names (tf tg),()) rfl rfl ⟨rfl,IE W okn fun k=>k.1 r⟩
 rintro ⟨b32,⟨⟩⟩ h2 ⟨e2,hb32⟩;simp only at hb32;have e2:=e2.symm;subst e2;subst hb32;dsimp only [flat,aA,ai,List.nil_append,List.cons_append];refine af (fun r=>?_) (fun r=>?_)
 ·have r:=of_decide_eq_true r;unfold pI;simp only;rw [if_pos r];exact ⟨rfl,by decide,ext⟩
 have nd:=of_decide_eq_false r;rw [ao];refine ad s.v8 ((sl.p,sl.l,sl.c),()) rfl ?_;dsimp only [flat,aA,ai,List.nil_append,List.cons_append];have hil:=HY lb tg;refine dt (cs:=[(false,[.int .i64])]) (fun z h'=>h'=h1∧z.1=((ju lb tg).length:Int)) ?_ ?_
 ·refine ad s.bx (lb,()) rfl ?_;dsimp only [flat,aA,ai,List.nil_append,List.cons_append];refine af (fun r=>?_) (fun r=>?_)
  ·have r:=jB.1 r;rw [if_neg r] at hil;exact bh (cs:=[(false,[.int .i64])]) (((ju lb tg).length:Int),()) rfl (by rw [wrap_i64 (by omega) (by omega),show ((sl.l:Int)+1)=((ju lb tg).length:Int) by omega]; rfl) ⟨rfl,rfl⟩
  ·have r:lb=bK:=by
    by_cases e:lb=bK
    ·exact e
    ·rw [jB.2 e] at r; cases r
   rw [if_pos r] at hil;exact bh (cs:=[(false,[.int .i64])]) (((ju lb tg).length:Int),()) rfl (by rw [show (sl.l:Int)=((ju lb tg).length:Int) by omega]; rfl) ⟨rfl,rfl⟩
 rintro ⟨n36,⟨⟩⟩ h2 ⟨e2,hn36⟩;simp only at hn36;have e2:=e2.symm;subst e2;subst hn36;dsimp only [flat,aA,ai,List.nil_append,List.cons_append];refine an rfl ?_;rw [ao];refine ad s.a.box (((w.text.length+w.data.length:Nat):Int),()) rfl ?_;dsimp only [flat,aA,ai,List.nil_append,List.cons_append];have hi1:(ju lb tg).length≤2^20+1:=by rw [hil]; split <;> omega
 rw [wrap_i64 (by omega) (by omega)];refine af (fun r=>?_) (fun r=>?_)
 ·have r:=of_decide_eq_true r;unfold pI;simp only;rw [if_neg nd,if_pos (by omega)];exact ⟨rfl,by decide,ext⟩
 have nm:=of_decide_eq_false r;have hres:pI w n lb (.ok tg)=.ok (ik w n lb tg):=by
  unfold pI;simp only;rw [if_neg nd,if_neg (by omega)]
 rw [hres];refine dt (cs:=[]) (fun _ h'=>∃ t d ut ud ow,K0 qq h h' b A gm x y (eC w lb) lb opn pA lA cA tg t d e q sl se ut ud us ue ow) ?_ ?_
 ·refine ad s.bx (lb,()) rfl ?_;dsimp only [flat,aA,ai,List.nil_append,List.cons_append];refine af (fun r=>?_) (fun r=>?_)
  ·have r:=jB.1 r;have hlw:eC w lb=jq { w with names:=w.names++[lb] } [tU lb]:=if_neg r;refine an rfl ?_;rw [ao];refine ad s.a.box (some gm,()) rfl ?_;dsimp only [flat,aA,ai,List.nil_append,List.cons_append];refine ad s.bx (lb,()) rfl ?_;dsimp only [flat,aA,ai,List.nil_append,List.cons_append];refine Ez s.a.names (by have:=rC (hlab r); unfold maxLen; omega) ?_;intro h3 m3 k3 z3;have og:=s.a.og;have w3:∀ i,i∈[gm]→i<h1.size→b≤i→ow i=7:=fun i hi _ _=>by have hi:=List.mem_singleton.1 hi; subst hi; exact og
   have nA:A∉[gm]:=fun hm=>by have hm:=List.mem_singleton.1 hm; have:=s.a.oA; rw [hm] at this; omega
   have nx:x∉[gm]:=fun hm=>by have hm:=List.mem_singleton.1 hm; have:=s.ox; rw [hm] at this; omega
   have ny:y∉[gm]:=fun hm=>by have hm:=List.mem_singleton.1 hm; have:=s.oy; rw [hm] at this; omega
   have a3:cX h3 b A gm { w with names:=w.names++[lb] } t d e q ut ud ue ow :=
    ⟨s.a.core.ah k3 (fun i h1 h2 h3=>by have:=w3 i h1 h2 h3; omega),s.a.box.ah k3 nA,m3.congr (zO w.names lb),SL.cm s.a.aF k3 s.a.oq (fun i h1 h2 h3=>by have:=w3 i h1 h2 h3; omega),s.a.oA,s.a.og,s.a.oq,s.a.bA,s.a.bg⟩
   have bx3:=s.bx.ah k3 nx;have by3:=s.v8.ah k3 ny;have o3:=s.o.ah k3 (fun i h1 h2 h3=>by have:=w3 i h1 h2 h3; omega);have ab3:Ab b qq ow h h3:=s.ab.step k3 (fun i hi _=>by have hi:=List.mem_singleton.1 hi; subst hi; exact ⟨s.a.bg,by omega⟩) (fun _ _=>rfl);refine an rfl ?_;rw [ao];refine ad a3.box ((w.sec:Int),()) rfl ?_;dsimp only [flat,aA,ai,List.nil_append,List.cons_append];refine ad bx3 (lb,()) rfl ?_;dsimp only [flat,aA,ai,List.nil_append,List.cons_append];refine jE (p:=none) (l:=0) (c:=0) (x:=tU lb) ?_;intro h4 s4 e4 z4;have rl:∀ i,i<h3.size→dC h3.size 9 ow i=ow i:=fun i hi=>cb hi
   have a4:=(a3.relabel rl).ah e4 (by simp);have bx4:=bx3.ah e4 (by simp);have by4:=by3.ah e4 (by simp);have o4:=(o3.relabel rl).ah e4 (by simp);have ab4:=ab3.yW e4 rl;have ox4:=(rl x bx3.lt).trans s.ox;have oy4:=(rl y by3.lt).trans s.oy;have sz4:=e4.size;have zb3:=ab3.size;refine ⟨⟨bx4.cells _ rfl,a4.box.cells _ rfl,trivial⟩,?_⟩;refine aC (Eg a4 (by omega) hsec (s:=⟨some ⟨h3.size,0,none⟩,1,1⟩) (us:=[(⟨none,0,0⟩,tU lb)]) s4 (fun u hu=>by have hu:=List.mem_singleton.1 hu; subst hu; exact SL.nil _ _ _ _) (fun u hu i hi=>by have hu:=List.mem_singleton.1 hu; subst hu; simp [ay] at hi) (by show w.text.length+w.data.length+1≤_; omega)) ?_;rintro _ h5 ⟨rfl,t',d',ut',ud',ow',a5,ho5,ws,k5,hw5⟩;refine ⟨(),rfl,?_⟩;dsimp only [flat,aA,ai,List.nil_append,List.cons_append];have nx5:x∉ws:=fun hm=>by have:=(hw5 x hm bx4.lt).2; omega
   have ny5:y∉ws:=fun hm=>by have:=(hw5 y hm by4.lt).2; omega
   have bx5:=bx4.ah k5 nx5;refine ⟨⟨bx5.cells _ rfl,trivial⟩,?_⟩;refine bh (cs:=[]) () rfl rfl ⟨t',d',ut',ud',ow',?_,bx5,by4.ah k5 ny5,o4.LP k5 (fun i h1 h2 _=>by have:=(hw5 i h1 h2).2; omega) ho5,(ho5 x bx4.lt).trans ox4,(ho5 y by4.lt).trans oy4,ab4.step k5 (fun i h1 h2=>⟨(hw5 i h1 h2).1,by have:=(hw5 i h1 h2).2; omega⟩) ho5⟩;rw [hlw];exact a5
  ·have r:lb=bK:=by
    by_cases e:lb=bK
    ·exact e
    ·rw [jB.2 e] at r; cases r
   have hlw:eC w lb=w:=if_pos r;exact bh (cs:=[]) () rfl rfl ⟨t,d,ut,ud,ow,by rw [hlw]; exact s⟩
 rintro ⟨⟩ h3 ⟨t,d,ut,ud,ow,s3⟩;dsimp only [flat,aA,ai,List.nil_append,List.cons_append];have hb3:=s3.size hb;have hs3:=EM w lb;have hl3:=Gl w lb;have he3:=C8 w lb;have hg3:=Bc w lb;refine an rfl ?_;rw [ao];refine ad s3.a.box (((eC w lb).sec:Int),()) rfl ?_;dsimp only [flat,aA,ai,List.nil_append,List.cons_append];refine ad s3.v8 ((sl.p,sl.l,sl.c),()) rfl ?_;dsimp only [flat,aA,ai,List.nil_append,List.cons_append];refine aC (Eg s3.a hb3 (by omega) s3.o.rf s3.o.own s3.o.ou (by omega)) ?_;rintro _ h4 ⟨rfl,t',d',ut',ud',ow',a4,ho4,ws,k4,hw4⟩;refine ⟨(),rfl,?_⟩;dsimp only [flat,aA,ai,List.nil_append,List.cons_append];rw [s3.o.eq] at a4;have ny4:y∉ws:=fun hm=>by have:=(hw4 y hm s3.v8.lt).2; have:=s3.oy; omega
 have by4:=s3.v8.ah k4 ny4;have oy4:ow' y=9:=(ho4 y s3.v8.lt).trans s3.oy;have E4:SL h4 b 109 2 se.p se.l se.c (tg.e.aw.map cJ):=SL.cm s3.o.e k4 s3.o.oe (fun i h1 h2 _=>by have:=(hw4 i h1 h2).2; omega);have oe4:∀ i,i∈ay se.p→ow' i=0:=fun i hi=>(ho4 i (Sx.SL.bN s3.o.e hi).2).trans (s3.o.oe i hi)
 have ab4:=s3.ab.step k4 (fun i h1 h2=>⟨(hw4 i h1 h2).1,by have:=(hw4 i h1 h2).2; omega⟩) ho4;have hb4:b≤h4.size:=Nat.le_trans hb ab4.size;have el4:=a4.el;have ql4:=a4.ql;have ee4:(jq (eC w lb) tg.items).aZ=w.aZ:=he3;have gg4:(jq (eC w lb) tg.items).aF=w.aF:=hg3;rw [ee4] at el4;rw [gg4] at ql4;clear s3 k4 hw4 ho4 s;refine dt (cs:=[]) (fun _ h'=>∃ t d e q ut ud ue ow,cX h' b A gm (ik w n lb tg) t d e q ut ud ue ow∧Ab b qq ow h h') ?_ ?_
 ·refine ad by4 ((tg.kind:Int),()) rfl ?_;dsimp only [flat,aA,ai,List.nil_append,List.cons_append];refine af (fun r=>?_) (fun r=>?_)
  ·have r:tg.kind=3:=by have:=eq_of_beq r; omega
   have heq:tf tg=tg.name:=if_pos r;rw [heq];refine an rfl ?_;rw [ao];refine ad a4.box (some gm,()) rfl ?_;dsimp only [flat,aA,ai,List.nil_append,List.cons_append];refine Ez a4.names (by have:=rC (okn r); unfold maxLen; omega) ?_;intro h5 m5 k5 z5;have og:=a4.og;have w5:∀ i,i∈[gm]→i<h4.size→b≤i→ow' i=7:=fun i hi _ _=>by have hi:=List.mem_singleton.1 hi; subst hi; exact og
   have nA:A∉[gm]:=fun hm=>by have hm:=List.mem_singleton.1 hm; have:=a4.oA; rw [hm] at this; omega
   have ny:y∉[gm]:=fun hm=>by have hm:=List.mem_singleton.1 hm; rw [hm] at oy4; omega
   have C5:=a4.core.ah k5 (fun i h1 h2 h3=>by have:=w5 i h1 h2 h3; omega);have B5:=a4.box.ah k5 nA;have M5:oc h5 gm ((eC w lb).names++[tg.name]):=m5.congr (zO _ _);have G5:=SL.cm a4.aF k5 a4.oq (fun i h1 h2 h3=>by have:=w5 i h1 h2 h3; omega);have by5:=by4.ah k5 ny;have E5:=SL.cm E4 k5 oe4 (fun i h1 h2 h3=>by have:=w5 i h1 h2 h3; omega);have ab5:Ab b qq ow' h h5:=ab4.step k5 (fun i hi _=>by have hi:=List.mem_singleton.1 hi; subst hi; exact ⟨a4.bg,by omega⟩) (fun _ _=>rfl);have hb5:b≤h5.size:=Nat.le_trans hb ab5.size;refine an rfl ?_;rw [ao];refine ad B5 ((e.p,e.l,e.c),()) rfl ?_;dsimp only [flat,aA,ai,List.nil_append,List.cons_append];rw [ao];refine ad by5 (tg.name,()) rfl ?_;dsimp only [flat,aA,ai,List.nil_append,List.cons_append];rw [ao];refine ad by5 ((se.p,se.l,se.c),(tg.e.num:Int),()) rfl ?_;dsimp only [flat,aA,ai,List.nil_append,List.cons_append];refine C5.yq (s:=se) (x:=(tg.name,tg.e)) hb5 E5 oe4 (by omega) (fun h' x=>⟨(by5.ah x (by simp)).cells _ rfl,(by5.ah x (by simp)).cells _ rfl,(B5.ah x (by simp)).cells _ rfl,trivial⟩) ?_;intro e' h6 C6 k6 l6;have w6:∀ i,i∈ay e.p→ow' i=5:=C5.o5
   have nA6:A∉ay e.p:=fun hm=>by have:=w6 A hm; have:=a4.oA; omega
   have ny6:y∉ay e.p:=fun hm=>by have:=w6 y hm; omega
   have ng6:gm∉ay e.p:=fun hm=>by have:=w6 gm hm; omega
   have by6:=by5.ah k6 ny6;have rl:∀ i,i<h5.size→dC h5.size 5 ow' i=ow' i:=fun i hi=>cb hi
   refine ⟨⟨by6.cells _ rfl,by6.cells _ rfl,trivial⟩,?_⟩;refine an rfl ?_;rw [ao];refine ak (B5.ah k6 nA6) rfl (by simp [kd]) ?_;intro h7 b7 k7 z7;have oA7:dC h5.size 5 ow' A=6:=(rl A B5.lt).trans a4.oA;have og7:dC h5.size 5 ow' gm=7:=(rl gm M5.lt).trans og;have oq7:∀ i,i∈ay q.p→dC h5.size 5 ow' i=8:=fun i hi=>(rl i (Sx.SL.bN G5 hi).2).trans (a4.oq i hi)
   have w7:∀ i,i∈[A]→dC h5.size 5 ow' i=6:=fun i hi=>by have hi:=List.mem_singleton.1 hi; subst hi; exact oA7
   have ng7:gm∉[A]:=fun hm=>by have:=w7 gm hm; omega
   refine bh (cs:=[]) () rfl rfl ⟨t',d',e',q,ut',ud',ue++[(se,(tg.name,tg.e))],dC h5.size 5 ow',?_,(ab5.step k6 (fun i hi _=>⟨(Sx.SL.bN C5.e1 hi).1,by have:=w6 i hi; omega⟩) rl).step k7 (fun i hi _=>⟨by have hi:=List.mem_singleton.1 hi; subst hi; exact a4.bA,by have:=w7 i hi; omega⟩) (fun _ _=>rfl)⟩;rw [tB,if_pos r,if_pos r,if_neg (by omega),if_neg (by omega)];have b7:aN h7 A 73 (kd t' d' ⟨e'.p,e'.l,e'.c⟩ ((eC w lb).sec:Int) (((jq (eC w lb) tg.items).text.length+(jq (eC w lb) tg.items).data.length:Nat):Int) gm q):=b7;refine ⟨C6.ah k7 (fun i hi _ _=>by have:=w7 i hi; omega),b7,(M5.ah k6 ng6).ah k7 ng7,?_,oA7,og7,oq7,a4.bA,a4.bg⟩;refine Sx.SL.aS (Sx.SL.aS G5 k6 (fun i hi hm=>?_)) k7 (fun i hi hm=>?_)
   ·have:=w6 i hm; have:=a4.oq i hi; omega
   ·have:=w7 i hm; have:=oq7 i hi; omega
  have r3:¬ tg.kind=3:=fun e=>by rw [e] at r; simp at r
  refine af (fun r=>?_) (fun r=>?_)
  ·have r:tg.kind=4:=by have:=eq_of_beq r; omega
   refine an rfl ?_;rw [ao];refine ad a4.box ((q.p,q.l,q.c),()) rfl ?_;dsimp only [flat,aA,ai,List.nil_append,List.cons_append];rw [ao];refine ad by4 (tg.name,()) rfl ?_;dsimp only [flat,aA,ai,List.nil_append,List.cons_append];refine yy (z:=.agg #[.string ⟨#[]⟩,.int .i64 (0:Int)]) K3 Ld rfl (by omega) (by omega) (JI tg.name n) rfl rfl a4.aF hb4 (by omega) (by omega) (fun h' x=>⟨(by4.ah x (by simp)).cells _ rfl,(a4.box.ah x (by simp)).cells _ rfl,trivial⟩) ?_;intro p' c' h5 s5 k5 hp5;have w5:∀ i,i∈ay q.p→ow' i=8:=a4.oq
   have nA5:A∉ay q.p:=fun hm=>by have:=w5 A hm; have:=a4.oA; omega
   have ny5:y∉ay q.p:=fun hm=>by have:=w5 y hm; omega
   have ng5:gm∉ay q.p:=fun hm=>by have:=w5 gm hm; have:=a4.og; omega
   have by5:=by4.ah k5 ny5;have rl:∀ i,i<h4.size→dC h4.size 8 ow' i=ow' i:=fun i hi=>cb hi
   refine ⟨⟨by5.cells _ rfl,trivial⟩,?_⟩;refine an rfl ?_;rw [ao];refine ak (a4.box.ah k5 nA5) rfl (by simp [kd]) ?_;intro h6 b6 k6 z6;have oA6:dC h4.size 8 ow' A=6:=(rl A a4.box.lt).trans a4.oA;have og6:dC h4.size 8 ow' gm=7:=(rl gm a4.names.lt).trans a4.og;have oq6:∀ i,i∈ay p'→dC h4.size 8 ow' i=8:=tE a4.oq (fun i hi=>(Sx.SL.bN a4.aF hi).2) hp5
   have w6:∀ i,i∈[A]→dC h4.size 8 ow' i=6:=fun i hi=>by have hi:=List.mem_singleton.1 hi; subst hi; exact oA6
   have ng6:gm∉[A]:=fun hm=>by have:=w6 gm hm; omega
   have C5:=(a4.core.relabel rl).ah k5 (fun i hi h1 _=>by rw [rl i h1]; have:=w5 i hi; omega);refine bh (cs:=[]) () rfl rfl ⟨t',d',e,⟨p',q.l+1,c'⟩,ut',ud',ue,dC h4.size 8 ow',?_,(ab4.step k5 (fun i hi _=>⟨(Sx.SL.bN a4.aF hi).1,by have:=w5 i hi; omega⟩) rl).step k6 (fun i hi _=>⟨by have hi:=List.mem_singleton.1 hi; subst hi; exact a4.bA,by have:=w6 i hi; omega⟩) (fun _ _=>rfl)⟩;rw [tB,if_neg r3,if_neg r3,if_pos r,if_neg (by omega)];have b6:aN h6 A 73 (kd t' d' e ((eC w lb).sec:Int) (((jq (eC w lb) tg.items).text.length+(jq (eC w lb) tg.items).data.length:Nat):Int) gm ⟨p',q.l+1,c'⟩):=b6;refine ⟨C5.ah k6 (fun i hi _ _=>by have:=w6 i hi; omega),b6,(a4.names.ah k5 ng5).ah k6 ng6,?_,oA6,og6,oq6,a4.bA,a4.bg⟩;refine Sx.SL.aS (by rw [List.map_append]; exact s5) k6 (fun i hi hm=>?_)
   have:=w6 i hm; have:=oq6 i hi; omega
  have r4:¬ tg.kind=4:=fun e=>by rw [e] at r; simp at r
  refine af (fun r=>?_) (fun r=>?_)
  ·have r:tg.kind=5:=by have:=eq_of_beq r; omega
   rw [ao];refine ad by4 ((tg.sec:Int),()) rfl ?_;dsimp only [flat,aA,ai,List.nil_append,List.cons_append];refine an rfl ?_;rw [ao];refine ak a4.box rfl (by simp [kd]) ?_;intro h5 b5 k5 z5;have w5:∀ i,i∈[A]→ow' i=6:=fun i hi=>by have hi:=List.mem_singleton.1 hi; subst hi; exact a4.oA
   have ng5:gm∉[A]:=fun hm=>by have:=w5 gm hm; have:=a4.og; omega
   refine bh (cs:=[]) () rfl rfl ⟨t',d',e,q,ut',ud',ue,ow',?_,ab4.step k5 (fun i hi _=>⟨by have hi:=List.mem_singleton.1 hi; subst hi; exact a4.bA,by have:=w5 i hi; omega⟩) (fun _ _=>rfl)⟩;rw [tB,if_neg r3,if_neg r3,if_neg r4,if_pos r];have b5:aN h5 A 73 (kd t' d' e (tg.sec:Int) (((jq (eC w lb) tg.items).text.length+(jq (eC w lb) tg.items).data.length:Nat):Int) gm q):=b5;exact ⟨a4.core.ah k5 (fun i hi _ _=>by have:=w5 i hi; omega),b5,a4.names.ah k5 ng5,SL.cm a4.aF k5 a4.oq (fun i hi _ _=>by have:=w5 i hi; omega),a4.oA,a4.og,a4.oq,a4.bA,a4.bg⟩
  have r5:¬ tg.kind=5:=fun e=>by rw [e] at r; simp at r
  refine bh (cs:=[]) () rfl rfl ⟨t',d',e,q,ut',ud',ue,ow',?_,ab4⟩;rw [tB,if_neg r3,if_neg r3,if_neg r4,if_neg r5];exact ⟨a4.core,a4.box,a4.names,a4.aF,a4.oA,a4.og,a4.oq,a4.bA,a4.bg⟩
 rintro ⟨⟩ h5 a5;exact ⟨rfl,a5⟩
theorem Fe (w:dX) (n:Nat) (s:ByteArray):dH w n s=if (aJ s).2.2≠0 then .error (aJ s).2.2 else if (aJ s).1.label≠bK∧bf (aJ s).1.label.data.toList=false then .error 21 else pI w n (aJ s).1.label (dy (aJ s).1 (decide (w.sec=1))):=by
 unfold dH pI;split
 ·rfl
 split
 ·rfl
 all_goals (cases dy (aJ s).1 (decide (w.sec=1)) <;> rfl)
theorem p9 (n:Nat) (lb:ByteArray):∀ (ts:List Tok),(bM n lb ts).1.label=lb∨(bM n lb ts).1.label=bK
 | []=>.inl rfl
 | t::ts=>by
  simp only [bM];split
  ·exact .inr rfl
  ·cases eO n ts with
   | error a=>exact .inr rfl
   | ok l=>exact .inl rfl
theorem A5 (s:ByteArray):(aJ s).1.label.size≤s.size:=by
 have z:bK.size≤s.size:=Nat.zero_le _;unfold aJ;split
 ·exact z
 ·unfold eH;split
  ·rcases p9 s.size (((ef s).1.head?.map (·.text)).getD ⟨#[]⟩) ((ef s).1.drop 2) with e | e
   ·rw [e];cases hq:(ef s).1 with
    | nil=>exact z
    | cons t r=>exact xI s t (by rw [hq]; simp)
   ·rw [e]; exact z
  ·rcases p9 s.size ⟨#[]⟩ (ef s).1 with e | e
   ·rw [e]; exact z
   ·rw [e]; exact z
theorem HE (n:Nat):decide ((n:Int)=1)=decide (n=1):=by
 by_cases h:n=1
 ·subst h; rfl
 ·rw [decide_eq_false h,decide_eq_false (by omega)]
theorem zh {h h':Hp} {e:Nat} {u:Value} (q:D6 h (.error e) u h'):u=.tuple #[.agg zT.toArray,.int .i64 (e:Int)]∧e≠0:=q.2
theorem CF {h h':Hp} {t:jW} {u:Value} (q:D6 h (.ok t) u h'):∃ sl us se,u=.tuple #[I1 t.kind sl t.name se t.e.num t.sec,.int .i64 0]∧gV h' h.size t sl us se:=q.2
set_option maxHeartbeats 4000000 in
theorem Ht {h:Hp} (tb:lZ h) (ld:Laid h) {b A gm:Nat} {w:dX} {t d e q:bI} {ut ud:List (bI × bw)} {ue:List (bI × nh)} {ow:Nat→Nat} (a:cX h b A gm w t d e q ut ud ue ow) (hb:b≤h.size) (W:AT w) (hE:w.aZ.length≤2^20) (hG:w.aF.length≤2^20) {n:Nat} (hn:n≤2^20) (s:ByteArray) (hs:s.size≤2^18) {qq:Nat→Prop} (qs:∀ i,qq i→i<h.size) (qo:∀ i,qq i→ow i=9) :
  HC Tryz.prog 33 #[.pointer (some ⟨A,0,none⟩),.int .i64 (n:Int),.string s] h (IQ b A gm qq h (dH w n s)):=by
 refine aI (args:=[.pointer (some ⟨A,0,none⟩),.int .i64 (n:Int),.string s]) mixed Tryz.func33 (by kernel_rfl) (js (some ⟨A,0,none⟩) n s) ?_;unfold fF;refine aC (EW s h (by omega) ld) ?_;rintro _ h1 ⟨e1,p,c,al,rfl,Ar,ha⟩;refine ⟨((aJ s).1.label,(aJ s).1.op,(p,al.length,c),((aJ s).2.1:Int),((aJ s).2.2:Int),()),rfl,?_⟩;dsimp only [flat,aA,ai,nA,cA];refine aT ?_;intro h2 b2 e2 z2;refine ak b2 rfl (by simp) ?_;intro h3 b3 k3 z3;have b3:aN h3 h1.size 130 [.string (aJ s).1.label,.string (aJ s).1.op,.slice p al.length c]:=b3;have e13:Ext h1 h3:=Ch.trans e2 k3 (fun i hi hl=>by simp at hi; omega);have e03:=e1.trans e13;rw [Fe];refine af (fun r=>?_) (fun r=>?_)
 ·have r:(aJ s).2.2≠0:=by simpa using r
  rw [if_pos r];exact ⟨rfl,r,e03⟩
 have r:¬ (aJ s).2.2≠0:=by simpa using r
 rw [if_neg r];refine dt (cs:=[(false,[.bool])]) (fun z h'=>h'=h3∧z.1=decide ((aJ s).1.label≠bK∧bf (aJ s).1.label.data.toList=false)) ?_ ?_
 ·refine ad b3 ((aJ s).1.label,()) rfl ?_;dsimp only [flat,aA,ai,nA,cA];refine af (fun q=>?_) (fun q=>?_)
  ·have q:=jB.1 q;refine ad b3 ((aJ s).1.label,()) rfl ?_;dsimp only [flat,aA,ai,nA,cA];have hl:(aJ s).1.label.size≤9223372036854775807:=by
    have:=A5 s
    omega
   refine aD (j2 _ _ hl) ?_;refine bh (cs:=[(false,[.bool])]) (_,()) rfl rfl ⟨rfl,?_⟩;cases hh:bf (aJ s).1.label.data.toList with
   | true=>exact (decide_eq_false (by simp)).symm
   | false=>exact (decide_eq_true ⟨q,rfl⟩).symm
  ·refine bh (cs:=[(false,[.bool])]) (false,()) rfl rfl ⟨rfl,(decide_eq_false ?_).symm⟩;rintro ⟨q1,_⟩;rw [jB.2 q1] at q;cases q
 rintro ⟨b11,⟨⟩⟩ h9 ⟨e9,hb11⟩;simp only at hb11;have e9:=e9.symm;subst e9;subst hb11;dsimp only [flat,aA,ai,nA,cA];refine af (fun q=>?_) (fun q=>?_)
 ·rw [if_pos (of_decide_eq_true q)];exact ⟨rfl,by decide,e03⟩
 have q:=of_decide_eq_false q;rw [if_neg q];have hlab:(aJ s).1.label≠bK→bf (aJ s).1.label.data.toList=true:=fun g=>by
  cases hh:bf (aJ s).1.label.data.toList with
  | true=>rfl
  | false=>exact absurd ⟨g,hh⟩ q
 clear q;have z03:=e03.size;have z01:=e1.size;have a3:=(a.relabel (ow':=dC h.size 9 ow) (fun i hi=>cb hi)).ah e03 (by simp);have ox3:dC h.size 9 ow h1.size=9:=tv z01;have Ar3:=(Ar.mono (Nat.le_refl _)).ah e13 (by simp) (by simp);obtain ⟨v,hal⟩:=CC.parse s (by omega) Ar3 ha;have tb3:=tb.ah e03 (by simp);have hln:(aJ s).1=⟨(aJ s).1.label,(aJ s).1.op,al.map In.ts⟩:=by rw [ha]
 have facts:=gJ s (by omega);have hok:∀ tg,dy (aJ s).1 (decide (w.sec=1))=.ok tg→ke tg (decide (w.sec=1))∧tg.items.length≤2^20:=fun tg hr =>
  ⟨sj (fun a ha=>(facts a ha).1) hr,(yX (n:=2^20) (by omega) (fun a ha=>⟨(facts a ha).1,by have:=(eA s).1 a ha; omega⟩) (by have:=(eA s).2; omega) hr).many⟩
 have hrd:dy ⟨(aJ s).1.label,(aJ s).1.op,al.map In.ts⟩ (decide ((w.sec:Int)=1))=dy (aJ s).1 (decide (w.sec=1)):=by rw [HE,← hln]
 refine ad b3 ((aJ s).1.label,(aJ s).1.op,(p,al.length,c),()) rfl ?_;dsimp only [flat,aA,ai,nA,cA];refine an rfl ?_;rw [ao];refine ad a3.box ((w.sec:Int),()) rfl ?_;dsimp only [flat,aA,ai,nA,cA];generalize hrr:dy (aJ s).1 (decide (w.sec=1))=rr at *;have tail:∀ {h4 h6:Hp} {y:Nat} {u:Value},Ext h3 h4→h4.size=h4.size→True:=fun _ _=>trivial
 refine ⟨?_,?_,trivial⟩
 ·refine aC (Cr tb3 v hal (w.sec:Int)) ?_;rintro u h4 qq;rw [hrd] at qq;have e4:=qq.1;have e04:=e03.trans e4;cases rr with
  | error er =>
   obtain ⟨rfl,hne⟩:=zh qq;refine ⟨((0:Int),(none,0,0),bK,(none,0,0),(0:Int),(0:Int),(er:Int),()),rfl,?_⟩;dsimp only [flat,aA,ai,nA,cA];refine aT ?_;intro h5 b5 e5 z5;have e35:=e4.trans e5;refine ⟨⟨(a3.box.ah e35 (by simp)).cells _ rfl,(b3.ah e35 (by simp)).cells _ rfl,trivial⟩,?_⟩;refine ak b5 rfl (by simp) ?_;intro h6 b6 k6 z6;refine aX (by simp; omega) ?_;exact ⟨rfl,hne,Ch.trans (e04.trans e5) k6 (fun i hi hl=>by have:=e04.size; simp at hi; omega)⟩
  | ok tg =>
   obtain ⟨sl,us,se,rfl,At⟩:=CF qq;obtain ⟨ok,sz⟩:=hok tg rfl;refine ⟨((tg.kind:Int),(sl.p,sl.l,sl.c),tg.name,(se.p,se.l,se.c),(tg.e.num:Int),(tg.sec:Int),(0:Int),()),rfl,?_⟩;dsimp only [flat,aA,ai,nA,cA];refine aT ?_;intro h5 b5 e5 z5;have e35:=e4.trans e5;refine ⟨⟨(a3.box.ah e35 (by simp)).cells _ rfl,(b3.ah e35 (by simp)).cells _ rfl,trivial⟩,?_⟩;refine ak b5 rfl (by simp) ?_;intro h6 b6 k6 z6;have b6:aN h6 h4.size 134 (qK tg.kind sl.p sl.l sl.c tg.name se.p se.l se.c tg.e.num tg.sec):=b6;have z34:=e4.size;have e46:Ext h4 h6:=Ch.trans e5 k6 (fun i hi hl=>by simp at hi; omega);have e36:=e4.trans e46;have At6:=At.ah e46 (by simp);obtain ⟨ow1,ho1,O⟩:=nY.of (b:=b) At6 (by omega) (dC h.size 9 ow);have rl:∀ i,i<h3.size→dC h4.size 9 ow1 i=dC h.size 9 ow i:=fun i hi=>(cb (by omega)).trans (ho1 i hi)
   have O6:nY h6 b tg sl us se (dC h4.size 9 ow1):=⟨O.rf,O.own,O.eq,O.e,fun i hi=>(cb (Sx.SL.bN At.rf.out hi).2).trans (O.o9 i hi),fun u hu i hi=>(cb (Sx.SL.bN (At.rf.own u hu) hi).2).trans (O.ou u hu i hi),fun i hi=>(cb (Sx.SL.bN At.e hi).2).trans (O.oe i hi)⟩
   exact rU hb (e03.trans e36) W hE hG hn ⟨(a3.relabel rl).ah e36 (by simp),b3.ah e36 (by simp),b6,O6,(rl h1.size b3.lt).trans ox3,tv (Nat.le_refl _),Ab.FX (e03.trans e36) qs (fun i hi=>(rl i (by have:=qs i hi; omega)).trans ((cb (qs i hi)).trans (qo i hi)))⟩ hlab ok sz
 ·refine aT ?_;intro h5 b5 e5 z5;have e05:=e03.trans e5;refine ⟨⟨(a3.box.ah e5 (by simp)).cells _ rfl,(b3.ah e5 (by simp)).cells _ rfl,trivial⟩,?_⟩;refine aC (Cr (tb3.ah e5 (by simp)) (v.ah e5) hal (w.sec:Int)) ?_;rintro u h4 qq;rw [hrd] at qq;have e4:=qq.1;have e04:=e05.trans e4;have b54:=b5.ah e4 (by simp);cases rr with
  | error er =>
   obtain ⟨rfl,hne⟩:=zh qq;refine ⟨((0:Int),(none,0,0),bK,(none,0,0),(0:Int),(0:Int),(er:Int),()),rfl,?_⟩;dsimp only [flat,aA,ai,nA,cA];refine ak b54 rfl (by simp) ?_;intro h6 b6 k6 z6;refine aX (by simp; omega) ?_;exact ⟨rfl,hne,Ch.trans e04 k6 (fun i hi hl=>by simp at hi; omega)⟩
  | ok tg =>
   obtain ⟨sl,us,se,rfl,At⟩:=CF qq;obtain ⟨ok,sz⟩:=hok tg rfl;refine ⟨((tg.kind:Int),(sl.p,sl.l,sl.c),tg.name,(se.p,se.l,se.c),(tg.e.num:Int),(tg.sec:Int),(0:Int),()),rfl,?_⟩;dsimp only [flat,aA,ai,nA,cA];refine ak b54 rfl (by simp) ?_;intro h6 b6 k6 z6;have b6:aN h6 h3.size 134 (qK tg.kind sl.p sl.l sl.c tg.name se.p se.l se.c tg.e.num tg.sec):=b6;have z54:=e4.size;have e36:Ext h3 h6:=Ch.trans (e5.trans e4) k6 (fun i hi hl=>by simp at hi; omega);have At6:=At.ah k6 (fun i hi _=>by simp at hi; omega);obtain ⟨ow1,ho1,O6⟩:=nY.of (b:=b) At6 (by omega) (dC h.size 9 ow);exact rU hb (e03.trans e36) W hE hG hn ⟨(a3.relabel (ow':=ow1) (fun i hi=>ho1 i (by omega))).ah e36 (by simp),b3.ah e36 (by simp),b6,O6,(ho1 h1.size (by have:=b3.lt; omega)).trans ox3,(ho1 h3.size (by omega)).trans (tv (by omega)),Ab.FX (e03.trans e36) qs (fun i hi=>(ho1 i (by have:=qs i hi; omega)).trans ((cb (qs i hi)).trans (qo i hi)))⟩ hlab ok sz
def Lv (t d e:bI) (sec:Int) (N G Li:bI):List Value:=[t.v,d.v,e.v,.slice none 0 0,.int .i64 sec,N.v,G.v,Li.v]
def KL (n:Nat):List Value:=[.int .i64 (n:Int)]
structure rS (h:Hp) (b B:Nat) (w:dX) (t d e N G Li:bI) (ut ud:List (bI × bw)) (ue:List (bI × nh)) (ow:Nat→Nat):Prop where
 core:Core h b w.text w.data w.aZ t d e ut ud ue ow
 box:aN h B 142 (Lv t d e (w.sec:Int) N G Li)
 names:SN h b N.p N.l N.c w.names
 aF:SN h b G.p G.l G.c (w.aF.map (·.1))
 lines:SL h b 3 1 Li.p Li.l Li.c ((w.aF.map (·.2)).map KL)
 oB:ow B=6
 oN:∀ i,i∈ay N.p→ow i=7
 oG:∀ i,i∈ay G.p→ow i=8
 oL:∀ i,i∈ay Li.p→ow i=12
 bB:b≤B
section
variable {h h':Hp} {b B:Nat} {w:dX} {t d e N G Li:bI} {ut ud:List (bI × bw)} {ue:List (bI × nh)} {ow:Nat→Nat}
theorem rS.ah {ws:List Nat} (a:rS h b B w t d e N G Li ut ud ue ow) (k:Ch ws h h') (hw:∀ i,i∈ws→i<h.size→b≤i→ow i=9):rS h' b B w t d e N G Li ut ud ue ow:=by
 have n:∀ k0,k0≠9→∀ i,i∈ws→i<h.size→b≤i→ow i≠k0:=fun k0 hk i h1 h2 h3=>by have:=hw i h1 h2 h3; omega
 exact ⟨a.core.ah k (fun i h1 h2 h3=>by have:=hw i h1 h2 h3; omega),a.box.ah k (fun hm=>by have:=hw B hm a.box.lt a.bB; have:=a.oB; omega),SL.cm a.names k a.oN (n 7 (by omega)),SL.cm a.aF k a.oG (n 8 (by omega)),SL.cm a.lines k a.oL (n 12 (by omega)),a.oB,a.oN,a.oG,a.oL,a.bB⟩
theorem rS.dl (a:rS h b B w t d e N G Li ut ud ue ow):d.l=w.data.length:=by rw [a.core.d1.1,List.length_map,qg a.core.d3]
theorem rS.ll (a:rS h b B w t d e N G Li ut ud ue ow):Li.l=w.aF.length:=by rw [a.lines.1,List.length_map,List.length_map]
end
structure Lk (qq:Nat→Prop) (h0 h:Hp) (b B x y:Nat) (w:dX) (lb opn:ByteArray) (pA:Option Addr) (lA cA:Nat) (tg:jW) (t d e N G Li sl se:bI) (ut ud us:List (bI × bw)) (ue:List (bI × nh)) (ow:Nat→Nat):Prop where
 a:rS h b B w t d e N G Li ut ud ue ow
 bx:aN h x 191 [.string lb,.string opn,.slice pA lA cA]
 v8:aN h y 194 (qK tg.kind sl.p sl.l sl.c tg.name se.p se.l se.c tg.e.num tg.sec)
 o:nY h b tg sl us se ow
 ox:ow x=9
 oy:ow y=9
 ab:Ab b qq ow h0 h
theorem Lk.ext {qq:Nat→Prop} {h0 h h':Hp} {b B x y:Nat} {w:dX} {lb opn:ByteArray} {pA:Option Addr} {lA cA:Nat} {tg:jW} {t d e N G Li sl se:bI} {ut ud us:List (bI × bw)} {ue:List (bI × nh)} {ow:Nat→Nat} (s:Lk qq h0 h b B x y w lb opn pA lA cA tg t d e N G Li sl se ut ud us ue ow) (k:Ext h h') :
  Lk qq h0 h' b B x y w lb opn pA lA cA tg t d e N G Li sl se ut ud us ue ow :=
 ⟨s.a.ah k (by simp),s.bx.ah k (by simp),s.v8.ah k (by simp),s.o.ah k (by simp),s.ox,s.oy,s.ab.yW k (fun _ _=>rfl)⟩
set_option maxHeartbeats 4000000 in
theorem vY:∀ (l bS r:List UInt8),(∀ c,c∈l→nl c=true)→dw bS (l++10::r)=(bS++l)::dw [] r
 | [],bS,r,_=>by simp [mY]
 | c::l,bS,r,h=>by
  have hc:¬ c=10:=by simpa [nl] using h c (by simp)
  rw [List.cons_append,mY,if_neg hc,vY l (bS++[c]) r (fun x hx=>h x (by simp [hx]))]
  simp
theorem sI:∀ (l bS:List UInt8),(∀ c,c∈l→nl c=true)→dw bS l=if bS++l=[] then [] else [bS++l]
 | [],bS,_=>by simp [BV]
 | c::l,bS,h=>by
  have hc:¬ c=10:=by simpa [nl] using h c (by simp)
  rw [mY,if_neg hc,sI l (bS++[c]) (fun x hx=>h x (by simp [hx]))]
  simp
theorem zL:∀ (f:Nat) (s:List UInt8),s.length<f→aR f s=dw [] s
 | 0,s,h=>by omega
 | f+1,s,h=>by
  by_cases s0:s=[]
  ·subst s0; rfl
  rcases Cp s with hn | ⟨l,r,rfl,hl⟩
  ·rw [rX f s hn s0,sI s [] hn,List.nil_append,if_neg s0]
  ·simp only [List.length_append,List.length_cons] at h;rw [yx f l r hl,vY l [] r hl,zL f r (by omega)] <;> rfl
theorem ug (s:ByteArray):GZ s=cY s:=by
 refine (I3 ?_).symm;unfold cY;rw [List.map_map,zL _ _ (by simp)]
 have:∀ l:List (List UInt8),l.map ((fun x:ByteArray=>x.data.toList) ∘ fun l=>(⟨l.toArray⟩:ByteArray))=l:=fun l=>by
  induction l with
  | nil=>rfl
  | cons x l ih=>rw [List.map_cons,ih]; simp
 exact this _
/-! Faults,a line more. -/
theorem vW {w w':dX} {n:Nat} {s:ByteArray} (h:dH w n s=.ok w'):w'.aZ.length≤w.aZ.length+1∧w'.aF.length≤w.aF.length+1:=by
 unfold dH at h;split at h
 ·cases h
 split at h
 ·cases h
 split at h
 ·cases h
 split at h
 ·cases h
 split at h
 ·cases h
 injection h with h
 subst h;unfold ik;simp only;constructor
 ·split
  ·simp
  ·omega
 ·split
  ·simp
  ·omega
/-! Sizes. -/
structure KV (n:Nat) (w:dX):Prop where
 text:∀ x,x∈w.text→Bd n x
 data:∀ x,x∈w.data→Bd n x
 aZ:∀ x,x∈w.aZ→x.2.aw.length≤n
theorem FN {w w':dX} {n k:Nat} {s:ByteArray} (hs:s.size+1≤n) (hb:s.size≤2^20) (S:KV n w) (h:dH w k s=.ok w'):KV n w':=by
 unfold dH at h;split at h
 ·cases h
 split at h
 ·cases h
 split at h
 ·cases h
 rename_i t ht;split at h
 ·cases h
 split at h
 ·cases h
 injection h with h
 have f:=gJ s hb;have z:=yX (n:=n) (by omega) (fun a ha=>⟨(f a ha).1,by have:=(eA s).1 a ha; omega⟩) (by have:=(eA s).2; omega) ht;generalize (aJ s).1.label=lb at *;have hits:∀ x,x∈ju lb t→Bd n x:=by
  intro x hx;unfold ju at hx;rcases List.mem_append.1 hx with hx | hx
  ·split at hx
   ·simp at hx
   ·have:=List.mem_singleton.1 hx
    subst this;simp [Bd,tU,cK,dJ]
  ·exact z.item x hx
 subst h;refine ⟨?_,?_,?_⟩
 ·intro x hx;unfold ik at hx;simp only at hx;split at hx
  ·rcases List.mem_append.1 hx with hx | hx
   ·exact S.text x hx
   ·exact hits x hx
  ·exact S.text x hx
 ·intro x hx;unfold ik at hx;simp only at hx;split at hx
  ·exact S.data x hx
  ·rcases List.mem_append.1 hx with hx | hx
   ·exact S.data x hx
   ·exact hits x hx
 ·intro x hx;unfold ik at hx;simp only at hx;split at hx
  ·rcases List.mem_append.1 hx with hx | hx
   ·exact S.aZ x hx
   ·have:=List.mem_singleton.1 hx
    subst this;exact z.e
  ·exact S.aZ x hx
theorem CQ {n:Nat}:∀ (l:List ByteArray) (w w':dX) (k:Nat),(∀ s,s∈l→s.size+1≤n∧s.size≤2^20)→KV n w→dI w k l=.ok w'→KV n w'
 | [],w,w',k,_,S,h=>by
  simp only [dI] at h;injection h with h
  subst h;exact S
 | s::l,w,w',k,hs,S,h=>by
  simp only [dI] at h;split at h
  ·cases h
  ·rename_i w1 h1;exact CQ l w1 w' (k+1) (fun x hx=>hs x (by simp [hx])) (FN (hs s (by simp)).1 (hs s (by simp)).2 S h1) h
end Go.Sx.Ob
