/- Contracts over heaps, and plain laws, for the functions that the laws of chapter 9 call, part 9: ref9.Right over heaps: the number that the document gives a unit. What the laws  Condition: as each statement says. -/
import Derived.Test.YtfkjiiapldkoeaaGreatDoorP8
import Derived.Test.YtfkjiiapldkoeaaGreatDoorAtN
import Derived.Test.YtfkjiiapldkoeaaGreatDoorAtO
import Derived.Test.YtfkjiiapldkoeaaGreatDoorAtP
import Derived.HandedShaped
import Derived.Shelf.Vars
import Derived.Test.YtfkjiiapldkoeaaGreatDoorTie
import Derived.Test.YtfkjiiapldkoeaaGreatDoorCards
import Derived.SevenTiedAt
set_option linter.unusedVariables false
set_option linter.unusedSimpArgs false
set_option maxRecDepth 100000
namespace Go.Sx.Ob
open Go.Proofs
theorem MD {h:Hp} {p:Option Addr} {l:Nat} {x:ey} (v:kf h p l x):pI h p l x.au∧x.au.length≤9223372036854775807∧∀ t,t∈x.au→t.1.size≤maxLen:=⟨v.vw,by have:=v.many; omega,v.names⟩
def xq (D:List ByteArray):Prop:=∀ g,g∈D→bd g.data.toList=true
theorem xq.snoc {D E:List ByteArray} (h:xq D) (k:xq E):xq (D++E):=fun g hg=>(List.mem_append.1 hg).elim (h g) (k g)
theorem xq.item {x:bD} {sec:Nat} (r:bm x sec=true):xq (if x.kind=1 then [x.name] else []):=by
 intro g hg;split at hg
 ·rename_i r1;rw [List.mem_singleton.1 hg];rw [zw r1,Bool.and_eq_true] at r;exact r.1
 ·simp at hg
theorem Ey {h:Hp} {a b c d:bP} {u:fS} (v:gn h a b c d u):HC Tryz.prog 20 #[lh a b c d] h fun w h'=>w=.int .i64 (j0 u:Nat)∧Ext h h':=by
 refine aK (args:=[lh a b c d]) mixed Tryz.func20 (by kernel_rfl) (kG a.p a.l a.c b.p b.l b.c c.p c.l c.c d.p d.l d.c) ?_;unfold iy;refine aX ?_;intro g1 b1 e1 z1;have b1:aO g1 h.size 27 [a.v,b.v,c.v,d.v]:=b1;have m1:=v.text.many;have m2:=v.data.many;have m3:=v.aQ.many;have m4:=v.aF.many;have n1:=v.text.len;have n2:=v.data.len;have n3:=v.aQ.len;have n4:=v.aF.len;simp only [ao];refine ad b1 ((a.p,a.l,a.c),()) rfl ?_;dsimp only [flat,az,ah,nA,cA];refine ad b1 ((b.p,b.l,b.c),()) rfl ?_;dsimp only [flat,az,ah,nA,cA];rw [wrap_i64 (by omega) (by omega)];unfold j0 rG;refine af (fun q=>?_) (fun q=>?_)
 ·have q:=of_decide_eq_true q;exact ⟨by rw [decide_eq_true (show 8192<u.text.length+u.data.length by omega)]; rfl,e1⟩
 have q:=of_decide_eq_false q;rw [decide_eq_false (show ¬ 8192<u.text.length+u.data.length by omega),Bool.false_or];refine ad b1 ((c.p,c.l,c.c),()) rfl ?_;dsimp only [flat,az,ah,nA,cA];refine af (fun q=>?_) (fun q=>?_)
 ·have q:=of_decide_eq_true q;exact ⟨by rw [decide_eq_true (show 8192<u.aQ.length by omega)]; rfl,e1⟩
 have q:=of_decide_eq_false q;rw [decide_eq_false (show ¬ 8192<u.aQ.length by omega),if_neg (by simp),xW];generalize hU:wj u=U;unfold wj at hU;refine bh (cs:=[(false,[.int .i64]),(false,[.int .i64])]) (fun y w h'=>∃ i:Nat,y.2.1=(i:Int)∧w=u.text.length-i∧i≤u.text.length∧Ext h h'∧aO h' h.size 27 [a.v,b.v,c.v,d.v]∧xq (cB (u.text.take i))∧((u.text.drop i).all (fun x=>bm x 0) && (u.data.all (fun x=>bm x 1) && (u.aQ.all Bi && (decide (ft u).Nodup && cw (ft u) bI u.aF))))=U) ((0:Int),(0:Int),()) u.text.length rfl
  ⟨0,rfl,rfl,by omega,e1,b1,fun g hg=>by simp [cB] at hg,hU⟩ ?_
 clear hU;rintro ⟨n21,n22,⟨⟩⟩ w h2 ⟨i,hi,rfl,hle,e2,b2,hg1,hu⟩;simp only at hi;subst hi;dsimp only [flat,az,ah,nA,cA];refine ad b2 ((a.p,a.l,a.c),()) rfl ?_;dsimp only [flat,az,ah,nA,cA];refine af ?_ ?_
 case _ =>
  intro q;have q:=of_decide_eq_true q;have hil:i<u.text.length:=by omega
  refine ad b2 ((a.p,a.l,a.c),()) rfl ?_;dsimp only [flat,az,ah,nA,cA];obtain ⟨aa,pp,ll,cc,eX,hc,va⟩:=(v.text.ai e2).cells i hil;rw [oJ _ _ hil] at hu;have ht:=oY u.text i hil;generalize u.text[i]=x at hc va hu ht;refine ay ⟨by omega,by omega⟩ (aj eX ?_);rw [show Int.toNat (i:Int)=i by omega];refine aE (x.kind,x.name,x.inst.op,x.inst.a,x.inst.b,x.inst.n,x.inst.form,(pp,ll,cc),(x.e.num:Int),x.n,()) hc ?_;dsimp only [flat,az,ah,nA,cA];refine aB (y5 (c:=cc) (k:=0) va (by omega)) ?_;rintro _ h3 ⟨rfl,e3⟩;refine ⟨((if bm x 0 then 0 else 31:Int),()),rfl,?_⟩;dsimp only [flat,az,ah,nA,cA];cases hr:bm x 0 with
  | false =>
   refine aT (by simp) ?_;refine ⟨by rw [← hu,hr]; rfl,e2.trans e3⟩
  | true =>
   refine aU (by simp) ?_;rw [hr,Bool.true_and] at hu;refine aI (cs:=[(false,[.int .i64]),(false,[.int .i64])]) (n21,((i+1:Nat):Int),()) (u.text.length-(i+1)) rfl (by omega) (by rw [wrap_i64 (by omega) (by omega)]; rfl) ?_;exact ⟨i+1,rfl,rfl,by omega,e2.trans e3,b2.ai e3 (by simp),by rw [ht]; exact hg1.snoc (xq.item hr),hu⟩
 intro q;have q:=of_decide_eq_false q
 have:i=u.text.length:=by omega
 subst this;rw [List.drop_length,List.all_nil,Bool.true_and] at hu;rw [List.take_length] at hg1;clear e1 b1;refine bh (cs:=[(false,[.int .i64]),(false,[.int .i64])]) (fun y w h'=>∃ i:Nat,y.2.1=(i:Int)∧w=u.data.length-i∧i≤u.data.length∧Ext h h'∧aO h' h.size 27 [a.v,b.v,c.v,d.v]∧xq (cB (u.data.take i))∧((u.data.drop i).all (fun x=>bm x 1) && (u.aQ.all Bi && (decide (ft u).Nodup && cw (ft u) bI u.aF)))=U) (n21,(0:Int),()) u.data.length rfl
  ⟨0,rfl,rfl,by omega,e2,b2,fun g hg=>by simp [cB] at hg,hu⟩ ?_
 clear hu e2 b2;rintro ⟨n31,n32,⟨⟩⟩ w h4 ⟨i,hi,rfl,hle,e2,b2,hg2,hu⟩;simp only at hi;subst hi;dsimp only [flat,az,ah,nA,cA];refine ad b2 ((b.p,b.l,b.c),()) rfl ?_;dsimp only [flat,az,ah,nA,cA];refine af ?_ ?_
 case _ =>
  intro q;have q:=of_decide_eq_true q;have hil:i<u.data.length:=by omega
  refine ad b2 ((b.p,b.l,b.c),()) rfl ?_;dsimp only [flat,az,ah,nA,cA];obtain ⟨aa,pp,ll,cc,eX,hc,va⟩:=(v.data.ai e2).cells i hil;rw [oJ _ _ hil] at hu;have ht:=oY u.data i hil;generalize u.data[i]=x at hc va hu ht;refine ay ⟨by omega,by omega⟩ (aj eX ?_);rw [show Int.toNat (i:Int)=i by omega];refine aE (x.kind,x.name,x.inst.op,x.inst.a,x.inst.b,x.inst.n,x.inst.form,(pp,ll,cc),(x.e.num:Int),x.n,()) hc ?_;dsimp only [flat,az,ah,nA,cA];refine aB (y5 (c:=cc) (k:=1) va (by omega)) ?_;rintro _ h3 ⟨rfl,e3⟩;refine ⟨((if bm x 1 then 0 else 31:Int),()),rfl,?_⟩;dsimp only [flat,az,ah,nA,cA];cases hr:bm x 1 with
  | false =>
   refine aT (by simp) ?_;refine ⟨by rw [← hu,hr]; rfl,e2.trans e3⟩
  | true =>
   refine aU (by simp) ?_;rw [hr,Bool.true_and] at hu;refine aI (cs:=[(false,[.int .i64]),(false,[.int .i64])]) (n31,((i+1:Nat):Int),()) (u.data.length-(i+1)) rfl (by omega) (by rw [wrap_i64 (by omega) (by omega)]; rfl) ?_;exact ⟨i+1,rfl,rfl,by omega,e2.trans e3,b2.ai e3 (by simp),by rw [ht]; exact hg2.snoc (xq.item hr),hu⟩
 intro q;have q:=of_decide_eq_false q
 have:i=u.data.length:=by omega
 subst this;rw [List.drop_length,List.all_nil,Bool.true_and] at hu;rw [List.take_length] at hg2;refine bh (cs:=[(false,[.int .i64]),(false,[.int .i64])]) (fun y w h'=>∃ i:Nat,y.2.1=(i:Int)∧w=u.aQ.length-i∧i≤u.aQ.length∧Ext h h'∧aO h' h.size 27 [a.v,b.v,c.v,d.v]∧xq ((u.aQ.take i).map (·.1))∧((u.aQ.drop i).all Bi && (decide (ft u).Nodup && cw (ft u) bI u.aF))=U) (n31,(0:Int),()) u.aQ.length rfl
  ⟨0,rfl,rfl,by omega,e2,b2,fun g hg=>by simp at hg,hu⟩ ?_
 clear hu e2 b2;rintro ⟨n41,n42,⟨⟩⟩ w h4 ⟨i,hi,rfl,hle,e2,b2,hg3,hu⟩;simp only at hi;subst hi;dsimp only [flat,az,ah,nA,cA];refine ad b2 ((c.p,c.l,c.c),()) rfl ?_;dsimp only [flat,az,ah,nA,cA];refine af ?_ ?_
 case _ =>
  intro q;have q:=of_decide_eq_true q;have hil:i<u.aQ.length:=by omega
  refine ad b2 ((c.p,c.l,c.c),()) rfl ?_;dsimp only [flat,az,ah,nA,cA];obtain ⟨aa,pp,ll,cc,eX,hc,va,vn⟩:=(v.aQ.ai e2).cells i hil;rw [oJ _ _ hil] at hu;have ht:(u.aQ.take (i+1)).map (·.1)=(u.aQ.take i).map (·.1)++[u.aQ[i].1]:=by rw [List.take_succ_eq_append_getElem hil,List.map_append]; rfl
  generalize u.aQ[i]=x at hc va vn hu ht;unfold Bi at hu;refine ay ⟨by omega,by omega⟩ (aj eX ?_);rw [show Int.toNat (i:Int)=i by omega];refine aE (x.1,()) ⟨hc.1,trivial⟩ ?_;dsimp only [flat,az,ah,nA,cA];refine aD (oW x.1 _ (by have:maxLen=9223372036854775807:=rfl; omega)) ?_;cases hle:bd x.1.data.toList with
  | false =>
   refine aT (by simp) ?_;refine ⟨by rw [← hu,hle]; rfl,e2⟩
  | true =>
   refine aU (by simp) ?_;rw [hle,Bool.true_and] at hu;refine ad b2 ((c.p,c.l,c.c),()) rfl ?_;dsimp only [flat,az,ah,nA,cA];refine ay ⟨by omega,by omega⟩ (aj eX ?_);refine aE ((pp,ll,cc),(x.2.num:Int),()) ⟨by rw [add_add]; exact hc.2.1,by rw [add_add]; exact hc.2.2.1,trivial⟩ ?_;dsimp only [flat,az,ah,nA,cA];obtain ⟨w1,w2,w3⟩:=MD va;refine dk (qL w1 w2 w3) ?_;intro h3 e3;cases hr:kO none x.2.au with
   | false =>
    refine aT (by simp) ?_;refine ⟨by rw [← hu,hr]; rfl,e2.trans e3⟩
   | true =>
    refine aU (by simp) ?_;rw [hr,Bool.true_and] at hu;refine aI (cs:=[(false,[.int .i64]),(false,[.int .i64])]) (n41,((i+1:Nat):Int),()) (u.aQ.length-(i+1)) rfl (by omega) (by rw [wrap_i64 (by omega) (by omega)]; rfl) ?_;exact ⟨i+1,rfl,rfl,by omega,e2.trans e3,b2.ai e3 (by simp),by rw [ht]; exact hg3.snoc (fun g hg=>by rw [List.mem_singleton.1 hg]; exact hle),hu⟩
 intro q;have q:=of_decide_eq_false q
 have:i=u.aQ.length:=by omega
 subst this;rw [List.drop_length,List.all_nil,Bool.true_and] at hu;rw [List.take_length] at hg3;refine ad b2 ((a.p,a.l,a.c),(b.p,b.l,b.c),(c.p,c.l,c.c),(d.p,d.l,d.c),()) rfl ?_;dsimp only [flat,az,ah,nA,cA];refine aB (wT (v.ai e2) (by omega) (by omega) (by omega)) ?_;rintro _ h5 ⟨p38,l39,l40,rfl,s5,e5⟩;refine ⟨((p38,l39,l40),()),rfl,?_⟩;dsimp only [flat,az,ah,nA,cA];have hA:(ft u).length≤2^20:=by
  unfold ft
  have:=jE u.text
  have:=jE u.data
  simp only [List.length_append,List.length_map];omega
 have n5:=SN.len s5;refine aB (tn s5 (by omega)) ?_;rintro _ h6 ⟨p41,l43,ys,rfl,hy1,hy2,e6⟩;refine ⟨((p41,ys.length,l43),()),rfl,?_⟩;dsimp only [flat,az,ah,nA,cA];have e56:=e5.trans e6;have e06:=e2.trans e56
 by_cases hnd:(ft u).Nodup
 case neg =>
  rw [decide_eq_false hnd] at hu;refine aT ?_ ⟨by rw [← hu]; rfl,e06⟩
  have:¬ ys.length=(ft u).length:=fun k=>hnd (hy2.1 k)
  rw [n5];simp only [bne_iff_ne,ne_eq];omega
 rw [decide_eq_true hnd,Bool.true_and] at hu;have hy:=hy2.2 hnd;refine aU (by rw [n5,hy]; simp) ?_;have s6:SN h6 h4.size p38 l39 l40 (ft u):=s5.ai e6 (by simp);have b6:=b2.ai e56 (by simp);have hleg:∀ g,g∈ft u→fE bI g:=fun g hg=>A0 (((hg1.snoc hg2).snoc hg3) g hg)
 generalize ft u=E at hu s6 hA hleg;refine bh (cs:=[(false,[.int .i64]),(false,[.int .i64])]) (fun y w h'=>∃ i:Nat,y.2.1=(i:Int)∧w=u.aF.length-i∧i≤u.aF.length∧h'=h6∧cw E (lr u.aF i) (u.aF.drop i)=U) (n41,(0:Int),()) u.aF.length rfl
  ⟨0,rfl,rfl,by omega,rfl,hu⟩ ?_
 clear hu;rintro ⟨n51,n52,⟨⟩⟩ w h7 ⟨i,hi,rfl,hile,rfl,hu⟩;simp only at hi;subst hi;dsimp only [flat,az,ah,nA,cA];refine ad b6 ((d.p,d.l,d.c),()) rfl ?_;dsimp only [flat,az,ah,nA,cA];refine af (fun q=>?_) (fun q=>?_)
 ·have q:=of_decide_eq_true q;have hil:i<u.aF.length:=by omega
  obtain ⟨aa,eX,hc,va⟩:=(v.aF.ai e06).cells i hil;rw [rV _ _ hil] at hu;unfold KZ at hu;refine af (fun r2=>?_) (fun r2=>?_)
  ·have r2:=of_decide_eq_true r2;refine ad b6 ((d.p,d.l,d.c),()) rfl ?_;dsimp only [flat,az,ah,nA,cA];refine ay ⟨by omega,by omega⟩ (aj eX ?_);rw [show Int.toNat (i:Int)=i by omega,wrap_i64 (x:=(i:Int)-1) (by omega) (by omega)];refine aE (u.aF[i],()) hc ?_;dsimp only [flat,az,ah,nA,cA];refine ad b6 ((d.p,d.l,d.c),()) rfl ?_;dsimp only [flat,az,ah,nA,cA];obtain ⟨ab,rfl'',hc',va'⟩:=(v.aF.ai e06).cells (i-1) (by omega);refine ay ⟨by omega,by omega⟩ (aj rfl'' ?_);rw [show Int.toNat ((i:Int)-1)=i-1 by omega];refine aE (u.aF[i-1],()) hc' ?_;dsimp only [flat,az,ah,nA,cA];have hla:lr u.aF i=u.aF[i-1]:=by
    unfold lr;rw [if_neg (by omega),List.getD_eq_getElem?_getD,List.getElem?_eq_getElem (by omega)];rfl
   rw [leB];rw [hla] at hu;refine af (fun r3=>?_) (fun r3=>?_)
   ·have r3:decide (fE u.aF[i-1] u.aF[i])=false:=by simpa using r3
    exact ⟨by rw [← hu,r3,Bool.and_false]; rfl,e06⟩
   ·have r3:decide (fE u.aF[i-1] u.aF[i])=true:=by simpa using r3
    rw [r3,Bool.and_true] at hu;refine ad b6 ((d.p,d.l,d.c),()) rfl ?_;dsimp only [flat,az,ah,nA,cA];refine ay ⟨by omega,by omega⟩ (aj eX ?_);refine aE (u.aF[i],()) hc ?_;dsimp only [flat,az,ah,nA,cA];refine aD (zG s6 (by omega) _) ?_;refine ⟨⟨b6.cells _ rfl,hc',b6.cells _ rfl,hc,b6.cells _ rfl,trivial⟩,?_⟩;cases hr:eb E u.aF[i] with
    | false =>
     refine aT (by simp) ?_;exact ⟨by rw [← hu,hr]; rfl,e06⟩
    | true =>
     refine aU (by simp) ?_;rw [hr,Bool.true_and] at hu;exact aI (cs:=[(false,[.int .i64]),(false,[.int .i64])]) (n51,((i+1:Nat):Int),()) (u.aF.length-(i+1)) rfl (by omega) (by rw [wrap_i64 (by omega) (by omega)]; rfl) ⟨i+1,rfl,rfl,by omega,rfl,hu⟩
  ·have r2:=of_decide_eq_false r2;have hi0:i=0:=by omega
   subst hi0;refine ad b6 ((d.p,d.l,d.c),()) rfl ?_;dsimp only [flat,az,ah,nA,cA];refine ay ⟨by omega,by omega⟩ (aj eX ?_);refine aE (u.aF[0],()) hc ?_;dsimp only [flat,az,ah,nA,cA];refine aD (zG s6 (by omega) _) ?_;refine ⟨⟨b6.cells _ rfl,trivial⟩,?_⟩;cases hr:eb E u.aF[0] with
   | false =>
    refine aT (by simp) ?_;exact ⟨by rw [← hu,hr]; rfl,e06⟩
   | true =>
    refine aU (by simp) ?_;have hg:decide (fE (lr u.aF 0) u.aF[0])=true:=decide_eq_true (hleg _ (eI.1 hr));rw [hr,hg,Bool.true_and,Bool.true_and] at hu;exact aI (cs:=[(false,[.int .i64]),(false,[.int .i64])]) (n51,((0+1:Nat):Int),()) (u.aF.length-(0+1)) rfl (by omega) (by rw [wrap_i64 (by omega) (by omega)]; rfl) ⟨0+1,rfl,rfl,by omega,rfl,hu⟩
 ·have q:=of_decide_eq_false q
  have:i=u.aF.length:=by omega
  subst this;rw [List.drop_length] at hu;exact ⟨by rw [← hu]; rfl,e06⟩
structure Fx (h:Hp):Prop where
 tb:pJ h
 ld:Laid h
 pw:qc h
 mx:∃ m:Int,aG h ⟨2,0,none⟩ 0 [.int .i64 m]
theorem Fx.ai {h h':Hp} (f:Fx h) (e:Ext h h'):Fx h':=by
 obtain ⟨m,b⟩:=f.mx;exact ⟨f.tb.ai e (by simp),f.ld.ext e,f.pw.ai e (by simp),m,bE e (by simp) _ _ b⟩
theorem Fx.Nk {h:Hp} (f:Fx h) (s:ByteArray):HC Tryz.prog 10 #[.string s] h (L7 s h):=by
 obtain ⟨m,b⟩:=f.mx;refine KE s h f.ld f.tb m (fun W hW=>?_);subst hW;rw [dZ];exact b.1
theorem si.bf {h h':Hp} {v:Value} {e:Option (Nat × Nat)} (E:si h v e) (k:Ext h h'):si h' v e:=by
 cases e with
 | none=>exact E
 | some e =>
  obtain ⟨a,h1,h2⟩:=E;exact ⟨a,h1,h2.ai k (by simp)⟩
theorem IE (s:ByteArray) (l w:Nat) (h:Hp) (f:Fx h):HC Tryz.prog 17 #[.string s,.int .i64 (l:Int),.int .i64 (w:Int)] h fun v h'=>v=.bool (rn l w (xB (fD s)))∧Ext h h':=by
 refine aK (args:=[.string s,.int .i64 (l:Int),.int .i64 (w:Int)]) mixed Tryz.func17 (by kernel_rfl) (mh s l w) ?_;unfold iT;refine aB (f.Nk s) ?_;rintro _ h1 ⟨e1,a,b,c,d,ev,rfl,U,E⟩;refine ⟨((a.p,a.l,a.c),(b.p,b.l,b.c),(c.p,c.l,c.c),(d.p,d.l,d.c),ev,()),rfl,?_⟩;dsimp only [flat,az,ah,nA,cA];refine aX ?_;intro h2 b2 e2 z2;refine an b2 rfl (by simp) ?_;intro h3 b3 k3 z3;have e13:Ext h1 h3:=Ch.trans e2 k3 (fun i hi hl=>by simp at hi; omega);have e03:=e1.trans e13;refine aB (C9 (f.ai e03).pw (E.bf e13) (fun q hq=>EZ hq) l w) ?_;rintro _ h4 ⟨rfl,e4⟩;refine ⟨(rn l w (xB (fD s)),()),rfl,?_⟩;exact ⟨rfl,e03.trans e4⟩
/-! Spans. -/
def Jn (x:bD):Bool:=decide (x.kind=2) && nt x.inst.op
def fP (l:List bD):Nat:=(l.filter Jn).length
theorem wW (l:List bD) (i:Nat) (hi:i<l.length):fP (l.take (i+1))=fP (l.take i)+if Jn l[i]=true then 1 else 0:=by
 unfold fP;rw [List.take_succ_eq_append_getElem hi,List.filter_append,List.length_append]
 congr 1
 by_cases hk:Jn l[i]=true <;> simp [hk]
theorem Bg (l:List bD):fP l≤l.length:=List.length_filter_le _ _
theorem sG {h:Hp} (t:y7 h) {a b c d:bP} {u:fS} (v:gn h a b c d u):HC Tryz.prog 21 #[lh a b c d] h fun w h'=>w=.int .i64 ((if j0 u=0 then fP u.text else 0:Nat):Int)∧Ext h h':=by
 refine aK (args:=[lh a b c d]) mixed Tryz.func21 (by kernel_rfl) (uO a.p a.l a.c b.p b.l b.c c.p c.l c.c d.p d.l d.c) ?_;unfold rF;refine aX ?_;intro h1 b1 e1 z1;have b1:aO h1 h.size 27 [a.v,b.v,c.v,d.v]:=b1;refine ad b1 ((a.p,a.l,a.c),(b.p,b.l,b.c),(c.p,c.l,c.c),(d.p,d.l,d.c),()) rfl ?_;dsimp only [flat,az,ah,nA,cA];refine aB (je (t.ai e1 (by simp)) (v.ai e1)) ?_;rintro _ h2 ⟨rfl,e2⟩;refine ⟨((j0 u:Int),()),rfl,?_⟩;dsimp only [flat,az,ah,nA,cA];have e02:=e1.trans e2;refine af (fun r=>?_) (fun r=>?_)
 ·have r:¬ j0 u=0:=by simpa using r
  rw [if_neg r];exact ⟨rfl,e02⟩
 have r:j0 u=0:=by simpa using r
 rw [if_pos r];have b2:=b1.ai e2 (by simp);refine ad b2 ((a.p,a.l,a.c),()) rfl ?_;dsimp only [flat,az,ah,nA,cA];have n:=v.text.len;have m1:=v.text.many;refine bh (cs:=[(false,[.int .i64]),(false,[.int .i64])]) (fun y m h'=>∃ i:Nat,y.2.1=(i:Int)∧y.1=(fP (u.text.take i):Int)∧m=u.text.length-i∧i≤u.text.length∧Ext h h') ((0:Int),(0:Int),()) u.text.length rfl
  ⟨0,rfl,rfl,rfl,by omega,e02⟩ ?_
 rintro ⟨n1,n2,⟨⟩⟩ m g ⟨i,hi,hn,rfl,hle,eg⟩;simp only at hi hn;subst hi hn;dsimp only [flat,az,ah,nA,cA];refine af (fun q=>?_) (fun q=>?_)
 ·have q:=of_decide_eq_true q;have hil:i<u.text.length:=by omega
  obtain ⟨aa,pp,ll,cc,eX,hc,va⟩:=(v.text.ai eg).cells i hil;have ht:=wW u.text i hil;have hsl:fP (u.text.take i)≤i:=by have:=Bg (u.text.take i); rw [List.length_take] at this; omega
  generalize u.text[i]=x at hc va ht;refine ay ⟨by omega,by omega⟩ (aj eX ?_);rw [show Int.toNat (i:Int)=i by omega];refine aE (x.kind,x.name,x.inst.op,x.inst.a,x.inst.b,x.inst.n,x.inst.form,(pp,ll,cc),(x.e.num:Int),x.n,()) hc ?_;dsimp only [flat,az,ah,nA,cA];refine aX ?_;intro g1 c1 f1 y1;refine an c1 rfl (by simp) ?_;intro g2 c2 k2 y2;have c2:aO g2 g.size 96 (encI pp ll cc x):=c2;have f2:Ext g g2:=Ch.trans f1 k2 (fun i hi hl=>by simp at hi; omega);have eg2:=eg.trans f2;refine ad c2 (x.kind,()) rfl ?_;dsimp only [flat,az,ah,nA,cA];refine af (fun r=>?_) (fun r=>?_)
  ·have r:x.kind=2:=by simpa using r
   rw [ao];refine ad c2 (x.inst.op,()) rfl ?_;dsimp only [flat,az,ah,nA,cA];refine aB (AY (t.ai eg2 (by simp)) x.inst.op va.op.1 va.op.2) ?_;rintro _ g3 ⟨rfl,f3⟩;refine ⟨(nt x.inst.op,()),rfl,?_⟩;dsimp only [flat,az,ah,nA,cA];refine af (fun s=>?_) (fun s=>?_)
   ·rw [if_pos (by unfold Jn; rw [decide_eq_true r,s]; rfl)] at ht;refine aI (cs:=[(false,[.int .i64]),(false,[.int .i64])]) (((fP (u.text.take i)+1:Nat):Int),((i+1:Nat):Int),()) (u.text.length-(i+1)) rfl (by omega) (by rw [wrap_i64 (by omega) (by omega),wrap_i64 (by omega) (by omega)]; rfl) ?_;exact ⟨i+1,rfl,by rw [ht],rfl,by omega,eg2.trans f3⟩
   ·rw [if_neg (by unfold Jn; rw [decide_eq_true r,s]; decide)] at ht;refine aI (cs:=[(false,[.int .i64]),(false,[.int .i64])]) ((fP (u.text.take i):Int),((i+1:Nat):Int),()) (u.text.length-(i+1)) rfl (by omega) (by rw [wrap_i64 (by omega) (by omega)]; rfl) ?_;exact ⟨i+1,rfl,by rw [ht]; rfl,rfl,by omega,eg2.trans f3⟩
  ·have r:¬ x.kind=2:=by simpa using r
   rw [if_neg (by unfold Jn; rw [decide_eq_false r]; simp)] at ht;refine aI (cs:=[(false,[.int .i64]),(false,[.int .i64])]) ((fP (u.text.take i):Int),((i+1:Nat):Int),()) (u.text.length-(i+1)) rfl (by omega) (by rw [wrap_i64 (by omega) (by omega)]; rfl) ?_;exact ⟨i+1,rfl,by rw [ht]; rfl,rfl,by omega,eg2⟩
 ·have q:=of_decide_eq_false q
  have:i=u.text.length:=by omega
  subst this;rw [List.take_length];exact ⟨rfl,eg⟩
theorem Cc {h:Hp} {a b c d:bP} {u:fS} (v:gn h a b c d u):HC Tryz.prog 24 #[lh a b c d] h fun w h'=>w=.int .i64 ((fP u.text:Nat):Int)∧Ext h h':=by
 refine aK (args:=[lh a b c d]) mixed Tryz.func24 (by kernel_rfl) (lG a.p a.l a.c b.p b.l b.c c.p c.l c.c d.p d.l d.c) ?_;unfold ia;refine aX ?_;intro h1 b1 e1 z1;have b1:aO h1 h.size 27 [a.v,b.v,c.v,d.v]:=b1;have n:=v.text.len;have m1:=v.text.many;refine bh (cs:=[(false,[.int .i64]),(false,[.int .i64])]) (fun y m h'=>∃ i:Nat,y.2.1=(i:Int)∧y.1=(fP (u.text.take i):Int)∧m=u.text.length-i∧i≤u.text.length∧Ext h h'∧aO h' h.size 27 [a.v,b.v,c.v,d.v]) ((0:Int),(0:Int),()) u.text.length rfl
  ⟨0,rfl,rfl,rfl,by omega,e1,b1⟩ ?_
 rintro ⟨n1,n2,⟨⟩⟩ m g ⟨i,hi,hn,rfl,hle,eg,bg⟩;simp only at hi hn;subst hi hn;dsimp only [flat,az,ah,nA,cA];refine ad bg ((a.p,a.l,a.c),()) rfl ?_;dsimp only [flat,az,ah,nA,cA];refine af (fun q=>?_) (fun q=>?_)
 ·have q:=of_decide_eq_true q;have hil:i<u.text.length:=by omega
  obtain ⟨aa,pp,ll,cc,eX,hc,va⟩:=(v.text.ai eg).cells i hil;have ht:=wW u.text i hil;have hsl:fP (u.text.take i)≤i:=by have:=Bg (u.text.take i); rw [List.length_take] at this; omega
  generalize u.text[i]=x at hc va ht;refine ad bg ((a.p,a.l,a.c),()) rfl ?_;dsimp only [flat,az,ah,nA,cA];refine ay ⟨by omega,by omega⟩ (aj eX ?_);rw [show Int.toNat (i:Int)=i by omega];refine aE (x.kind,()) ⟨hc.1,trivial⟩ ?_;dsimp only [flat,az,ah,nA,cA];refine af (fun r=>?_) (fun r=>?_)
  ·have r:x.kind=2:=by simpa using r
   refine ad bg ((a.p,a.l,a.c),()) rfl ?_;dsimp only [flat,az,ah,nA,cA];refine ay ⟨by omega,by omega⟩ (aj eX ?_);refine aE (x.inst.op,()) ⟨by rw [add_add]; exact hc.2.2.1,trivial⟩ ?_;dsimp only [flat,az,ah,nA,cA];refine aB (sV g x.inst.op va.op) ?_;rintro _ g3 ⟨rfl,f3⟩;refine ⟨(nt x.inst.op,()),rfl,?_⟩;dsimp only [flat,az,ah,nA,cA];refine af (fun s=>?_) (fun s=>?_)
   ·rw [if_pos (by unfold Jn; rw [decide_eq_true r,s]; rfl)] at ht;refine aI (cs:=[(false,[.int .i64]),(false,[.int .i64])]) (((fP (u.text.take i)+1:Nat):Int),((i+1:Nat):Int),()) (u.text.length-(i+1)) rfl (by omega) (by rw [wrap_i64 (by omega) (by omega),wrap_i64 (by omega) (by omega)]; rfl) ?_;exact ⟨i+1,rfl,by rw [ht],rfl,by omega,eg.trans f3,bg.ai f3 (by simp)⟩
   ·rw [if_neg (by unfold Jn; rw [decide_eq_true r,s]; decide)] at ht;refine aI (cs:=[(false,[.int .i64]),(false,[.int .i64])]) ((fP (u.text.take i):Int),((i+1:Nat):Int),()) (u.text.length-(i+1)) rfl (by omega) (by rw [wrap_i64 (by omega) (by omega)]; rfl) ?_;exact ⟨i+1,rfl,by rw [ht]; rfl,rfl,by omega,eg.trans f3,bg.ai f3 (by simp)⟩
  ·have r:¬ x.kind=2:=by simpa using r
   rw [if_neg (by unfold Jn; rw [decide_eq_false r]; simp)] at ht;refine aI (cs:=[(false,[.int .i64]),(false,[.int .i64])]) ((fP (u.text.take i):Int),((i+1:Nat):Int),()) (u.text.length-(i+1)) rfl (by omega) (by rw [wrap_i64 (by omega) (by omega)]; rfl) ?_;exact ⟨i+1,rfl,by rw [ht]; rfl,rfl,by omega,eg,bg⟩
 ·have q:=of_decide_eq_false q
  have:i=u.text.length:=by omega
  subst this;rw [List.take_length];exact ⟨rfl,eg⟩
theorem NP:xB (fD ⟨#[97,58,32,110,111,112,10,97,58,32,110,111,112]⟩)=some (2,22):=by kernel_rfl
theorem kc:xB (fD ⟨#[103,108,111,98,97,108,32,98,10,110,111,112,101]⟩)=some (2,20):=by kernel_rfl
def s1:ByteArray:=⟨#[97,58,32,106,109,112,32,97]⟩
def s2:ByteArray:=⟨#[115,101,99,116,105,111,110,32,100,97,116,97,10,120,58,32,119,111,114,100,32,121,44,32,51,10,103,108,111,98,97,108,32,120,10,103,108,111,98,97,108,32,120]⟩
def u1:fS:=(CB (fD s1)).1
def u2:fS:=(CB (fD s2)).1
theorem k1:xB (fD s1)=none:=by kernel_rfl
theorem Nv:j0 u1=0:=by kernel_rfl
theorem NZ:u1.text.length=2:=by kernel_rfl
theorem NN:fP u1.text=1:=by kernel_rfl
theorem NG:(u1.text.map (·.name)).take 1=[⟨#[97]⟩]:=by kernel_rfl
theorem NL:(u1.text.map (·.inst.op)).drop 1=[40]:=by kernel_rfl
theorem k2:xB (fD s2)=none:=by kernel_rfl
theorem k3:fD ⟨#[]⟩=.ok tq:=by kernel_rfl
theorem k4:j0 ⟨[],[],[],[⟨#[97]⟩]⟩=31:=by kernel_rfl
theorem Cp (a:Addr):a.add 0=a:=by unfold Addr.add; simp
theorem Mv:∃ x y,u1.text=[x,y]∧x.name=⟨#[97]⟩∧y.inst.op=40:=by
 obtain ⟨x,y,h⟩:∃ x y,u1.text=[x,y]:=by
  have hl:=NZ
  match hu:u1.text,hl with
  | [x,y],_=>exact ⟨x,y,rfl⟩
 have h1:=NG;have h2:=NL;rw [h] at h1 h2;simp at h1 h2;exact ⟨x,y,h,h1,h2⟩
theorem vz (h:Hp) (f:Fx h):HC Tryz.prog 14 #[] h fun v h'=>v=.bool true∧Ext h h':=by
 refine aK (args:=[]) mixed Tryz.func14 (by kernel_rfl) kQ ?_;unfold iA;refine aB (f.Nk s1) ?_;rintro _ h1 ⟨e1,a,b,c,d,ev,rfl,U,E⟩;rw [k1] at E;have E:ev=.nilIface:=E;subst E;refine ⟨((a.p,a.l,a.c),(b.p,b.l,b.c),(c.p,c.l,c.c),(d.p,d.l,d.c),.nilIface,()),rfl,?_⟩;dsimp only [flat,az,ah,nA,cA];refine aX ?_;intro h2 b2 e2 z2;refine an b2 rfl (by simp) ?_;intro h3 b3 k3 z3;have b3:aO h3 h1.size 27 [a.v,b.v,c.v,d.v]:=b3;have e13:Ext h1 h3:=Ch.trans e2 k3 (fun i hi hl=>by simp at hi; omega);have e03:=e1.trans e13;have v:gn h3 a b c d u1:=(U.at (Kz (by decide))).ai e13;obtain ⟨x,y,hxy,hx,hy⟩:=Mv;have hl:=v.text.len;have cx:=v.text.cells 0 (by rw [hxy]; simp);have cy:=v.text.cells 1 (by rw [hxy]; simp);obtain ⟨aa,q,m,cc,ha,hcx,-⟩:=cx;obtain ⟨ab,q',m',cc',hb,hcy,-⟩:=cy;rw [ha] at hb;cases hb;simp only [hxy,List.getElem_cons_zero,List.getElem_cons_succ,Nat.zero_mul,Nat.one_mul,Cp] at hcx hcy;rw [hxy] at hl;have hl:a.l=2:=hl;refine bR (fun K' hK=>by rw [LR]; exact hK) ?_;refine aT rfl ?_;refine ad b3 ((a.p,a.l,a.c),()) rfl ?_;dsimp only [flat,az,ah,nA,cA];refine aT (by rw [hl]; rfl) ?_;refine ad b3 ((a.p,a.l,a.c),()) rfl ?_;dsimp only [flat,az,ah,nA,cA];refine ay ⟨by omega,by omega⟩ (aj ha ?_);refine aE (x.name,()) ⟨hcx.2.1,trivial⟩ ?_;dsimp only [flat,az,ah,nA,cA];refine aT (by rw [hx,ByteArray.toList_eq]; rfl) ?_;refine ad b3 ((a.p,a.l,a.c),()) rfl ?_;dsimp only [flat,az,ah,nA,cA];refine ay ⟨by omega,by omega⟩ (aj ha ?_);refine aE (y.inst.op,()) ⟨by rw [add_add]; exact hcy.2.2.1,trivial⟩ ?_;dsimp only [flat,az,ah,nA,cA];refine aT (by rw [hy]; rfl) ?_;refine ad b3 ((a.p,a.l,a.c),(b.p,b.l,b.c),(c.p,c.l,c.c),(d.p,d.l,d.c),()) rfl ?_;dsimp only [flat,az,ah,nA,cA];refine aB (sG (f.ai e03).tb.J3 v) ?_;rintro _ h4 ⟨rfl,e4⟩;rw [Nv,NN,if_pos rfl];refine ⟨(((1:Nat):Int),()),rfl,?_⟩;dsimp only [flat,az,ah,nA,cA];refine aT rfl ?_;have b4:=b3.ai e4 (by simp);refine ad b4 ((a.p,a.l,a.c),(b.p,b.l,b.c),(c.p,c.l,c.c),(d.p,d.l,d.c),()) rfl ?_;dsimp only [flat,az,ah,nA,cA];refine aB (je (f.ai (e03.trans e4)).tb.J3 (v.ai e4)) ?_;rintro _ h5 ⟨rfl,e5⟩;rw [Nv];refine ⟨(((0:Nat):Int),()),rfl,?_⟩;dsimp only [flat,az,ah,nA,cA];refine aT rfl ?_;have e05:=(e03.trans e4).trans e5;refine aB (IE _ 2 22 _ (f.ai e05)) ?_;rintro _ h6 ⟨rfl,e6⟩;rw [NP];refine ⟨(true,()),rfl,?_⟩;exact ⟨rfl,e05.trans e6⟩
end Go.Sx.Ob
set_option linter.unusedVariables false
set_option linter.unusedSimpArgs false
set_option maxRecDepth 100000
namespace Go.Sx
open Go.Proofs Go.Sort Go.Maps Go.Sx.Ob
def pO (xs:List ByteArray):List ByteArray:=((xs.map (·.data.toList)).mergeSort fun x y=>decide (x≤y)).map fun k=>⟨k.toArray⟩
theorem zg (pre mid rest:List Value) (d:Array (List UInt8)) (hd:d.size=mid.length):putCells encStr pre.length d (pre++(mid++rest)).toArray=(pre++(d.toList.map encStr++rest)).toArray:=by
 apply Array.ext_getElem?;intro k;unfold putCells;rw [Array.getElem?_mapIdx];simp only [List.getElem?_toArray]
 by_cases h1:k<pre.length
 ·rw [List.getElem?_append_left h1,List.getElem?_append_left h1,List.getElem?_eq_getElem h1,Option.map_some,if_neg (by omega)]
 ·rw [List.getElem?_append_right (l₁:=pre) (l₂:=mid++rest) (by omega),List.getElem?_append_right (l₁:=pre) (l₂:=d.toList.map encStr++rest) (by omega)]
  by_cases h2:k-pre.length<mid.length
  ·rw [List.getElem?_append_left (l₁:=mid) h2,List.getElem?_append_left (l₁:=d.toList.map encStr) (by simp; omega),List.getElem?_eq_getElem h2,Option.map_some,if_pos (by omega),List.getElem?_map];rw [getElem!_pos d (k-pre.length) (by omega),Array.getElem?_toList,Array.getElem?_eq_getElem (by omega)];rfl
  ·rw [List.getElem?_append_right (l₁:=mid) (by omega),List.getElem?_append_right (l₁:=d.toList.map encStr) (by simp; omega)];have e:(d.toList.map encStr).length=mid.length:=by simp [hd]
   rw [e];cases hr:rest[k-pre.length-mid.length]? with
   | none=>rfl
   | some v=>rw [Option.map_some,if_neg (by omega)]
theorem Bx (xs:List ByteArray):(xs.map Ms).flatten=xs.map Value.string:=by
 induction xs with
 | nil=>rfl
 | cons x xs ih=>rw [List.map_cons,List.flatten_cons,ih]; rfl
theorem IF {h:Hp} {b:Nat} {p:Option Addr} {l c:Nat} {xs:List ByteArray} (s:SL h b 9 1 p l c (xs.map Ms)) (hl:l≤2^40) :
  HC Tryz.prog 43 #[.slice p l c] h fun w h'=>w=.tuple #[]∧SL h' b 9 1 p l c ((pO xs).map Ms)∧Ch (aC p) h h':=by
 have hll:l=xs.length:=by rw [s.1,List.length_map]
 have hnil:xs=[]→HC Tryz.prog 43 #[.slice p l c] h fun w h'=>w=.tuple #[]∧SL h' b 9 1 p l c ((pO xs).map Ms)∧Ch (aC p) h h':=by
  intro hx;subst hx;have hl0:l=0:=hll;subst hl0;intro W hW;refine (AnyM.slices_Sort_string_none Tryz.uR p c W).mono ?_;rintro e w' ⟨rfl,rfl⟩;have e0:pO []=[]:=by simp [pO]
  exact ⟨_,rfl,bT.refl _,rfl,by rw [hW,e0]; exact s,by rw [hW]; exact Ch.refl _ _⟩
 cases p with
 | none =>
  have:xs=[]:=by have:=s.2.2.2; simpa using this
  exact hnil this
 | some a =>
  obtain ⟨g,pre,rest,rfl,hbg,hlc,hbox,hr⟩:=s.2.2;intro W hW;subst hW;rw [Bx] at hbox;have hH:Holds encStr W g pre.length (xs.map (·.data.toList)).toArray:=by
   intro j hj;have hj:j<xs.length:=by simpa using hj
   refine ⟨?_,hbox.frozen⟩;rw [dZ,hbox.cell,List.getElem?_append_right (by omega),show pre.length+j-pre.length=j by omega,List.getElem?_append_left (by simpa using hj),List.getElem?_map,List.getElem?_eq_getElem hj,getElem!_pos _ j (by simpa using hj)];simp [encStr]
  have hgl:=hbox.lt;have hc:=AnyM.slices_Sort_string Tryz.uR g pre.length c (xs.map (·.data.toList)) W hH hgl (by simp; omega);rw [List.length_map,← hll] at hc;refine Calls.mono hc ?_;rintro e w' ⟨rfl,n,os,rfl⟩;have hheap:(Go.Sort.grow (Go.Sort.putRow encStr (Go.Sort.ahead W n) g pre.length ((xs.map (·.data.toList)).mergeSort fun x y=>decide (x≤y)).toArray) os).heap=(W.heap.modify g (onCells (putCells encStr pre.length ((xs.map (·.data.toList)).mergeSort fun x y=>decide (x≤y)).toArray)))++os:=rfl;refine ⟨_,rfl,⟨rfl,rfl,rfl⟩,rfl,?_,?_⟩
  ·rw [hheap];refine ⟨by rw [List.length_map]; unfold pO; rw [List.length_map,List.length_mergeSort,List.length_map]; exact hll,fun x hx=>?_,g,pre,rest,rfl,hbg,hlc,?_,hr⟩
   ·obtain ⟨y,_,rfl⟩:=List.mem_map.1 hx;rfl
   ·unfold aO;unfold aO at hbox;rw [Array.getElem?_append,if_pos (by simpa using hgl),Array.getElem?_modify,if_pos rfl,hbox];show some (Obj.cells (putCells encStr pre.length _ (pre++(xs.map Value.string++rest)).toArray) 9 (0,0))=_;have e:((xs.map (·.data.toList)).mergeSort fun x y=>decide (x≤y)).toArray.toList.map encStr=(pO xs).map Value.string:=by
     unfold pO;rw [List.map_map];rfl
    rw [zg pre (xs.map Value.string) rest _ (by simp [List.length_mergeSort]),Bx,e]
  ·rw [hheap];refine ⟨by simp,fun i hi hn=>?_⟩;rw [Array.getElem?_append,if_pos (by simpa using hi),Array.getElem?_modify,if_neg];intro e;subst e;exact hn (by simp [aC])
namespace Ob
theorem Ai {xs:List ByteArray} (hn:xs.Nodup):pO xs=bH xs:=by
 have hr:=lS xs;have nd:(bH xs).Nodup:=hr.imp fun h=>nF h
 have hp:xs.Perm (bH xs):=(List.perm_ext_iff_of_nodup hn nd).2 fun s=>by rw [gO]
 have h1:(xs.map (·.data.toList)).mergeSort (fun x y=>decide (x≤y))=(bH xs).map (·.data.toList):=by
  have h3:((bH xs).map (·.data.toList)).mergeSort (fun x y=>decide (x≤y))=(bH xs).map (·.data.toList):=by
   refine List.mergeSort_of_pairwise ?_;rw [List.pairwise_map];refine hr.imp fun {a b} h=>?_
   simp only [decide_eq_true_eq];exact List.le_of_lt h
  rw [← h3];exact mergeSort_of_perm (hp.map _)
 unfold pO;rw [h1,List.map_map]
 conv=>rhs; rw [← List.map_id (bH xs)]
 apply List.map_congr_left;intro s _
 simp
end Ob
end Go.Sx
set_option linter.unusedVariables false
set_option linter.unusedSimpArgs false
set_option maxRecDepth 100000
namespace Go.Sx.Ob
open Go.Proofs
variable {K:Value→Hp→Prop}
theorem wy {h:Hp} {a:Addr}:∀ (vs:List Value) (o i:Nat),aG h (a.add o) i vs→aG h a (o+i) vs
 | [],o,i,_=>trivial
 | v::vs,o,i,⟨h1,h2⟩=>⟨by rw [← add_add]; exact h1,by have:=wy vs o (i+1) h2; rwa [← Nat.add_assoc] at this⟩
theorem xR {h:Hp} {a:Addr}:∀ (A B:List Value) (i:Nat),aG h a i A→aG h a (i+A.length) B→aG h a i (A++B)
 | [],B,i,_,hb=>by simpa using hb
 | v::A,B,i,⟨h1,h2⟩,hb=>⟨h1,xR A B (i+1) h2 (by rw [show i+1+A.length=i+(v::A).length by simp; omega]; exact hb)⟩
theorem vQ {h:Hp} {a:Addr} {sz:Nat} {P:Nat→List Value→Prop}:∀ n:Nat,(∀ i,i<n→∃ ys,ys.length=sz∧aG h (a.add (i*sz)) 0 ys∧P i ys) →
  ∃ xs:List (List Value),xs.length=n∧(∀ y,y∈xs→y.length=sz)∧aG h a 0 xs.flatten∧xs.flatten.length=n*sz∧∀ i,(hi:i<xs.length)→P i xs[i]
 | 0,_=>⟨[],rfl,by simp,trivial,by simp,fun i hi=>absurd hi (by simp)⟩
 | n+1,hc=>by
  obtain ⟨xs,h1,h2,h3,h4,h5⟩:=vQ n fun i hi=>hc i (by omega)
  obtain ⟨ys,g1,g2,g3⟩:=hc n (by omega);refine ⟨xs++[ys],by simp [h1],fun y hy=>?_,?_,?_,fun i hi=>?_⟩
  ·rcases List.mem_append.1 hy with hy | hy
   ·exact h2 y hy
   ·rw [List.mem_singleton.1 hy]; exact g1
  ·rw [List.flatten_append];refine xR _ _ _ h3 ?_
   have:=wy _ _ _ g2
   simpa [h4] using this
  ·rw [List.flatten_append,List.length_append,h4];simp [g1,Nat.add_mul]
  ·rw [List.length_append] at hi
   by_cases hl:i<xs.length
   ·rw [List.getElem_append_left hl];exact h5 i hl
   ·have:i=n:=by simp at hi; omega
    subst this;rw [List.getElem_append_right (by omega)];simpa [h1] using g3
def Gy (h:Hp) (p:Option Addr) (xs:List (List Value)):Prop :=
 match p with
 | none=>xs=[]
 | some a1=>aG h a1 0 xs.flatten
theorem BD {P:Program} {h:Hp} {t ty e:TypeId} {i:TypeInfo} {z:Value} (ht:P.underlying t=some (.slice e)) (hi:P.info? e=some i) (hz:i.zero=some z) (hzs:z.cells.size=i.size)
  {p:Option Addr} {l:Nat} {xs ys:List (List Value)} (hxl:l=xs.length) (hxs:∀ x,x∈xs→x.length=i.size) (hx:Gy h p xs) {a:Addr} {m cc:Nat} (hm:m=ys.length) (hm0:0<m) (hys:∀ y,y∈ys→y.length=i.size)
  (hc:aG h a 0 ys.flatten) (hby:(2*(l+m)+1024)*i.bytes≤2^48) (hl:l+m≤2^48)
  (hk:∀ c' h',SL h' h.size e i.size (some ⟨h.size,0,none⟩) (l+m) c' (xs++ys)→Ext h h'→K (.slice (some ⟨h.size,0,none⟩) (l+m) c') h') :
  aH P (Builtin.append_ #[t,t] ty #[.slice p l l,.slice (some a) m cc]) h K:=by
 have hyl:ys.flatten.length=m*i.size:=by rw [de ys hys,hm]
 have hxll:xs.flatten.length=l*i.size:=by rw [de xs hxs,hxl]
 have hall:∀ x,x∈xs++ys→x.length=i.size:=fun x hx=>(List.mem_append.1 hx).elim (hxs x) (hys x)
 have hlen:l+m=(xs++ys).length:=by rw [List.length_append,← hxl,hm]
 have hz':(P.info? e).bind (·.zero)=some z:=by rw [hi]; exact hz
 have hroom:¬ l+m≤l:=by omega
 have hcap:¬ 281474976710656<Builtin.nextslicecap (l+m) l*i.bytes:=by
  have h1:=vM (aJ:=l+m) (old:=l) (by omega);have h2:=Nat.mul_le_mul_right i.bytes h1;have h3:(2:Nat)^48=281474976710656:=rfl;omega
 have hbig:¬ (9223372036854775807<(l:Int)+(m:Int)∧i.bytes=0):=by
  have h3:(2:Nat)^48=281474976710656:=rfl;omega
 simp [Builtin.append_,ak,aw ht,aZ hi,bK hi,Builtin.lenOf,Builtin.firstCells,hroom,fe hi,df hz',askRoom,hbig,hcap,show m≠0 by omega];intro tt;have hge:=zE (l+m) l e tt;generalize (Question.appendCap (l+m) l e).cut tt=nc at hge;show aH P (if roomBytes<nc*i.bytes then mark Mark.noRoom else pure ()) h _;have hroomy:∀ K':Unit→Hp→Prop,K' () h→aH P (if roomBytes<nc*i.bytes then mark Mark.noRoom else pure ()) h K':=by
  intro K' hk';split
  ·exact hk'
  ·exact hk'
 refine hroomy _ ?_
 have hold:∀ K':Array Value→Hp→Prop,K' xs.flatten.toArray h→aH P (match Value.slice p l l with
   | Value.slice (some a) len cap=>loadCells a (l*i.size)
   | Value.slice none len cap=>pure #[]
   | Value.string s=>pure ((Array.map (fun b=>Value.int IntKind.u8 ↑b.toNat) s.data).extract 0 l)
   | x => stuck "slice or string expected") h K' := by
  intro K' hk';cases p with
  | none =>
   have:xs=[]:=hx
   subst this;exact hk'
  | some a1=>exact cz hxll hx _ hk'
 refine hold _ ?_;refine cz hyl hc _ ?_;rw [fa];refine hk nc _ ⟨hlen,hall,h.size,[],(Builtin.zeroCells z.cells (nc-(l+m))).toList,rfl,Nat.le_refl _,⟨hge.1,hge.2 (by omega)⟩,?_,?_⟩ (Ext.push h _)
 ·have e1:xs.flatten.toArray++(ys.flatten.toArray++Builtin.zeroCells z.cells (nc-(l+m)))=((xs++ys).flatten++(Builtin.zeroCells z.cells (nc-(l+m))).toList).toArray:=by
   apply Array.toList_inj.1; simp
  rw [e1];exact aO.new h e _
 ·rw [Array.length_toList,ol,hzs]
theorem qN:Tryz.prog.underlying 23=some (.slice 96):=by kernel_rfl
def zn (h:Hp) (p:Option Addr) (us:List bD):Prop:=∀ i,(hi:i<us.length)→∃ a q m c,p=some a∧aG h (a.add (i*10)) 0 (encI q m c us[i])
theorem zn.ai {h h':Hp} {p:Option Addr} {us:List bD} (v:zn h p us) (k:Ext h h'):zn h' p us:=fun i hi=>by
 obtain ⟨a,q,m,c,ha,hc⟩:=v i hi;exact ⟨a,q,m,c,ha,bE k (by simp) _ _ hc⟩
theorem Fk.ic {h:Hp} {p:Option Addr} {l:Nat} {us:List bD} (v:Fk h p l us):zn h p us:=fun i hi=>by
 obtain ⟨a,q,m,c,ha,hc,_⟩:=v.cells i hi;exact ⟨a,q,m,c,ha,hc⟩
theorem zn.join {h:Hp} {p:Option Addr} {us:List bD} (v:zn h p us) (hn:0<us.length):∃ (a:Addr) (xs:List (List Value)),p=some a∧xs.length=us.length∧(∀ y,y∈xs→y.length=10)∧aG h a 0 xs.flatten∧∀ i,(hi:i<us.length)→(hi':i<xs.length)→∃ q m c,xs[i]=encI q m c us[i]:=by
 obtain ⟨a,q,m,c,ha,hc⟩:=v 0 hn;obtain ⟨xs,h1,h2,h3,h4,h5⟩:=vQ (h:=h) (a:=a) (sz:=10) (P:=fun i ys=>∀ hi:i<us.length,∃ q m c,ys=encI q m c us[i]) us.length (fun i hi=>by
  obtain ⟨a',q,m,c,ha',hc⟩:=v i hi;rw [ha] at ha';cases ha';exact ⟨_,rfl,hc,fun _=>⟨q,m,c,rfl⟩⟩)
 exact ⟨a,xs,ha,h1,h2,h3,fun i hi hi'=>h5 i hi' hi⟩
theorem Md {L:Lp} {h:Hp} {k:Option Addr→Nat→Nat→T} {p q:Option Addr} {l m d:Nat} {us vs:List bD} (v:zn h p us) (w:zn h q vs) (hl:l=us.length) (hm:m=vs.length) (hs:us.length+vs.length≤8192)
  (hk:∀ p' c' h',zn h' p' (us++vs)→Ext h h'→k p' (l+m) c' L K h') :
  T.bj Tryz.prog (Builtin.append_ #[23,23] 23 #[.slice p l l,.slice q m d]) false [(false,[.slice 0])] k L K h:=by
 obtain ⟨i,hi,hz,hsz,hby⟩:=kj L6;refine cG ?_
 by_cases hm0:m=0
 ·have:vs=[]:=List.eq_nil_of_length_eq_zero (by omega)
  subst this hm0;have hfin:=hk p l h (by rw [List.append_nil]; exact v) (Ch.refl _ _);simp only [Nat.add_zero] at hfin;cases p with
  | none =>
   cases q with
   | none =>
    simp [Builtin.append_,ak,aw qN,aZ hi,bK hi,Builtin.lenOf,Builtin.firstCells];exact ⟨_,_,_,rfl,hfin⟩
   | some b =>
    simp [Builtin.append_,ak,aw qN,aZ hi,bK hi,Builtin.lenOf,Builtin.firstCells];rw [fa];refine cz (vs:=[]) rfl trivial _ ?_;exact ⟨_,_,_,rfl,hfin⟩
  | some a =>
   cases q with
   | none =>
    simp [Builtin.append_,ak,aw qN,aZ hi,bK hi,Builtin.lenOf,Builtin.firstCells];exact ⟨_,_,_,rfl,hfin⟩
   | some b =>
    simp [Builtin.append_,ak,aw qN,aZ hi,bK hi,Builtin.lenOf,Builtin.firstCells];refine cz (vs:=[]) rfl trivial _ ?_;rw [fa];refine dq _ [] _ _ _ trivial ?_;exact ⟨_,_,_,rfl,hfin⟩
 ·obtain ⟨b,ys,rfl,y1,y2,y3,y4⟩:=w.join (by omega);have hxs:∃ xs:List (List Value),l=xs.length∧(∀ y,y∈xs→y.length=10)∧Gy h p xs∧∀ i,(hi:i<us.length)→(hi':i<xs.length)→∃ q m c,xs[i]=encI q m c us[i]:=by
   by_cases hu:us.length=0
   ·refine ⟨[],by simp; omega,by simp,?_,fun i hi=>by omega⟩;cases p with
    | none=>rfl
    | some a=>trivial
   ·obtain ⟨a,xs,rfl,x1,x2,x3,x4⟩:=v.join (by omega);exact ⟨xs,by omega,x2,x3,x4⟩
  obtain ⟨xs,x1,x2,x3,x4⟩:=hxs;refine BD (ys:=ys) qN hi hz (by rw [hsz]; rfl) x1 (by rw [hsz]; exact x2) x3 (by omega) (by omega) (by rw [hsz]; exact y2) y3 (by rw [hby]; omega) (by omega) ?_;intro c' h' s' e';rw [hsz] at s';refine ⟨_,_,_,rfl,hk _ c' h' (fun j hj=>?_) e'⟩;have hj':j<(xs++ys).length:=by rw [List.length_append] at hj ⊢; omega
  obtain ⟨a,ha,hc⟩:=SL.cells s' hj';have hex:∃ q m c,(xs++ys)[j]=encI q m c (us++vs)[j]:=by
   by_cases hju:j<us.length
   ·obtain ⟨q,m,c,hx⟩:=x4 j hju (by omega);exact ⟨q,m,c,by rw [List.getElem_append_left (by omega),List.getElem_append_left hju]; exact hx⟩
   ·have hxu:xs.length=us.length:=by omega
    rw [List.length_append] at hj;obtain ⟨q,m,c,hx⟩:=y4 (j-us.length) (by omega) (by omega);refine ⟨q,m,c,?_⟩;rw [List.getElem_append_right (by omega),List.getElem_append_right (by omega)];simp only [hxu];exact hx
  obtain ⟨q,m,c,hx⟩:=hex;rw [hx] at hc;exact ⟨a,q,m,c,ha,hc⟩
theorem Jr {h:Hp} {p:Option Addr} {l c:Nat} (hlc:l≤c):pQ Tryz.prog 42 [.slice p l c] h (.slice p l l):=by
 refine cK mixed Tryz.func42 (by kernel_rfl) (eK p l c) ?_;unfold dh;obtain ⟨i,hi,hz,hsz,hby⟩:=kj L6;refine cG ?_;unfold Instr.sliceAt;rw [ak,aw qN];show aH Tryz.prog (Instr.slice 23 (.slice p l c) none (some (.int .i64 (l:Int))) (some (.int .i64 (l:Int)))) h _;unfold Instr.slice Instr.sliceBounds;rw [ak,aw qN];show aH Tryz.prog ((Instr.sliceBound (.int .i64 (l:Int)) c .slice3Acap >>= fun m=>Instr.sliceBound (.int .i64 (l:Int)) m .slice3B >>= fun hh=>pure (0,hh,m)) >>= fun x=>_) h _;rw [ak,ak,bZ c _ rfl (by omega) (by omega),ak,bZ _ _ rfl (by omega) (by omega)];rw [yC];dsimp only;rw [ak,aZ hi];show ∃ p' l' c',(Value.slice _ _ _)=.slice p' l' c'∧_
 have hp:(if Int.toNat (l:Int)=0 then p else p.map (·.add (0*Tryz.prog.cellsOf 96)))=p:=by
  split
  ·rfl
  ·cases p with
   | none=>rfl
   | some a=>simp [Cp]
 refine ⟨p,l,l,?_,rfl,rfl⟩;rw [hp]
 simp
def tf (u:fS):List ByteArray:=if j0 u=0 then pO (ft u) else []
theorem EW (l:List lP) (i:Nat) (hi:i<l.length):(l.take (i+1)).map (·.1)=(l.take i).map (·.1)++[l[i].1]:=by
 rw [List.take_succ_eq_append_getElem hi,List.map_append];rfl
theorem CE {u:fS} (h:j0 u=0):u.text.length+u.data.length≤8192∧u.aQ.length≤8192:=by
 unfold j0 at h;cases hm:rG u with
 | true=>rw [hm] at h; simp at h
 | false =>
  unfold rG at hm;simp only [Bool.or_eq_false_iff,decide_eq_false_iff_not] at hm;omega
theorem yV {L:Lp} {h:Hp} {g off:Nat} {e:TypeId} {xs vs:List Value} {t:T} (b:aO h g e xs) (hv:(xs.drop off).take vs.length=vs) (ht:t L K h):T.aM [((⟨g,off,none⟩:Addr),vs)] t L K h :=
 ⟨⟨b.cells _ hv,trivial⟩,ht⟩
set_option maxHeartbeats 1000000 in
theorem Av {h:Hp} (t:y7 h) {a b c d:bP} {u:fS} (v:gn h a b c d u) (hac:a.l≤a.c):HC Tryz.prog 16 #[lh a b c d] h fun w h'=>(∃ p l c,w=.slice p l c∧SN h' h.size p l c (tf u))∧Ext h h':=by
 refine aK (args:=[lh a b c d]) mixed Tryz.func16 (by kernel_rfl) (uH a.p a.l a.c b.p b.l b.c c.p c.l c.c d.p d.l d.c) ?_;unfold rj;refine aX ?_;intro h1 b1 e1 z1;have b1:aO h1 h.size 27 [a.v,b.v,c.v,d.v]:=b1;refine ad b1 ((a.p,a.l,a.c),(b.p,b.l,b.c),(c.p,c.l,c.c),(d.p,d.l,d.c),()) rfl ?_;dsimp only [flat,az,ah,nA,cA];refine aB (je (t.ai e1 (by simp)) (v.ai e1)) ?_;rintro _ h2 ⟨rfl,e2⟩;refine ⟨((j0 u:Int),()),rfl,?_⟩;dsimp only [flat,az,ah,nA,cA];have e02:=e1.trans e2;unfold tf;refine af (fun r=>?_) (fun r=>?_)
 ·have r:¬ j0 u=0:=by simpa using r
  rw [if_neg r];exact ⟨⟨none,0,0,rfl,SL.nil _ _ _ _⟩,e02⟩
 have r:j0 u=0:=by simpa using r
 rw [if_pos r];obtain ⟨hs1,hs2⟩:=CE r;have b2:=b1.ai e2 (by simp);have n1:=v.text.len;have n2:=v.data.len;have n3:=v.aQ.len;refine ad b2 ((a.p,a.l,a.c),()) rfl ?_;dsimp only [flat,az,ah,nA,cA];rw [ao];refine ad b2 ((b.p,b.l,b.c),()) rfl ?_;dsimp only [flat,az,ah,nA,cA];refine iF (Jr hac) ((a.p,a.l,a.l),()) rfl ?_;dsimp only [flat,az,ah,nA,cA];refine yV b2 rfl ?_;refine Md (Fk.ic (v.text.ai e02)) (Fk.ic (v.data.ai e02)) n1 n2 hs1 ?_;intro p3 c3 h3 ic e3;have b3:=b2.ai e3 (by simp);have e03:=e02.trans e3;refine yV b3 rfl ?_;generalize hits:u.text++u.data=jW at ic;have hil0:a.l+b.l=jW.length:=by rw [← hits,List.length_append]; omega
 rw [hil0];have hal:ft u=cB jW++u.aQ.map (·.1):=by
  unfold ft;rw [← hits];unfold cB;rw [List.filter_append,List.map_append]
 have hz3:=e03.size;refine bh (cs:=[(false,[.slice 0]),(false,[.int .i64])]) (fun y m h'=>∃ i:Nat,y.2.1=(i:Int)∧m=jW.length-i∧i≤jW.length∧Ext h3 h'∧(cB (jW.take i)).length≤i∧SN h' h3.size y.1.1 y.1.2.1 y.1.2.2 (cB (jW.take i))) ((none,0,0),(0:Int),()) jW.length rfl
  ⟨0,rfl,rfl,by omega,Ch.refl _ _,by simp [cB],SL.nil _ _ _ _⟩ ?_
 rintro ⟨⟨p1,l2,l3⟩,n4,⟨⟩⟩ m h4 ⟨i,hi,rfl,hle,e4,hll,s⟩;simp only at hi s;subst hi;dsimp only [flat,az,ah,nA,cA];have hz4:=e4.size;have ic4:=ic.ai e4;refine af (fun q=>?_) (fun q=>?_)
 ·have q:=of_decide_eq_true q;have hil:i<jW.length:=by omega
  obtain ⟨aa,pp,ll,cc,eX,hc⟩:=ic4 i hil;have ht:=oY jW i hil;generalize jW[i]=x at hc ht;refine ay ⟨by omega,by omega⟩ (aj eX ?_);rw [show Int.toNat (i:Int)=i by omega];refine aE (x.kind,x.name,x.inst.op,x.inst.a,x.inst.b,x.inst.n,x.inst.form,(pp,ll,cc),(x.e.num:Int),x.n,()) hc ?_;dsimp only [flat,az,ah,nA,cA];refine aX ?_;intro g1 c1 f1 y1;refine an c1 rfl (by simp) ?_;intro g2 c2 k2 y2;have c2:aO g2 h4.size 96 (encI pp ll cc x):=c2;have f2:Ext h4 g2:=Ch.trans f1 k2 (fun i hi hl=>by simp at hi; omega);have e4g:=e4.trans f2;have s5:SN g2 h3.size p1 l2 l3 (cB (jW.take i)):=SL.ai s f2 (by simp);refine ad c2 (x.kind,()) rfl ?_;dsimp only [flat,az,ah,nA,cA];refine af (fun r=>?_) (fun r=>?_)
  ·have r:x.kind=1:=by simpa using r
   rw [if_pos r] at ht;rw [ao];refine ad c2 (x.name,()) rfl ?_;dsimp only [flat,az,ah,nA,cA];refine SN.push s5 x.name (by omega) (by have:=f2.size; omega) ?_;intro p' c' h6 s6 k6;refine aI (cs:=[(false,[.slice 0]),(false,[.int .i64])]) ((p',l2+1,c'),((i+1:Nat):Int),()) (jW.length-(i+1)) rfl (by omega) (by rw [wrap_i64 (by omega) (by omega)]; rfl) ?_;exact ⟨i+1,rfl,rfl,by omega,SN.ext e4g s5 (Nat.le_refl _) k6,by rw [ht,List.length_append]; simp; omega,by rw [ht]; exact s6⟩
  ·have r:¬ x.kind=1:=by simpa using r
   rw [if_neg r,List.append_nil] at ht;refine aI (cs:=[(false,[.slice 0]),(false,[.int .i64])]) ((p1,l2,l3),((i+1:Nat):Int),()) (jW.length-(i+1)) rfl (by omega) (by rw [wrap_i64 (by omega) (by omega)]; rfl) ?_;exact ⟨i+1,rfl,rfl,by omega,e4g,by rw [ht]; omega,by rw [ht]; exact s5⟩
 ·have q:=of_decide_eq_false q
  have:i=jW.length:=by omega
  subst this;rw [List.take_length] at s;have b4:=b3.ai e4 (by simp);rw [ao];refine ad b4 ((c.p,c.l,c.c),()) rfl ?_;dsimp only [flat,az,ah,nA,cA];have hlab:(cB jW).length≤8192:=by have:=jE jW; omega
  have e04:=e03.trans e4;refine bh (cs:=[(false,[.slice 0]),(false,[.int .i64])]) (fun y m h'=>∃ i:Nat,y.2.1=(i:Int)∧m=u.aQ.length-i∧i≤u.aQ.length∧Ext h3 h'∧SN h' h3.size y.1.1 y.1.2.1 y.1.2.2 (cB jW++(u.aQ.take i).map (·.1))) ((p1,l2,l3),(0:Int),()) u.aQ.length rfl
   ⟨0,rfl,rfl,by omega,e4,by simpa using s⟩ ?_
  rintro ⟨⟨p5,l5,c5⟩,n5,⟨⟩⟩ m h5 ⟨i,hi,rfl,hle,e5,s⟩;simp only at hi s;subst hi;dsimp only [flat,az,ah,nA,cA];have ve:=v.aQ.ai (e03.trans e5);have hz5:=e5.size;have hlen:=SN.len s;rw [List.length_append,List.length_map,List.length_take] at hlen;refine af (fun q=>?_) (fun q=>?_)
  ·have q:=of_decide_eq_true q;have hil:i<u.aQ.length:=by omega
   obtain ⟨aa,pp,ll,cc,eX,hc,va,hsz⟩:=ve.cells i hil;have ht:=EW u.aQ i hil;generalize u.aQ[i]=x at hc ht;refine ay ⟨by omega,by omega⟩ (aj eX ?_);rw [show Int.toNat (i:Int)=i by omega];refine aE (x.1,(pp,ll,cc),(x.2.num:Int),()) hc ?_;dsimp only [flat,az,ah,nA,cA];refine aX ?_;intro g1 c1 f1 y1;refine an c1 rfl (by simp) ?_;intro g2 c2 k2 y2;have c2:aO g2 h5.size 99 (E3 pp ll cc x):=c2;have f2:Ext h5 g2:=Ch.trans f1 k2 (fun i hi hl=>by simp at hi; omega);have e5g:=e5.trans f2;have s5:SN g2 h3.size p5 l5 c5 (cB jW++(u.aQ.take i).map (·.1)):=SL.ai s f2 (by simp);refine ad c2 (x.1,()) rfl ?_;dsimp only [flat,az,ah,nA,cA];refine SN.push s5 x.1 (by rw [List.length_append,List.length_map,List.length_take]; omega) (by have:=f2.size; omega) ?_;intro p' c' h6 s6 k6;refine aI (cs:=[(false,[.slice 0]),(false,[.int .i64])]) ((p',l5+1,c'),((i+1:Nat):Int),()) (u.aQ.length-(i+1)) rfl (by omega) (by rw [wrap_i64 (by omega) (by omega)]; rfl) ?_;exact ⟨i+1,rfl,rfl,by omega,SN.ext e5g s5 (Nat.le_refl _) k6,by rw [ht,← List.append_assoc]; exact s6⟩
  ·have q:=of_decide_eq_false q
   have:i=u.aQ.length:=by omega
   subst this;rw [List.take_length] at s;rw [← hal] at s;refine aB (IF s (by omega)) ?_;rintro _ h6 ⟨rfl,s6,k6⟩;refine ⟨(),rfl,?_⟩;exact ⟨⟨p5,l5,c5,rfl,SL.mono s6 (by omega)⟩,e03.trans (SN.ext e5 s (Nat.le_refl _) k6)⟩
end Go.Sx.Ob
set_option linter.unusedVariables false
set_option maxRecDepth 100000
namespace Go.Sx
open Go.Proofs
end Go.Sx
set_option linter.unusedVariables false
set_option linter.unusedSimpArgs false
set_option maxRecDepth 100000
namespace Go.Sx.Ob
open Go.Proofs
theorem pN {h:Hp} {a:Addr}:∀ (xs:List ByteArray) (k:Nat),(∀ i,(hi:i<xs.length)→aG h (a.add ((k+i)*1)) 0 [.string xs[i]])→aG h a k (xs.map IP).flatten
 | [],_,_=>trivial
 | x::xs,k,hc=>by
  refine ⟨?_,?_⟩
  ·have:=(hc 0 (by simp)).1
   rw [add_add] at this;simpa using this
  ·refine pN xs (k+1) fun i hi=>?_
   have:=hc (i+1) (by simpa using hi)
   rw [show k+1+i=k+(i+1) by omega];simpa using this
theorem FP.flat {h:Hp} {a:Addr} {l:Nat} {xs:List ByteArray} (v:FP h (some a) l xs):aG h a 0 (xs.map IP).flatten :=
 pN xs 0 fun i hi=>by
  obtain ⟨b,hb,hc,_⟩:=v.cells i hi;cases hb;rw [Nat.zero_add];exact hc
structure CU (h0:Hp) (a b c d:bP) (h:Hp):Prop where
 b1:aO h h0.size 27 [a.v,b.v,c.v,d.v]
 b2:aO h (h0.size+1) 27 zU
 ext:Ext h0 h
section
variable {h0 h h':Hp} {a b c d:bP}
theorem CU.ai (s:CU h0 a b c d h) (e:Ext h h'):CU h0 a b c d h':=⟨s.b1.ai e (by simp),s.b2.ai e (by simp),s.ext.trans e⟩
theorem CU.c0 (s:CU h0 a b c d h):aG h ⟨h0.size,0,none⟩ 0 [a.v]:=s.b1.cells _ rfl
theorem CU.c1 (s:CU h0 a b c d h):aG h (Addr.add ⟨h0.size,0,none⟩ 1) 0 [b.v]:=by rw [ao]; exact s.b1.cells _ rfl
theorem CU.c3 (s:CU h0 a b c d h):aG h (Addr.add ⟨h0.size,0,none⟩ 3) 0 [d.v]:=by rw [ao]; exact s.b1.cells _ rfl
theorem CU.sz (s:CU h0 a b c d h):h0.size+2≤h.size:=by have:=s.b2.lt; omega
end
section
variable {L:Lp} {K:Value→Hp→Prop} {h0 h:Hp}
end
theorem HU.take {h:Hp} {p:Option Addr} {l:Nat} {bs:Bt} (v:HU h p l bs) {n:Nat} (hn:n≤l):HU h p n (bs.take n):=by
 have hl:=v.len;refine ⟨by rw [List.length_take]; omega,fun i hi=>?_⟩;rw [List.length_take] at hi;obtain ⟨a,ha,hc⟩:=v.cells i (by omega);rw [List.getElem_take];exact ⟨a,ha,hc⟩
theorem pM {h:Hp} {a:Addr}:∀ (bs:Bt) (k:Nat),(∀ i,(hi:i<bs.length)→aG h (a.add ((k+i)*1)) 0 [.int .u8 (bs[i].toNat:Int)])→aG h a k (xA bs).flatten
 | [],_,_=>trivial
 | t::us,k,hc=>by
  have h0:=hc 0 (by simp);obtain ⟨h1,_⟩:=h0;rw [add_add] at h1;refine ⟨by simpa using h1,pM us (k+1) fun i hi=>?_⟩
  have:=hc (i+1) (by simpa using hi)
  rw [show k+(i+1)=k+1+i by omega] at this;exact this
theorem HU.flat {h:Hp} {a:Addr} {l:Nat} {bs:Bt} (v:HU h (some a) l bs):aG h a 0 (xA bs).flatten:=by
 refine pM bs 0 fun i hi=>?_
 obtain ⟨a',e,hc⟩:=v.cells i hi;cases e;rw [Nat.zero_add];exact hc
theorem gn.zero (h:Hp):gn h fX fX fX fX tq:=⟨⟨rfl,by decide,fun i hi=>by cases hi⟩,⟨rfl,by decide,fun i hi=>by cases hi⟩,⟨rfl,by decide,fun i hi=>by cases hi⟩,⟨rfl,by decide,fun i hi=>by cases hi⟩⟩
end Go.Sx.Ob
set_option linter.unusedVariables false
set_option maxRecDepth 100000
namespace Go.Sx.BB
open Go.Sx Go.Sx.Ob
open Go.Proofs
structure Ib where
 p:Option Addr
 l:Nat
 c:Nat
 q:Option Addr
 d:Nat
 ts:Bt
def Ib.one (e:Ib):List Value:=[.slice e.p e.l e.c]
def Ib.two (e:Ib):List Value:=[.slice e.q e.l e.d]
theorem yd (p:Option Addr) (k:Nat):aC (p.map fun a=>a.add k)=aC p:=by
 cases p with
 | none=>rfl
 | some a=>simp [aC,ji]
def iC (b:Nat) (h h':Hp):Prop:=h.size≤h'.size∧∀ i,i<b→i<h.size→h'[i]?=h[i]?
theorem iC.of {ws:List Nat} {b:Nat} {h h':Hp} (k:Ch ws h h') (hw:∀ i,i∈ws→i<h.size→b≤i):iC b h h' :=
 ⟨k.size,fun i hi hl=>k.same i hl fun hm=>by have:=hw i hm hl; omega⟩
theorem iC.trans {b:Nat} {h h1 h2:Hp} (a:iC b h h1) (c:iC b h1 h2):iC b h h2 :=
 ⟨Nat.le_trans a.1 c.1,fun i hi hl=>(c.2 i hi (Nat.lt_of_lt_of_le hl a.1)).trans (a.2 i hi hl)⟩
theorem iC.ext {h h1 h2:Hp} (a:Ext h h1) (c:iC h.size h1 h2):Ext h h2 :=
 ⟨Nat.le_trans a.size c.1,fun i hi _=>(c.2 i hi (Nat.lt_of_lt_of_le hi a.size)).trans (a.same i hi (by simp))⟩
def NV (i j:Int):Int:=IntKind.wrap .u8 (Int.fdiv (IntKind.wrap .i64 (i+(1:Int))) ((2:Int)^(min (IntKind.u64.wrap (IntKind.i64.wrap (8*j.tmod 3))).toNat IntKind.i64.bits)))
def Mw (k j:Nat):List Value:=[.int .u8 (NV k j)]
def Room (h:Hp) (b:Nat) (p:Option Addr) (c k m:Nat):Prop :=
 match p with
 | none=>c=0
 | some a=>∃ g o cells,a=⟨g,o,none⟩∧b≤g∧c<9223372036854775808∧aO h g 5 cells∧o+c*1≤cells.length∧∀ j,j<m→(cells.drop (o+j*1)).take 1=Mw k j
theorem Room.ai {ws:List Nat} {h h':Hp} {b:Nat} {p:Option Addr} {c k m:Nat} (r:Room h b p c k m) (kk:Ch ws h h') (hw:∀ i,i∈aC p→i∉ws):Room h' b p c k m:=by
 cases p with
 | none=>exact r
 | some a =>
  obtain ⟨g,o,cells,rfl,hbg,hc,hbox,hr,hm⟩:=r;exact ⟨g,o,cells,rfl,hbg,hc,hbox.ai kk (hw g (by simp [aC])),hr,hm⟩
end Go.Sx.BB
set_option linter.unusedVariables false
set_option linter.unusedSimpArgs false
set_option maxRecDepth 100000
namespace Go.Sx.Ob
open Go.Proofs
variable {H:Type}
def KA (lo hi:Nat) (h h':Hp):Prop:=h.size≤h'.size∧∀ i,i<h.size→(i<lo∨hi≤i)→h'[i]?=h[i]?
theorem KA.refl (lo hi:Nat) (h:Hp):KA lo hi h h:=⟨Nat.le_refl _,fun _ _ _=>rfl⟩
theorem KA.step {lo hi:Nat} {h h1 h2:Hp} {ws:List Nat} (b:KA lo hi h h1) (k:Ch ws h1 h2) (hw:∀ i,i∈ws→i<h.size→lo≤i∧i<hi):KA lo hi h h2 :=
 ⟨Nat.le_trans b.1 k.size,fun i hi hb=>(k.same i (Nat.lt_of_lt_of_le hi b.1) (fun hm=>by have:=hw i hm hi; omega)).trans (b.2 i hi hb)⟩
theorem KA.box {lo hi:Nat} {h h':Hp} (b:KA lo hi h h') {g:Nat} {e:TypeId} {xs:List Value} (bx:aO h g e xs) (hg:g<lo∨hi≤g):aO h' g e xs:=(b.2 g bx.lt hg).trans bx
def M9 (hq h':Hp):Prop:=∀ g cells,aO hq g 109 cells→∃ cells',aO h' g 109 cells'∧cells'.length=cells.length
theorem M9.ai {hq h1 h2:Hp} {ws:List Nat} (s:M9 hq h1) (k:Ch ws h1 h2) (hw:∀ i,i∈ws→i<h1.size→∃ e ys,aO h1 i e ys∧e≠109):M9 hq h2:=by
 intro g cells b;obtain ⟨c',b',hl⟩:=s g cells b;refine ⟨c',b'.ai k (fun hm=>?_),hl⟩;obtain ⟨e,ys,b2,he⟩:=hw g hm b'.lt;unfold aO at b' b2;rw [b'] at b2;simp only [Option.some.injEq,Obj.cells.injEq] at b2;exact he b2.2.1.symm
theorem SN.Ns {h:Hp} {b:Nat} {p:Option Addr} {l c:Nat} {xs:List ByteArray} (v:SN h b p l c xs) (hm:xs.length≤2^60) (hs:∀ x,x∈xs→x.size≤maxLen):FP h p l xs :=
 ⟨SN.len v,hm,fun i hi=>by
  obtain ⟨a,ha,hc⟩:=SN.cell v hi;exact ⟨a,ha,hc,hs _ (List.getElem_mem hi)⟩⟩
set_option maxHeartbeats 800000 in
theorem Lj:Tryz.prog.underlying 47=some (.slice 27):=by kernel_rfl
theorem LC:(Tryz.prog.info? 27).map (fun i=>(i.zero,i.size,i.bytes))=some (some (.agg #[.slice none 0 0,.slice none 0 0,.slice none 0 0,.slice none 0 0]),4,96):=by kernel_rfl
theorem KC (p1:Option Addr) (l1 c1:Nat) (p2:Option Addr) (l2 c2:Nat) (p3:Option Addr) (l3 c3:Nat) (p4:Option Addr) (l4 c4:Nat):Instr.fill (fun j=>some (j*4,4)) ((Array.range (1*4)).map ((Value.agg #[.slice none 0 0,.slice none 0 0,.slice none 0 0,.slice none 0 0]).cells[· % (Value.agg #[.slice none 0 0,.slice none 0 0,.slice none 0 0,.slice none 0 0]).cells.size]!)) [(0,.agg #[.slice p1 l1 c1,.slice p2 l2 c2,.slice p3 l3 c3,.slice p4 l4 c4])]=some ([.slice p1 l1 c1,.slice p2 l2 c2,.slice p3 l3 c3,.slice p4 l4 c4]:List Value).toArray:=by kernel_rfl
theorem Ag {l:List bD} {s:ByteArray} (h:s∈cB l):∃ x,x∈l∧x.name=s:=by
 unfold cB at h;obtain ⟨x,hx,rfl⟩:=List.mem_map.1 h;exact ⟨x,(List.mem_filter.1 hx).1,rfl⟩
theorem D7 {h:Hp} {a b c d:bP} {u:fS} (v:gn h a b c d u):∀ x,x∈ft u→x.size≤maxLen:=by
 intro s hs;unfold ft at hs;rcases List.mem_append.1 hs with hs | hs
 ·rcases List.mem_append.1 hs with hs | hs
  ·obtain ⟨x,hx,rfl⟩:=Ag hs;obtain ⟨i,hi,rfl⟩:=List.getElem_of_mem hx;obtain ⟨_,_,_,_,_,_,va⟩:=v.text.cells i hi;exact va.name
  ·obtain ⟨x,hx,rfl⟩:=Ag hs;obtain ⟨i,hi,rfl⟩:=List.getElem_of_mem hx;obtain ⟨_,_,_,_,_,_,va⟩:=v.data.cells i hi;exact va.name
 ·obtain ⟨x,hx,rfl⟩:=List.mem_map.1 hs;obtain ⟨i,hi,rfl⟩:=List.getElem_of_mem hx;obtain ⟨_,_,_,_,_,_,_,hz⟩:=v.aQ.cells i hi;exact hz
theorem Cj {u:fS} (h:j0 u=0):(ft u).Nodup:=by
 unfold j0 at h;split at h
 ·cases h
 split at h
 ·rename_i hk;rw [xW] at hk;unfold wj at hk;simp only [Bool.and_eq_true,decide_eq_true_eq] at hk;exact hk.2.2.2.1
 ·cases h
theorem FK (u:fS):(ft u).length≤u.text.length+u.data.length+u.aQ.length:=by
 unfold ft;have h1:=jE u.text;have h2:=jE u.data;rw [List.length_append,List.length_append,List.length_map];omega
set_option maxHeartbeats 1000000 in
theorem IZ {h:Hp} (f:Fx h) {a b c d:bP} {u:fS} (v:gn h a b c d u) (hac:a.l≤a.c):HC Tryz.prog 5 #[lh a b c d] h fun v h'=>v=.bool true∧Ext h h':=by
 refine aK (args:=[lh a b c d]) mixed Tryz.func5 (by kernel_rfl) (jb a.p a.l a.c b.p b.l b.c c.p c.l c.c d.p d.l d.c) ?_;unfold fc;refine aX ?_;intro h1 b1 e1 z1;have b1:aO h1 h.size 27 [a.v,b.v,c.v,d.v]:=b1;refine ad b1 ((a.p,a.l,a.c),(b.p,b.l,b.c),(c.p,c.l,c.c),(d.p,d.l,d.c),()) rfl ?_;dsimp only [flat,az,ah,nA,cA];refine dP Lj LC (by omega) (by omega) (KC a.p a.l a.c b.p b.l b.c c.p c.l c.c d.p d.l d.c) ?_;intro h2 b2 e2 z2;have e02:=e1.trans e2;have vu:Ly h2 (some ⟨h1.size,0,none⟩) 1 [u]:=⟨rfl,by simp,fun i hi=>by
  have:i=0:=by simp at hi; omega
  subst this;exact ⟨_,a,b,c,d,rfl,by rw [Nat.zero_mul,Cp]; exact b2.cells _ rfl,v.ai e02⟩⟩
 refine aD (HL vu) ?_;have b12:=b1.ai e2 (by simp);refine af (fun q=>?_) (fun q=>?_)
 ·refine aB (vz h2 (f.ai e02)) ?_;rintro _ h3 ⟨rfl,e3⟩;refine ⟨(true,()),rfl,?_⟩;exact ⟨rfl,e02.trans e3⟩
 have hbig:uE u=false:=by
  unfold ti at q;simp only [List.take_succ_cons,List.take_nil,Bool.or_eq_false_iff] at q;simpa using q.1
 have hsz:u.text.length≤600∧u.data.length≤300∧u.aQ.length≤100:=by
  unfold uE at hbig;simp only [Bool.or_eq_false_iff,decide_eq_false_iff_not] at hbig;omega
 refine ad b12 ((a.p,a.l,a.c),(b.p,b.l,b.c),(c.p,c.l,c.c),(d.p,d.l,d.c),()) rfl ?_;dsimp only [flat,az,ah,nA,cA];refine aB (Ey (v.ai e02)) ?_;rintro _ h3 ⟨rfl,e3⟩;refine ⟨((j0 u:Int),()),rfl,?_⟩;dsimp only [flat,az,ah,nA,cA];have e03:=e02.trans e3;have b13:=b12.ai e3 (by simp);refine ad b13 ((a.p,a.l,a.c),(b.p,b.l,b.c),(c.p,c.l,c.c),(d.p,d.l,d.c),()) rfl ?_;dsimp only [flat,az,ah,nA,cA];refine aB (je (f.ai e03).tb.J3 (v.ai e03)) ?_;rintro _ h4 ⟨rfl,e4⟩;refine ⟨((j0 u:Int),()),rfl,?_⟩;dsimp only [flat,az,ah,nA,cA];have e04:=e03.trans e4;have b14:=b13.ai e4 (by simp);have v4:=v.ai e04;have f4:=f.ai e04;refine aU (by simp) ?_;refine af (fun r=>?_) (fun r=>?_)
 ·have r:¬ j0 u=0:=by simpa using r
  refine ad b14 ((a.p,a.l,a.c),(b.p,b.l,b.c),(c.p,c.l,c.c),(d.p,d.l,d.c),()) rfl ?_;dsimp only [flat,az,ah,nA,cA];refine aB (Av f4.tb.J3 v4 hac) ?_;rintro _ h5 ⟨⟨p5,l5,c5,rfl,s5⟩,e5⟩;have hn:tf u=[]:=by unfold tf; rw [if_neg r]
  rw [hn] at s5;have hl5:l5=0:=SN.len s5;refine ⟨((p5,l5,c5),()),rfl,?_⟩;dsimp only [flat,az,ah,nA,cA];refine aT (by rw [hl5]; rfl) ?_;refine ad (b14.ai e5 (by simp)) ((a.p,a.l,a.c),(b.p,b.l,b.c),(c.p,c.l,c.c),(d.p,d.l,d.c),()) rfl ?_;dsimp only [flat,az,ah,nA,cA];refine aB (sG (f4.ai e5).tb.J3 (v4.ai e5)) ?_;rintro _ h6 ⟨rfl,e6⟩;rw [if_neg r];refine ⟨(((0:Nat):Int),()),rfl,?_⟩;dsimp only [flat,az,ah,nA,cA];refine aT rfl ?_;have e56:=e5.trans e6;refine aB (vz h6 (f4.ai e56)) ?_;rintro _ h7 ⟨rfl,e7⟩;refine ⟨(true,()),rfl,?_⟩;exact ⟨rfl,(e04.trans e56).trans e7⟩
 have r:j0 u=0:=by simpa using r
 have hnd:=Cj r;have hal:=D7 v;have hlen:=FK u;refine ad b14 ((a.p,a.l,a.c),(b.p,b.l,b.c),(c.p,c.l,c.c),(d.p,d.l,d.c),()) rfl ?_;dsimp only [flat,az,ah,nA,cA];refine ad b14 ((a.p,a.l,a.c),(b.p,b.l,b.c),(c.p,c.l,c.c),(d.p,d.l,d.c),()) rfl ?_;dsimp only [flat,az,ah,nA,cA];refine aB (Av f4.tb.J3 v4 hac) ?_;rintro _ h5 ⟨⟨p5,l5,c5,rfl,s5⟩,e5⟩;have hn:tf u=bH (ft u):=by unfold tf; rw [if_pos r,Ai hnd]
 rw [hn] at s5;refine ⟨((p5,l5,c5),()),rfl,?_⟩;dsimp only [flat,az,ah,nA,cA];have b15:=b14.ai e5 (by simp);refine ⟨⟨b15.cells _ rfl,trivial⟩,?_⟩;refine aB (wT (v4.ai e5) (by omega) (by omega) (by omega)) ?_;rintro _ h6 ⟨p6,l6,c6,rfl,s6,e6⟩;refine ⟨((p6,l6,c6),()),rfl,?_⟩;dsimp only [flat,az,ah,nA,cA];have b16:=b15.ai e6 (by simp);refine ⟨⟨b16.cells _ rfl,trivial⟩,?_⟩;refine aB (Ce s6 (by omega)) ?_;rintro _ h7 ⟨p7,l7,c7,rfl,s7,e7⟩;refine ⟨((p7,l7,c7),()),rfl,?_⟩;dsimp only [flat,az,ah,nA,cA];have b17:=b16.ai e7 (by simp);refine ⟨⟨b17.cells _ rfl,b17.cells _ rfl,trivial⟩,?_⟩;have hsl:=yB (ft u);have hss:∀ x,x∈bH (ft u)→x.size≤maxLen:=fun x hx=>hal x ((gO _ _).1 hx)
 have Mu:SN h7 h4.size p5 l5 c5 (bH (ft u)):=SL.ai s5 (e6.trans e7) (by simp);refine aB (CL (SN.Ns Mu (by omega) hss) (SN.Ns s7 (by omega) hss)) ?_;rintro _ h8 ⟨t8,rfl,ht8,e8⟩;have ht8:t8=true:=ht8.2 rfl;subst ht8;refine ⟨(true,()),rfl,?_⟩;dsimp only [flat,az,ah,nA,cA];have b18:=b17.ai e8 (by simp);refine ⟨⟨b18.cells _ rfl,b18.cells _ rfl,trivial⟩,?_⟩;refine aT rfl ?_;refine ad b18 ((a.p,a.l,a.c),(b.p,b.l,b.c),(c.p,c.l,c.c),(d.p,d.l,d.c),()) rfl ?_;dsimp only [flat,az,ah,nA,cA];refine ad b18 ((a.p,a.l,a.c),(b.p,b.l,b.c),(c.p,c.l,c.c),(d.p,d.l,d.c),()) rfl ?_;dsimp only [flat,az,ah,nA,cA];have e48:=((e5.trans e6).trans e7).trans e8;refine aB (sG (f4.ai e48).tb.J3 (v4.ai e48)) ?_;rintro _ h9 ⟨rfl,e9⟩;rw [if_pos r];refine ⟨(((fP u.text:Nat):Int),()),rfl,?_⟩;dsimp only [flat,az,ah,nA,cA];have b19:=b18.ai e9 (by simp);refine ⟨⟨b19.cells _ rfl,b19.cells _ rfl,b19.cells _ rfl,trivial⟩,?_⟩;refine aB (Cc (v4.ai (e48.trans e9))) ?_;rintro _ h10 ⟨rfl,e10⟩;refine ⟨(((fP u.text:Nat):Int),()),rfl,?_⟩;dsimp only [flat,az,ah,nA,cA];have b20:=b19.ai e10 (by simp);refine ⟨⟨b20.cells _ rfl,b20.cells _ rfl,b20.cells _ rfl,trivial⟩,?_⟩;refine aT (by simp) ?_;have e4a:=(e48.trans e9).trans e10;refine aB (vz h10 (f4.ai e4a)) ?_;rintro _ h11 ⟨rfl,e11⟩;refine ⟨(true,()),rfl,?_⟩;dsimp only [flat,az,ah,nA,cA];have b21:=b20.ai e11 (by simp);refine ⟨⟨b21.cells _ rfl,b21.cells _ rfl,b21.cells _ rfl,b21.cells _ rfl,trivial⟩,?_⟩;exact ⟨rfl,(e04.trans e4a).trans e11⟩
open Go.Proofs Go.Proofs.YtfkjiiapldkoeaaGreatDoor
open Go.ChangeShapes Go.WideShapes Go.ChangeAt Go.WideMaps Go.WideElems Go.RowKit
theorem MH:ownKnob Tryz.prog.godebug=none:=by kernel_rfl
theorem u9:Tryz.prog.underlying 9=some .string:=by kernel_rfl
theorem u4:Tryz.prog.underlying 4=some .bool:=by kernel_rfl
theorem u3:Tryz.prog.underlying 3=some (.int .i64):=by kernel_rfl
theorem u5:Tryz.prog.underlying 5=some (.int .u8):=by kernel_rfl
theorem MY:Tryz.prog.underlying 215=some (.array 43 158):=by kernel_rfl
theorem Lu:Tryz.prog.cellsOf 158=3:=by kernel_rfl
theorem Mz:Tryz.prog.cellsOf 215=129:=by kernel_rfl
theorem c9:Tryz.prog.cellsOf 9=1:=by kernel_rfl
theorem c5:Tryz.prog.cellsOf 5=1:=by kernel_rfl
theorem c3:Tryz.prog.cellsOf 3=1:=by kernel_rfl
theorem Nb:oK Tryz.prog 158=some [(9,0),(5,1),(3,2)]:=by kernel_rfl
def zv:List (DataW Unit):=match (Rows.laid_spandrel_isa_table:DataW Unit) with | .agg l=>l | _=>[]
def HJ:DataW Unit→Int
 | .agg [_,_,.lit (.int _ n)]=>n
 | _=>0
theorem Jc:(Rows.laid_spandrel_isa_table:DataW Unit)=.agg zv:=by kernel_rfl
theorem Hm:zv.map HJ=(List.range 43).map fun k=>((bS.getD k 0:Nat):Int):=by kernel_rfl
theorem Bu {α β:Type} (f:α→List β) (m:Nat) (hf:∀ x,(f x).length=m):∀ l:List α,(l.flatMap f).length=l.length*m
 | []=>by simp
 | x::l=>by rw [List.flatMap_cons,List.length_append,hf,Bu f m hf l,List.length_cons,Nat.succ_mul,Nat.add_comm]
theorem zj (nm:Nat→ByteArray) (uL:Nat→Int):(hO nm uL).length=129:=by
 unfold hO;rw [Bu _ 3 (fun x=>rfl),List.length_range]
def Kd:DataW Unit→List UInt8
 | .agg [.lit (.string s),_,_]=>s
 | _=>[]
def Kg:DataW Unit→Int
 | .agg [_,.lit (.int _ n),_]=>n
 | _=>0
theorem I6:zv.map Kd=(List.range 43).map fun k=>Ei k:=by kernel_rfl
theorem Jh:zv.map Kg=(List.range 43).map fun k=>cm k:=by kernel_rfl
theorem E2 {ec:TypeId × Value→Unit} {W:World} {base fuel:Nat} {sp:Nat→Bool} {held:Bool} {cs:List Value} {p:List MemPlace}
  (h:DataW.trod ec Tryz.prog W base sp held fuel 215 cs=some (Rows.laid_spandrel_isa_table,p)):cs=hO cd cm:=by
 obtain ⟨xs,m,_,hx,hl,hlen,hf⟩:=DataW.trod_array MY h;rw [Mz] at hl;have hxs:xs.map (·.1)=zv:=by
  have:=congrArg Prod.fst hx
  rw [show (Rows.laid_spandrel_isa_table,p).1=DataW.agg zv from Jc] at this;simpa using this.symm
 have each:∀ i,i<43→(cs.drop (i*3)).take 3=[.string (cd i),.int .u8 (cm i),.int .i64 ((bS.getD i 0:Nat):Int)]:=by
  intro i hi;have h1:=hf i hi;rw [Lu] at h1;rw [List.getElem?_eq_getElem (by omega)] at h1;obtain ⟨ys,n,hy,hyl,hyn,hys⟩:=eA Nb h1;obtain ⟨y0,g0,t0⟩:=hys 0 _ rfl;obtain ⟨y1,g1,t1⟩:=hys 1 _ rfl;obtain ⟨y2,g2,t2⟩:=hys 2 _ rfl;rw [Lu] at hyl;generalize hc:(cs.drop (i*3)).take 3=c at *
  match c,hyl with
  | [v0,v1,v2],_ =>
   rw [show Tryz.prog.cellsOf (9,0).1=1 from c9] at t0;rw [show Tryz.prog.cellsOf (5,1).1=1 from c5] at t1;rw [show Tryz.prog.cellsOf (3,2).1=1 from c3] at t2;obtain ⟨s,e0,r0,_⟩:=DataW.trod_string u9 t0;obtain ⟨b,e1,r1,_⟩:=DataW.trod_int u5 t1;obtain ⟨k,e2,r2,_⟩:=DataW.trod_int u3 t2;cases e0; cases e1; cases e2;have hys3:ys=[y0,y1,y2]:=by
    apply List.ext_getElem?;intro j
    match j with
    | 0=>exact g0
    | 1=>exact g1
    | 2=>exact g2
    | j+3=>rw [List.getElem?_eq_none (by rw [hyn]; simp),List.getElem?_eq_none (by simp)]
   have h2:(xs.map (·.1))[i]?=some (xs[i]'(by omega)).1:=by rw [List.getElem?_map,List.getElem?_eq_getElem (by omega)]; rfl
   rw [hxs] at h2;have hk:k=((bS.getD i 0:Nat):Int):=by
    have h3:(zv.map HJ)[i]?=some (HJ (xs[i]'(by omega)).1):=by rw [List.getElem?_map,h2]; rfl
    rw [Hm,List.getElem?_map,List.getElem?_range hi] at h3;rw [hy,hys3,r0,r1,r2] at h3;exact (Option.some.inj h3).symm
   have hb:b=cm i:=by
    have h3:(zv.map Kg)[i]?=some (Kg (xs[i]'(by omega)).1):=by rw [List.getElem?_map,h2]; rfl
    rw [Jh,List.getElem?_map,List.getElem?_range hi] at h3;rw [hy,hys3,r0,r1,r2] at h3;exact (Option.some.inj h3).symm
   have hs:s=cd i:=by
    have h3:(zv.map Kd)[i]?=some (Kd (xs[i]'(by omega)).1):=by rw [List.getElem?_map,h2]; rfl
    rw [I6,List.getElem?_map,List.getElem?_range hi] at h3;rw [hy,hys3,r0,r1,r2] at h3;exact mg (Option.some.inj h3).symm
   rw [hk,hb,hs]
 apply List.ext_getElem?;intro j
 by_cases hj:j<129
 ·obtain ⟨a,b,hab,hb⟩:∃ a b,j=a*3+b∧b<3:=⟨j / 3,j % 3,by omega,by omega⟩
  subst hab;unfold hO;rw [su (fun k=>[Value.string (cd k),.int .u8 (cm k),.int .i64 (bS.getD k 0:Nat)]) 3 (fun x=>rfl) _ a b hb,List.getElem?_range (by omega)];show cs[a*3+b]?=[Value.string (cd a),.int .u8 (cm a),.int .i64 ((bS.getD a 0:Nat):Int)][b]?
  have:=each a (by omega)
  rw [← this,List.getElem?_take,if_pos hb,List.getElem?_drop]
 ·have hr:(hO cd cm).length=129:=zj _ _;rw [List.getElem?_eq_none (by omega),List.getElem?_eq_none (by omega)]
theorem DP {P:Program} {W:World} {name:String} {g:Nat} {cs:Array Value} (hg:P.globalNamed name=some g) (hv:W.var? P name=some cs):∃ e f,W.heap[g]?=some (.cells cs e f):=by
 unfold World.var? at hv;rw [hg] at hv;have hv:(match (W.heap[g]?:Option Obj) with | some (.cells cs _ _)=>some cs | _=>none)=some cs:=hv;split at hv
 ·rename_i cs' e f hh;cases hv;exact ⟨e,f,hh⟩
 ·cases hv
theorem Lx : Tryz.prog.underlying 29 = some (.interface #[("Error", 85)]) := by kernel_rfl
theorem I9 {W:World} (h:laidMetH Tryz.prog Rows.unitAssemblesRow.laid W):pJ W.heap∧Laid W.heap∧qc W.heap:=by
 rw [MakeChecks.laidMetH_plain _ _ _ (by kernel_rfl)] at h;obtain ⟨ps,⟨g0,t0,cs0,f0,p0,q0,hg0,ht0,hv0,hd0,⟨g1,t1,cs1,f1,p1,q1,hg1,ht1,hv1,hd1,⟨g2,t2,cs2,f2,p2,q2,hg2,ht2,hv2,hd2,⟨g3,t3,cs3,f3,p3,q3,hg3,ht3,hv3,hd3,⟨g4,t4,cs4,f4,p4,q4,hg4,ht4,hv4,hd4,⟨g5,t5,cs5,f5,p5,q5,hg5,ht5,hv5,hd5,_,_⟩,_⟩,_⟩,_⟩,_⟩,_⟩,_,_⟩:=h;obtain rfl:=Option.some.inj ((show Tryz.prog.globalNamed _=some 3 by kernel_rfl).symm.trans hg2);obtain rfl:=Option.some.inj ((show Tryz.prog.globalNamed _=some 1 by kernel_rfl).symm.trans hg3);obtain rfl:=Option.some.inj ((show Tryz.prog.globalNamed _=some 5 by kernel_rfl).symm.trans hg4);obtain rfl:=Option.some.inj ((show Tryz.prog.globalNamed _=some 4 by kernel_rfl).symm.trans hg5);have h2:(Tryz.prog.globals[3]?).map (·.type)=some 295:=by kernel_rfl
 obtain rfl:=Option.some.inj (h2.symm.trans ht2);have h3:(Tryz.prog.globals[1]?).map (·.type)=some 215:=by kernel_rfl
 obtain rfl:=Option.some.inj (h3.symm.trans ht3);have h4:(Tryz.prog.globals[5]?).map (·.type)=some 29:=by kernel_rfl
 obtain rfl:=Option.some.inj (h4.symm.trans ht4);have h5:(Tryz.prog.globals[4]?).map (·.type)=some 29:=by kernel_rfl
 obtain rfl:=Option.some.inj (h5.symm.trans ht5);have hc:=Lib.cells_of_tab (n:=20) (e:=209) (k:=.u64) (zs:=Lib.pow10Tab) (by kernel_rfl) (by kernel_rfl) (by kernel_rfl) (by kernel_rfl) hd2;have hr:=E2 hd3;obtain ⟨e2,ff2,ho2⟩:=DP hg2 hv2;obtain ⟨e3,ff3,ho3⟩:=DP hg3 hv3;obtain ⟨_,w4,v4,e4,_⟩:=iface_of_trod Lx hd4;obtain ⟨_,w5,v5,e5,_⟩:=iface_of_trod Lx hd5;have c4:=World.var?_cell hg4 hv4 0;have c5:=World.var?_cell hg5 hv5 0;rw [← Array.getElem?_toList,e4] at c4;rw [← Array.getElem?_toList,e5] at c5;refine ⟨⟨e3,ff3,?_⟩,⟨⟨_,c5,rfl⟩,⟨_,c4,rfl⟩⟩,⟨e2,ff2,?_⟩⟩
 ·rw [ho3,← hr]
 ·rw [ho2,← hc]
theorem HB (os:Os) (args:Array Value):laidMetH Tryz.prog Rows.unitAssemblesRow.laid ((World.doorLaid Tryz.prog 400 os).forCall (fun _ _=>0) ⟨#[],args,[]⟩).memory :=
 laidMetH_of_parts3 (fuel:=8) (laidMet_of_run' 8 (by kernel_rfl) (by kernel_rfl)) (by kernel_rfl) (by kernel_rfl)
structure sU (x:ey):Prop where
 D6:∀ t,t∈x.au→t.2<4294967296
 num:x.num<4294967296
structure Kn (u:fS):Prop where
 text:∀ x,x∈u.text→sU x.e
 data:∀ x,x∈u.data→sU x.e
 aQ:∀ x,x∈u.aQ→sU x.2
theorem Lk:Kids Tryz.prog (·<Tryz.prog.types.size):=kids_rows (by kernel_rfl) (by kernel_rfl)
theorem sliceB:((List.range Tryz.prog.types.size).all fun t=>match Tryz.prog.underlying t with | some (.slice e)=>decide (0<Tryz.prog.cellsOf e) | _=>true)=true:=by kernel_rfl
theorem Kk {t e:TypeId} (ht:t<Tryz.prog.types.size) (hu:Tryz.prog.underlying t=some (.slice e)):0<Tryz.prog.cellsOf e:=by
 have:=List.all_eq_true.1 sliceB t (List.mem_range.2 ht)
 rw [hu] at this;exact of_decide_eq_true this
theorem pY {ec:TypeId × Value→H} {W W':World} {sp:Nat→Bool} (hB:Below W.heap.size W W'):∀ {ts:List TypeId} {vs:List Value} {ds:List (DataW H)} {ps:List MemPlace},(∀ t∈ts,t<Tryz.prog.types.size) →
  DataW.TrodAll ec Tryz.prog W 0 (fun _=>true) true ts vs ds ps→(∀ p∈ps,p.block<W.heap.size)→(∀ p∈ps,sp p.block=true)→DataW.TrodAll ec Tryz.prog W' 0 sp true ts vs ds ps
 | [],_,_,_,_,h,_,_=>by
  obtain ⟨rfl,rfl,rfl⟩:=trodAll_nil h;exact trodAll_mk0
 | t::ts,_,_,_,ht,h,hl,hs=>by
  obtain ⟨v,vs1,d,ds1,a,b,rfl,rfl,rfl,⟨n,h1⟩,h2⟩:=trodAll_cons h;exact ⟨a,b,⟨n,DataW.trod_stays Lk (fun h hu=>Kk h hu) (fun h=>by cases h) (ht t (List.mem_cons_self ..)) h1 (fun p hp=>Cg hB (hl p (List.mem_append_left _ hp))) (fun p hp=>hs p (List.mem_append_left _ hp))⟩,
   pY hB (fun t h=>ht t (List.mem_cons_of_mem _ h)) h2 (fun p hp=>hl p (List.mem_append_right _ hp)) (fun p hp=>hs p (List.mem_append_right _ hp)),rfl⟩
theorem HN {ec:TypeId × Value→H} {f:Func} {s:ChangeSpec} {apart fresh handsOn:Bool} {W W':World} {args:Array Value} {v:Value} {ds gs:List (DataW H)} {before:List MemPlace} (hv0:s.vars=[])
  (hW:DataW.Whole ec Tryz.prog f.params.toList s.vars apart W args.toList ds gs before)
  (hres:∀ (b:Nat) (sp:Nat→Bool) (hd:Bool),DataW.TrodAll ec Tryz.prog W' b sp hd f.resultTypes.toList (v.resultList f.resultTypes.size) (s.fn H (ds++gs)).results [])
  (hargs:(s.fn H (ds++gs)).args=ds) (fp:(s.fn H (ds++gs)).vars=[]) (hts:∀ t∈f.params.toList,t<Tryz.prog.types.size) (hB:Below W.heap.size W W') :
  s.post ec Tryz.prog f apart fresh handsOn false W args v W':=by
 have hlt:=hW.lt;have hW':=hW;obtain ⟨p,q,hA,hV,rfl,hz,hn⟩:=hW;rw [hv0] at hV;obtain ⟨rfl,rfl⟩:=trodVars_none hV;rw [List.append_nil] at hlt hW';refine ⟨ds,[],p,[],p,[],hW',hres _ _ _,?_,?_,hB.frame _,fun h=>by cases h⟩
 ·rw [hargs];exact pY hB hts hA hlt (fun p hp=>decide_eq_true (hlt p hp))
 ·rw [fp,hv0];rfl
theorem CZ {ec:TypeId × Value→H} {C:Checked} {os:Os} {f:FuncId} {fn:Func} {s:OpenSpec} {k:(H:Type)→List (DataW H)→Bool} (hk:s.cond=some k) {apart:Bool} {X:World→Array Value→Prop} (w0:World) (args:Array Value) (fuel:Nat) (hos:w0.os=os)
  (hsh:(w0.forCall (fun _ _=>0) ⟨#[],args,[]⟩).Shaped C.prog)
  (hok:Input.okWideB C.prog (w0.forCall (fun _ _=>0) ⟨#[],args,[]⟩) f ⟨#[],args,[]⟩=true)
  {x:List (DataW H) × List (DataW H) × List MemPlace} (hx:DataW.whole ec C.prog (w0.forCall (fun _ _=>0) ⟨#[],args,[]⟩).memory fn.params.toList s.vars apart args.toList fuel=some x) (hkk:k H (x.1++x.2.1)=true)
  (hsz:s.bare.sizedB ec C.prog fn apart (w0.forCall (fun _ _=>0) ⟨#[],args,[]⟩).memory args fuel=true)
  (hX:X (w0.forCall (fun _ _=>0) ⟨#[],args,[]⟩).memory args) :
  ∃ (w:World) (tape:Tape) (i:Input),w.os=os∧(w.forCall tape i).Shaped C.prog∧i.vars=[]∧Input.okWide C.prog (w.forCall tape i) .any w.heap.size f i ∧
   ((s.pre ec C.prog fn [] apart (w.forCall tape i).memory i.args∧X (w.forCall tape i).memory i.args)∧sizedMet ec C.prog fn s apart (w.forCall tape i).memory i.args)∧({}:Assume).holds C.prog (lone (Frame.enter C.prog f i.args .normal) [] (w.forCall tape i)) :=
 ⟨w0,fun _ _=>0,⟨#[],args,[]⟩,hos,hsh,(Input.okWide_of_okWideB (base:=0) hok).1,(Input.okWide_of_okWideB hok).2,
  ⟨⟨(OpenSpec.pre_some hk [] apart _ _).2 ⟨x.1,x.2.1,x.2.2,DataW.Whole_of_whole hx,rfl,hkk⟩,hX⟩,sizedMet_of_sizedB hsz⟩,by
  simp only [Assume.holds];exact ⟨by simp,by simp,by simp,by simp,by simp⟩⟩
theorem Nr:Tryz.prog.underlying 92=some (.int .u32):=by kernel_rfl
theorem ND:Tryz.prog.underlying 21=some (.int .i32):=by kernel_rfl
theorem NU:Tryz.prog.underlying 91=some (.slice 109):=by kernel_rfl
theorem Nw:Tryz.prog.cellsOf 109=2:=by kernel_rfl
theorem M6:Tryz.prog.cellsOf 94=2:=by kernel_rfl
theorem NR:Tryz.prog.cellsOf 91=1:=by kernel_rfl
theorem Nn:Tryz.prog.cellsOf 92=1:=by kernel_rfl
theorem NM:Tryz.prog.cellsOf 21=1:=by kernel_rfl
theorem No:Tryz.prog.cellsOf 90=5:=by kernel_rfl
theorem Na:Tryz.prog.cellsOf 96=10:=by kernel_rfl
theorem Nt:Tryz.prog.cellsOf 99=3:=by kernel_rfl
theorem Nq:Tryz.prog.cellsOf 23=1:=by kernel_rfl
theorem NX:Tryz.prog.cellsOf 24=1:=by kernel_rfl
theorem NT:Tryz.prog.cellsOf 25=1:=by kernel_rfl
theorem NO:Tryz.prog.cellsOf 27=4:=by kernel_rfl
theorem NI:oK Tryz.prog 109=some [(9,0),(92,1)]:=by kernel_rfl
theorem NY:oK Tryz.prog 94=some [(91,0),(92,1)]:=by kernel_rfl
theorem NW:oK Tryz.prog 90=some [(3,0),(3,1),(3,2),(21,3),(3,4)]:=by kernel_rfl
theorem NF:oK Tryz.prog 96=some [(3,0),(9,1),(90,2),(94,7),(3,9)]:=by kernel_rfl
theorem Mu:oK Tryz.prog 99=some [(9,0),(94,1)]:=by kernel_rfl
theorem MR:oK Tryz.prog 27=some [(23,0),(23,1),(24,2),(25,3)]:=by kernel_rfl
section
variable {H:Type} {ec:TypeId × Value→H} {W:World} {base n:Nat} {sp:Nat→Bool} {held:Bool} {cs:List Value} {y:DataW H × List MemPlace}
theorem FB {α:Type} {ys:List α} {a b:α} (hl:ys.length=2) (h0:ys[0]?=some a) (h1:ys[1]?=some b):ys=[a,b]:=by
 match ys,hl with
 | [x,y],_ =>
  simp only [List.getElem?_cons_zero,List.getElem?_cons_succ,Option.some.injEq] at h0 h1;subst h0 h1;rfl
def QT (t:ByteArray × Nat) (cs:List Value) (k:Nat):Prop:=cs=cV t∧t.1.size≤maxLen∧t.2<4294967296∧k=t.1.size+3
theorem Ek (h:DataW.trod ec Tryz.prog W base sp held n 109 cs=some y):∃ t,QT t cs (Rows.uptoBulk y.1):=by
 obtain ⟨ys,m,hy,hl,hyn,hys⟩:=eA NI h;obtain ⟨y0,g0,t0⟩:=hys 0 _ rfl;obtain ⟨y1,g1,t1⟩:=hys 1 _ rfl;have hys2:=FB hyn g0 g1;rw [Nw] at hl
 match cs,hl with
 | [v,u],_ =>
  rw [show Tryz.prog.cellsOf (9,0).1=1 from c9] at t0;rw [show Tryz.prog.cellsOf (92,1).1=1 from Nn] at t1;obtain ⟨s,e0,r0,hs⟩:=DataW.trod_string u9 t0;obtain ⟨k,e1,r1,hk⟩:=DataW.trod_int Nr t1;have hb:=bounds_u32 hk;cases e0; cases e1;refine ⟨(s,k.toNat),?_,hs,by show k.toNat<_; omega,?_⟩
  ·unfold cV;simp only [List.cons.injEq,Value.int.injEq,true_and,and_true];omega
  ·rw [hy,hys2,r0,r1];simp only [List.map_cons,List.map_nil,Rows.uptoBulk,Rows.uptoBulkAll];rw [Array.length_toList];show s.data.size+1+(1+0)+1=s.data.size+3;omega
structure FE (h:Hp) (p:Option Addr) (l c:Nat) (x:ey) (k:Nat):Prop where
 vw:pI h p l x.au
 names:∀ t,t∈x.au→t.1.size≤maxLen
 num:sU x
 many:3*x.au.length≤k
 size:(H0 x).length≤2*k
 cap:l≤c
theorem vO:∀ (ts:dp) (ks:List Nat),ks.length=ts.length→(∀ i,(hi:i<ts.length)→(hk:i<ks.length)→ks[i]=ts[i].1.size+3)→(ts.flatMap BM).length=2*ks.sum-(ts.map (·.1.size)).sum∧(ts.map (·.1.size)).sum+3*ts.length=ks.sum
 | [],ks,hl,_=>by
  have:ks=[]:=List.length_eq_zero_iff.1 hl
  subst this
  simp
 | t::ts,[],hl,_=>by simp at hl
 | t::ts,k::ks,hl,h=>by
  have h0:=h 0 (by simp) (by simp);simp only [List.getElem_cons_zero] at h0;obtain ⟨i1,i2⟩:=vO ts ks (by simpa using hl) (fun i hi hk=>h (i+1) (by simpa using hi) (by simpa using hk));have hw:(BM t).length=t.1.size+6:=by
   unfold BM mN;simp only [List.length_append,du]
   have:t.1.data.toList.length=t.1.size:=by simp
   omega
  rw [List.flatMap_cons,List.length_append,List.sum_cons,List.map_cons,List.sum_cons,List.length_cons,hw,i1];omega
theorem BZ (h:DataW.trod ec Tryz.prog W base sp held n 94 cs=some y) :
  ∃ p l c x,cs=[.slice p l c,.int .u32 ((x:ey).num:Int)]∧FE W.heap p l c x (Rows.uptoBulk y.1):=by
 obtain ⟨ys,m,hy,hl,hyn,hys⟩:=eA NY h;obtain ⟨y0,g0,t0⟩:=hys 0 _ rfl;obtain ⟨y1,g1,t1⟩:=hys 1 _ rfl;have hys2:=FB hyn g0 g1;rw [M6] at hl
 match cs,hl with
 | [v,u],_ =>
  rw [show Tryz.prog.cellsOf (91,0).1=1 from NR] at t0;rw [show Tryz.prog.cellsOf (92,1).1=1 from Nn] at t1;obtain ⟨p,l,c,us,ks,e0,ls,hsum⟩:=open_slice NU Nw QT (fun cs y n h=>Ek h) t0;obtain ⟨k,e1,r1,hk⟩:=DataW.trod_int Nr t1;have hb:=bounds_u32 hk;cases e0; cases e1;have hkk:((k.toNat:Nat):Int)=k:=by omega
  have hbulk:Rows.uptoBulk y.1=Rows.uptoBulk y0.1+2:=by
   rw [hy,hys2,r1];simp only [List.map_cons,List.map_nil,Rows.uptoBulk,Rows.uptoBulkAll]
  have hq:∀ i,(hi:i<us.length)→(hk:i<ks.length)→us[i].1.size≤maxLen∧us[i].2<4294967296∧ks[i]=us[i].1.size+3:=by
   intro i hi hk;obtain ⟨a,cs,_,_,_,q2,q3,q4⟩:=ls.cells i hi hk;exact ⟨q2,q3,q4⟩
  have hkl:=ls.C';obtain ⟨w1,w2⟩:=vO us ks hkl (fun i hi hk=>(hq i hi hk).2.2);refine ⟨p,l,c,⟨us,k.toNat⟩,by rw [show ((⟨us,k.toNat⟩:ey).num:Int)=k from hkk],⟨ls.len,fun i hi=>?_⟩,?_,⟨?_,by show k.toNat<_; omega⟩,?_,?_,ls.cap⟩
  ·have hi:i<us.length:=hi;obtain ⟨a,cs,ha,hc,q1,_⟩:=ls.cells i hi (by omega);rw [q1] at hc;exact ⟨a,ha,hc⟩
  ·intro t (ht:t∈us);obtain ⟨i,hi,rfl⟩:=List.getElem_of_mem ht;exact (hq i hi (by omega)).1
  ·intro t (ht:t∈us);obtain ⟨i,hi,rfl⟩:=List.getElem_of_mem ht;exact (hq i hi (by omega)).2.1
  ·show 3*us.length≤_;omega
  ·show (wo us.length 2++(us.flatMap BM++wo k.toNat 4)).length≤_;rw [List.length_append,List.length_append,du,du,w1];omega
theorem J2 {α:Type} {ys:List α} {a b c d e:α} (hl:ys.length=5) (h0:ys[0]?=some a) (h1:ys[1]?=some b) (h2:ys[2]?=some c) (h3:ys[3]?=some d) (h4:ys[4]?=some e):ys=[a,b,c,d,e]:=by
 match ys,hl with
 | [x0,x1,x2,x3,x4],_ =>
  simp only [List.getElem?_cons_zero,List.getElem?_cons_succ,Option.some.injEq] at h0 h1 h2 h3 h4;subst h0 h1 h2 h3 h4;rfl
theorem L8 {α:Type} {ys:List α} {a b c d:α} (hl:ys.length=4) (h0:ys[0]?=some a) (h1:ys[1]?=some b) (h2:ys[2]?=some c) (h3:ys[3]?=some d):ys=[a,b,c,d]:=by
 match ys,hl with
 | [x0,x1,x2,x3],_ =>
  simp only [List.getElem?_cons_zero,List.getElem?_cons_succ,Option.some.injEq] at h0 h1 h2 h3;subst h0 h1 h2 h3;rfl
theorem GM (h:DataW.trod ec Tryz.prog W base sp held n 90 cs=some y):∃ i:Ins,cs=kJ i∧Sm i.op∧Rows.uptoBulk y.1=6:=by
 obtain ⟨ys,m,hy,hl,hyn,hys⟩:=eA NW h;obtain ⟨y0,g0,t0⟩:=hys 0 _ rfl;obtain ⟨y1,g1,t1⟩:=hys 1 _ rfl;obtain ⟨y2,g2,t2⟩:=hys 2 _ rfl;obtain ⟨y3,g3,t3⟩:=hys 3 _ rfl;obtain ⟨y4,g4,t4⟩:=hys 4 _ rfl;have hys5:=J2 hyn g0 g1 g2 g3 g4;rw [No] at hl
 match cs,hl with
 | [v0,v1,v2,v3,v4],_ =>
  rw [show Tryz.prog.cellsOf (3,0).1=1 from c3] at t0;rw [show Tryz.prog.cellsOf (3,1).1=1 from c3] at t1;rw [show Tryz.prog.cellsOf (3,2).1=1 from c3] at t2;rw [show Tryz.prog.cellsOf (21,3).1=1 from NM] at t3;rw [show Tryz.prog.cellsOf (3,4).1=1 from c3] at t4;obtain ⟨k0,e0,r0,w0⟩:=DataW.trod_int u3 t0;obtain ⟨k1,e1,r1,w1⟩:=DataW.trod_int u3 t1;obtain ⟨k2,e2,r2,w2⟩:=DataW.trod_int u3 t2;obtain ⟨k3,e3,r3,w3⟩:=DataW.trod_int ND t3;obtain ⟨k4,e4,r4,w4⟩:=DataW.trod_int u3 t4;cases e0; cases e1; cases e2; cases e3; cases e4;refine ⟨⟨k0,k1,k2,k3,k4⟩,rfl,bounds_i64 w0,?_⟩;rw [hy,hys5,r0,r1,r2,r3,r4];simp only [List.map_cons,List.map_nil,Rows.uptoBulk,Rows.uptoBulkAll]
def QI (h:Hp) (x:bD) (cs:List Value) (k:Nat):Prop:=∃ p l c b,cs=encI p l c x∧FE h p l c x.e b∧x.name.size≤maxLen∧Sm x.inst.op∧k=x.name.size+b+10
theorem yq (h:DataW.trod ec Tryz.prog W base sp held n 96 cs=some y):∃ x,QI W.heap x cs (Rows.uptoBulk y.1):=by
 obtain ⟨ys,m,hy,hl,hyn,hys⟩:=eA NF h;obtain ⟨y0,g0,t0⟩:=hys 0 _ rfl;obtain ⟨y1,g1,t1⟩:=hys 1 _ rfl;obtain ⟨y2,g2,t2⟩:=hys 2 _ rfl;obtain ⟨y3,g3,t3⟩:=hys 3 _ rfl;obtain ⟨y4,g4,t4⟩:=hys 4 _ rfl;have hys5:=J2 hyn g0 g1 g2 g3 g4;rw [Na] at hl
 match cs,hl with
 | [v0,v1,v2,v3,v4,v5,v6,v7,v8,v9],_ =>
  rw [show Tryz.prog.cellsOf (3,0).1=1 from c3] at t0;rw [show Tryz.prog.cellsOf (9,1).1=1 from c9] at t1;rw [show Tryz.prog.cellsOf (90,2).1=5 from No] at t2;rw [show Tryz.prog.cellsOf (94,7).1=2 from M6] at t3;rw [show Tryz.prog.cellsOf (3,9).1=1 from c3] at t4;obtain ⟨k0,e0,r0,w0⟩:=DataW.trod_int u3 t0;obtain ⟨s,e1,r1,w1⟩:=DataW.trod_string u9 t1;obtain ⟨i,e2,w2,r2⟩:=GM t2;obtain ⟨p,l,c,x,e3,lk⟩:=BZ t3;obtain ⟨k4,e4,r4,w4⟩:=DataW.trod_int u3 t4;cases e0; cases e1; cases e2; cases e3; cases e4;refine ⟨⟨k0,s,i,x,k4⟩,p,l,c,_,rfl,lk,w1,w2,?_⟩;rw [hy,hys5,r0,r1,r4];simp only [List.map_cons,List.map_nil,Rows.uptoBulk,Rows.uptoBulkAll,r2];rw [Array.length_toList];show 1+(s.data.size+1+(6+(Rows.uptoBulk y3.1+(1+0))))+1=s.data.size+Rows.uptoBulk y3.1+10;omega
def QE (h:Hp) (x:lP) (cs:List Value) (k:Nat):Prop:=∃ p l c b,cs=E3 p l c x∧FE h p l c x.2 b∧x.1.size≤maxLen∧k=x.1.size+b+2
theorem F5 (h:DataW.trod ec Tryz.prog W base sp held n 99 cs=some y):∃ x,QE W.heap x cs (Rows.uptoBulk y.1):=by
 obtain ⟨ys,m,hy,hl,hyn,hys⟩:=eA Mu h;obtain ⟨y0,g0,t0⟩:=hys 0 _ rfl;obtain ⟨y1,g1,t1⟩:=hys 1 _ rfl;have hys2:=FB hyn g0 g1;rw [Nt] at hl
 match cs,hl with
 | [v0,v1,v2],_ =>
  rw [show Tryz.prog.cellsOf (9,0).1=1 from c9] at t0;rw [show Tryz.prog.cellsOf (94,1).1=2 from M6] at t1;obtain ⟨s,e1,r1,w1⟩:=DataW.trod_string u9 t0;obtain ⟨p,l,c,x,e3,lk⟩:=BZ t1;cases e1; cases e3;refine ⟨(s,x),p,l,c,_,rfl,lk,w1,?_⟩;rw [hy,hys2,r1];simp only [List.map_cons,List.map_nil,Rows.uptoBulk,Rows.uptoBulkAll];rw [Array.length_toList];show (s.data.size+1+(Rows.uptoBulk y1.1+0))+1=s.data.size+Rows.uptoBulk y1.1+2;omega
def QS (x:ByteArray) (cs:List Value) (k:Nat):Prop:=cs=[.string x]∧x.size≤maxLen∧k=x.size+1
theorem HH (h:DataW.trod ec Tryz.prog W base sp held n 9 cs=some y):∃ x,QS x cs (Rows.uptoBulk y.1):=by
 obtain ⟨s,e1,r1,w1⟩:=DataW.trod_string u9 h;refine ⟨s,e1,w1,?_⟩;rw [r1];simp only [Rows.uptoBulk];rw [Array.length_toList];rfl
theorem kr {α:Type} (f:α→Nat) (m:Nat):∀ (us:List α) (ks:List Nat),ks.length=us.length→(∀ i,(hi:i<us.length)→(hk:i<ks.length)→f us[i]≤m*ks[i])→(us.map f).sum≤m*ks.sum
 | [],ks,hl,_=>by simp
 | u::us,[],hl,_=>by simp at hl
 | u::us,k::ks,hl,h=>by
  have h0:=h 0 (by simp) (by simp);simp only [List.getElem_cons_zero] at h0;have ih:=kr f m us ks (by simpa using hl) (fun i hi hk=>h (i+1) (by simpa using hi) (by simpa using hk));rw [List.map_cons,List.sum_cons,List.sum_cons,Nat.mul_add];omega
theorem Hs {h:Hp} {x:bD} {cs:List Value} {k:Nat} (q:QI h x cs k):(CY x).length≤2*k:=by
 obtain ⟨p,l,c,b,_,lk,_,_,rfl⟩:=q;have h1:=lk.size;have ht:(mN x.name).length=x.name.size+2:=by
  unfold mN;rw [List.length_append,du]
  have:x.name.data.toList.length=x.name.size:=by simp
  omega
 have hi:∀ (n:Int) (w:Nat),(zB n w).length=w:=fun n w=>by unfold zB; rw [du]
 unfold CY;rw [List.length_append,hi];split
 ·omega
 ·split
  ·rw [List.length_append,List.length_append,List.length_append,List.length_append,hi,hi,hi,hi];split
   ·omega
   ·simp
    omega
  ·split
   ·rw [hi]; omega
   ·split
    ·omega
    ·split
     ·rw [hi]; omega
     ·simp
      omega
theorem F2 {h:Hp} {x:lP} {cs:List Value} {k:Nat} (q:QE h x cs k):(GX x).length≤2*k:=by
 obtain ⟨p,l,c,b,_,lk,_,rfl⟩:=q;have h1:=lk.size;unfold GX mN;rw [List.length_append,List.length_append,du]
 have:x.1.data.toList.length=x.1.size:=by simp
 omega
theorem ES {x:ByteArray} {cs:List Value} {k:Nat} (q:QS x cs k):(mN x).length≤2*k:=by
 obtain ⟨_,_,rfl⟩:=q;unfold mN;rw [List.length_append,du]
 have:x.data.toList.length=x.size:=by simp
 omega
theorem CA {α:Type} (f:α→Bt) (us:List α):(us.flatMap f).length=(us.map fun u=>(f u).length).sum:=by rw [List.length_flatMap]
end
theorem sw:∀ (ks:List Nat) (i:Nat) (h:i<ks.length),ks[i]≤ks.sum
 | k::ks,0,_=>by simp
 | k::ks,i+1,h=>by
  have:=sw ks i (by simpa using h)
  simp only [List.getElem_cons_succ,List.sum_cons];omega
theorem jR {α:Type}:∀ us:List α,(us.map fun _=>1).sum=us.length
 | []=>rfl
 | u::us=>by rw [List.map_cons,List.sum_cons,jR us,List.length_cons,Nat.add_comm]
theorem uT {α:Type} {P:α→Prop} {us:List α} (h:∀ i,(hi:i<us.length)→P us[i]):∀ x,x∈us→P x:=fun x hx=>by
 obtain ⟨i,hi,rfl⟩:=List.getElem_of_mem hx;exact h i hi
theorem FE.at {h:Hp} {p:Option Addr} {l c:Nat} {x:ey} {k:Nat} (q:FE h p l c x k) (hk:k≤2^60):kf h p l x:=⟨q.vw,by have:=q.many; omega,q.names⟩
theorem Du {h:Hp} {p:Option Addr} {l c:Nat} {us:List bD} {ks:List Nat} (s:B9 (QI h) h 10 p l c us ks) (hs:ks.sum≤2^58):Fk h p l us∧(∀ x,x∈us→sU x.e)∧(us.flatMap CY).length≤2*ks.sum:=by
 have hl:=s.C';have q:∀ i,(hi:i<us.length)→∃ a cs,p=some a∧aG h (a.add (i*10)) 0 cs∧QI h us[i] cs ks[i]:=fun i hi=>s.cells i hi (by omega)
 have one:∀ i,(hi:i<us.length)→1≤1*ks[i]:=fun i hi=>by
  obtain ⟨_,_,_,_,_,_,_,_,_,_,_,_,hk⟩:=q i hi;omega
 have hm:us.length≤ks.sum:=by
  have:=kr (fun _=>1) 1 us ks hl (fun i hi hk=>one i hi)
  rw [jR] at this;omega
 refine ⟨⟨s.len,by omega,fun i hi=>?_⟩,uT fun i hi=>?_,?_⟩
 ·obtain ⟨a,cs,ha,hc,p',l',c',b,rfl,lk,hn,ho,hk⟩:=q i hi
  have:=sw ks i (by omega)
  exact ⟨a,p',l',c',ha,hc,lk.at (by omega),hn,ho⟩
 ·obtain ⟨a,cs,ha,hc,p',l',c',b,rfl,lk,hn,ho,hk⟩:=q i hi;exact lk.num
 ·rw [CA];refine kr _ 2 us ks hl (fun i hi hk=>?_);obtain ⟨a,cs,ha,hc,hq⟩:=q i hi;exact Hs hq
theorem JE {h:Hp} {p:Option Addr} {l c:Nat} {us:List lP} {ks:List Nat} (s:B9 (QE h) h 3 p l c us ks) (hs:ks.sum≤2^58):K1 h p l us∧(∀ x,x∈us→sU x.2)∧(us.flatMap GX).length≤2*ks.sum:=by
 have hl:=s.C';have q:∀ i,(hi:i<us.length)→∃ a cs,p=some a∧aG h (a.add (i*3)) 0 cs∧QE h us[i] cs ks[i]:=fun i hi=>s.cells i hi (by omega)
 have one:∀ i,(hi:i<us.length)→1≤1*ks[i]:=fun i hi=>by
  obtain ⟨_,_,_,_,_,_,_,_,_,_,_,hk⟩:=q i hi;omega
 have hm:us.length≤ks.sum:=by
  have:=kr (fun _=>1) 1 us ks hl (fun i hi hk=>one i hi)
  rw [jR] at this;omega
 refine ⟨⟨s.len,by omega,fun i hi=>?_⟩,uT fun i hi=>?_,?_⟩
 ·obtain ⟨a,cs,ha,hc,p',l',c',b,rfl,lk,hn,hk⟩:=q i hi
  have:=sw ks i (by omega)
  exact ⟨a,p',l',c',ha,hc,lk.at (by omega),hn⟩
 ·obtain ⟨a,cs,ha,hc,p',l',c',b,rfl,lk,hn,hk⟩:=q i hi;exact lk.num
 ·rw [CA];refine kr _ 2 us ks hl (fun i hi hk=>?_);obtain ⟨a,cs,ha,hc,hq⟩:=q i hi;exact F2 hq
theorem Jd {h:Hp} {p:Option Addr} {l c:Nat} {us:List ByteArray} {ks:List Nat} (s:B9 QS h 1 p l c us ks) (hs:ks.sum≤2^58):FP h p l us∧(us.flatMap mN).length≤2*ks.sum:=by
 have hl:=s.C';have q:∀ i,(hi:i<us.length)→∃ a cs,p=some a∧aG h (a.add (i*1)) 0 cs∧QS us[i] cs ks[i]:=fun i hi=>s.cells i hi (by omega)
 have one:∀ i,(hi:i<us.length)→1≤1*ks[i]:=fun i hi=>by
  obtain ⟨_,_,_,_,_,_,hk⟩:=q i hi;omega
 have hm:us.length≤ks.sum:=by
  have:=kr (fun _=>1) 1 us ks hl (fun i hi hk=>one i hi)
  rw [jR] at this;omega
 refine ⟨⟨s.len,by omega,fun i hi=>?_⟩,?_⟩
 ·obtain ⟨a,cs,ha,hc,rfl,hn,hk⟩:=q i hi;exact ⟨a,ha,hc,hn⟩
 ·rw [CA];refine kr _ 2 us ks hl (fun i hi hk=>?_);obtain ⟨a,cs,ha,hc,hq⟩:=q i hi;exact ES hq
theorem zV {h:Hp} {p:Option Addr} {l c:Nat} {us:List bD} {ks:List Nat} (s:B9 (QI h) h 10 p l c us ks):(∀ x,x∈us→x.e.au.length≤ks.sum)∧us.length≤ks.sum:=by
 have hl:=s.C';have q:∀ i,(hi:i<us.length)→∃ a cs,p=some a∧aG h (a.add (i*10)) 0 cs∧QI h us[i] cs ks[i]:=fun i hi=>s.cells i hi (by omega)
 refine ⟨uT fun i hi=>?_,?_⟩
 ·obtain ⟨a,cs,ha,hc,p',l',c',b,rfl,lk,hn,ho,hk⟩:=q i hi
  have:=sw ks i (by omega)
  have:=lk.many
  omega
 ·have:=kr (fun _=>1) 1 us ks hl (fun i hi hk=>by
   obtain ⟨_,_,_,_,_,_,_,_,_,_,_,_,hk⟩:=q i hi;omega)
  rw [jR] at this;omega
theorem F7 {h:Hp} {p:Option Addr} {l c:Nat} {us:List lP} {ks:List Nat} (s:B9 (QE h) h 3 p l c us ks):(∀ x,x∈us→x.2.au.length≤ks.sum)∧us.length≤ks.sum:=by
 have hl:=s.C';have q:∀ i,(hi:i<us.length)→∃ a cs,p=some a∧aG h (a.add (i*3)) 0 cs∧QE h us[i] cs ks[i]:=fun i hi=>s.cells i hi (by omega)
 refine ⟨uT fun i hi=>?_,?_⟩
 ·obtain ⟨a,cs,ha,hc,p',l',c',b,rfl,lk,hn,hk⟩:=q i hi
  have:=sw ks i (by omega)
  have:=lk.many
  omega
 ·have:=kr (fun _=>1) 1 us ks hl (fun i hi hk=>by
   obtain ⟨_,_,_,_,_,_,_,_,_,_,_,hk⟩:=q i hi;omega)
  rw [jR] at this;omega
theorem KL {h:Hp} {p:Option Addr} {l c:Nat} {us:List ByteArray} {ks:List Nat} (s:B9 QS h 1 p l c us ks):us.length≤ks.sum:=by
 have hl:=s.C';have q:∀ i,(hi:i<us.length)→∃ a cs,p=some a∧aG h (a.add (i*1)) 0 cs∧QS us[i] cs ks[i]:=fun i hi=>s.cells i hi (by omega)
 have:=kr (fun _=>1) 1 us ks hl (fun i hi hk=>by
  obtain ⟨_,_,_,_,_,_,hk⟩:=q i hi;omega)
 rw [jR] at this;omega
structure JT (h:Hp) (a b c d:bP) (u:fS) (N:Nat):Prop where
 at_:gn h a b c d u
 num:Kn u
 size:(MA u).length≤2*N+13
 small:(∀ x,x∈u.text→x.e.au.length≤N)∧(∀ x,x∈u.data→x.e.au.length≤N)∧(∀ x,x∈u.aQ→x.2.au.length≤N)∧u.aF.length≤N∧u.text.length≤N∧u.data.length≤N∧u.aQ.length≤N
 cap:a.l≤a.c
section
variable {H:Type} {ec:TypeId × Value→H} {W:World} {base n:Nat} {sp:Nat→Bool} {held:Bool} {cs:List Value} {y:DataW H × List MemPlace}
theorem ui (h:DataW.trod ec Tryz.prog W base sp held n 27 cs=some y) (hN:Rows.uptoBulk y.1≤2^50):∃ a b c d u,cs=[bP.v a,bP.v b,bP.v c,bP.v d]∧JT W.heap a b c d u (Rows.uptoBulk y.1):=by
 obtain ⟨ys,m,hy,hl,hyn,hys⟩:=eA MR h;obtain ⟨y0,g0,t0⟩:=hys 0 _ rfl;obtain ⟨y1,g1,t1⟩:=hys 1 _ rfl;obtain ⟨y2,g2,t2⟩:=hys 2 _ rfl;obtain ⟨y3,g3,t3⟩:=hys 3 _ rfl;have hys4:=L8 hyn g0 g1 g2 g3;rw [NO] at hl
 match cs,hl with
 | [v0,v1,v2,v3],_ =>
  rw [show Tryz.prog.cellsOf (23,0).1=1 from Nq] at t0;rw [show Tryz.prog.cellsOf (23,1).1=1 from Nq] at t1;rw [show Tryz.prog.cellsOf (24,2).1=1 from NX] at t2;rw [show Tryz.prog.cellsOf (25,3).1=1 from NT] at t3;obtain ⟨p0,l0,k0,u0,b0,e0,s0,m0⟩:=open_slice JS Na (QI W.heap) (fun cs y n h=>yq h) t0;obtain ⟨p1,l1,k1,u1,b1,e1,s1,m1⟩:=open_slice JS Na (QI W.heap) (fun cs y n h=>yq h) t1;obtain ⟨p2,l2,k2,u2,b2,e2,s2,m2⟩:=open_slice JR Nt (QE W.heap) (fun cs y n h=>F5 h) t2;obtain ⟨p3,l3,k3,u3,b3,e3,s3,m3⟩:=open_slice DB c9 QS (fun cs y n h=>HH h) t3;cases e0; cases e1; cases e2; cases e3;have hb:Rows.uptoBulk y.1=Rows.uptoBulk y0.1+Rows.uptoBulk y1.1+Rows.uptoBulk y2.1+Rows.uptoBulk y3.1+1:=by
   rw [hy,hys4];simp only [List.map_cons,List.map_nil,Rows.uptoBulk,Rows.uptoBulkAll];omega
  obtain ⟨x0,n0,w0⟩:=Du s0 (by omega);obtain ⟨x1,n1,w1⟩:=Du s1 (by omega);obtain ⟨x2,n2,w2⟩:=JE s2 (by omega);obtain ⟨x3,w3⟩:=Jd s3 (by omega);refine ⟨⟨p0,l0,k0⟩,⟨p1,l1,k1⟩,⟨p2,l2,k2⟩,⟨p3,l3,k3⟩,⟨u0,u1,u2,u3⟩,rfl,⟨x0,x1,x2,x3⟩,⟨n0,n1,n2⟩,?_,⟨fun x hx=>by have:=(zV s0).1 x hx; omega,fun x hx=>by have:=(zV s1).1 x hx; omega,fun x hx=>by have:=(F7 s2).1 x hx; omega,by have:=KL s3; show u3.length≤_; omega,by have:=(zV s0).2; show u0.length≤_; omega,by have:=(zV s1).2; show u1.length≤_; omega,by have:=(F7 s2).2; show u2.length≤_; omega⟩,s0.cap⟩;show (FR++(zQ CY u0++(zQ CY u1++(zQ GX u2++zQ mN u3)))).length≤_;unfold zQ;simp only [List.length_append,du];rw [show FR.length=5 from rfl];omega
theorem EL {b0:Nat} {v:Value} {d:DataW H} {ps:List MemPlace} (hval:Value.okWide Tryz.prog W .any b0 27 v) (h:DataW.Trod ec Tryz.prog W base sp held 27 v d ps) (hN:Rows.uptoBulk d≤2^50) :
  ∃ a b c e u,v=lh a b c e∧JT W.heap a b c e u (Rows.uptoBulk d):=by
 have hval':∃ cs,v=.agg cs∧cs.size=Tryz.prog.cellsOf 27:=by
  unfold Value.okWide at hval;cases hu:Tryz.prog.underlying 27 with
  | none=>have:=MR; unfold oK at this; rw [hu] at this; cases this
  | some td =>
   have:=MR
   unfold oK at this;rw [hu] at this hval;simp only [Option.bind_some] at this;split at this
   ·obtain ⟨cs,h1,h2,_⟩:=hval;exact ⟨cs,h1,h2⟩
   ·cases this
 obtain ⟨cs,rfl,hsz⟩:=hval';obtain ⟨fuel,h⟩:=h;have hlist:(Value.agg cs).cells.toList=cs.toList:=rfl;rw [hlist] at h;obtain ⟨a,b,c,e,u,hcs,hu⟩:=ui h hN;refine ⟨a,b,c,e,u,?_,hu⟩;unfold lh
 congr 1
 apply Array.toList_inj.1;rw [hcs]
end
open Go.ChangeMaps
theorem A5 {w:World} (h:w.ShapedOpen Tryz.prog):∃ m,w.cell? ⟨2,0,none⟩=some (.int .i64 m) :=
 cell_of_shapedOpen_int (g:=2) (t:=3) (zero:=#[.int .i64 0]) h (of_decide_eq_true (by kernel_rfl)) (by kernel_rfl) rfl (by kernel_rfl) (by kernel_rfl) (by kernel_rfl)
theorem LY {W:World} (h:pJ W.heap∧Laid W.heap∧qc W.heap) (hs:W.ShapedOpen Tryz.prog):Fx W.heap:=by
 obtain ⟨m,hm⟩:=A5 hs;exact ⟨h.1,h.2.1,h.2.2,m,by rw [dZ] at hm; exact hm,trivial⟩
theorem ED {H:Type} {ec:TypeId × Value→H} {a:Assume} {C:Checked} {os:Os} {f:FuncId} {fn:Func} {s:OpenSpec} {k:(H:Type)→List (DataW H)→Bool} (hk:s.cond=some k) {F:Stop.Interp} {conds:List PathCond} {apart fresh handsOn again:Bool} {X:World→Array Value→Prop}
  (hX:∀ (w w':World) (args:Array Value),w.heap=w'.heap→X w args→X w' args)
  (own:ownKnob C.prog.godebug=none) (started:os.Started) (noInit:C.prog.inits.idxOf? f=none) (hfn:C.prog.funcs[f]?=some fn)
  (witness:∃ (w:World) (tape:Tape) (i:Input),w.os=os∧(w.forCall tape i).Shaped C.prog∧i.vars=[]∧Input.okWide C.prog (w.forCall tape i) .any w.heap.size f i ∧
   ((s.pre ec C.prog fn conds apart (w.forCall tape i).memory i.args∧X (w.forCall tape i).memory i.args)∧sizedMet ec C.prog fn s apart (w.forCall tape i).memory i.args)∧a.holds C.prog (lone (Frame.enter C.prog f i.args .normal) [] (w.forCall tape i)))
  (contract:∀ (W:World) (base:Nat) (args:Array Value) (ds gs:List (DataW H)) (before:List MemPlace),
   (∀ (j:Nat) t v,fn.params[j]?=some t→args[j]?=some v→Value.okWide C.prog W .any base t v) →
   DataW.Whole ec C.prog fn.params.toList s.vars apart W args.toList ds gs before→k H (ds++gs)=true→W.ShapedOpen C.prog→X W args →
   Calls C.prog f args W fun e W'=>∃ v,e=.returned v∧(s.at F).post ec C.prog fn apart fresh handsOn again W args v W') :
  ReturnsInHanded a C os f .any (fun w args=>(s.pre ec C.prog fn conds apart w args∧X w args)∧sizedMet ec C.prog fn s apart w args) ((s.at F).post ec C.prog fn apart fresh handsOn again):=by
 refine returnsInHanded_of_calls own started noInit witness ?_;intro w tape i _ hsh _ hok hpre hholds;obtain ⟨_,_,_,fn',hfn',_,_,_,_,hval⟩:=hok;have e:fn'=fn:=Option.some.inj (hfn'.symm.trans hfn);subst e;obtain ⟨⟨hp,hx⟩,hz⟩:=hpre;obtain ⟨ds,gs,before,hw,hc,hkk⟩:=(OpenSpec.pre_some hk conds apart _ _).1 hp;have hw':=DataW.Whole.of_heap (w':=w.forCall tape i) (by rfl) hw;refine (contract (w.forCall tape i) w.heap.size i.args ds gs before hval hw' hkk hsh (hX _ _ _ (by rfl) hx)).mono fun e W' ⟨v,he,hp⟩=>?_
 subst he;exact ChangeSpec.post_blind hp
theorem uf:(Tryz.f5.params.toList.all fun t=>decide (t<Tryz.prog.types.size))=true:=by kernel_rfl
theorem uF:Tryz.prog.inPlace 5=Rows.unitRightUptoRow.inPlace:=by kernel_rfl
theorem uB:Tryz.prog.unfollowed 5=Rows.unitRightUptoRow.unfollowed:=by kernel_rfl
theorem uh:Tryz.prog.recurses 5=Rows.unitRightUptoRow.recurses:=by kernel_rfl
theorem ux:Tryz.prog.varsNamed 5=Rows.unitRightUptoRow.named:=by kernel_rfl
theorem uN:joinedFacts Tryz.prog 5 Tryz.f5 (Rows.OpenSpec.upto Rows.unitRightSpec).bare Rows.unitRightUptoRow=true:=by
 unfold joinedFacts;rw [uF,uB,uh,ux]
 kernel_rfl
theorem tu (os:Os) (started:os.Started) (H:Type) (ec:TypeId × Value→H) (F:Stop.Interp) :
  ReturnsInHanded {} Tryz.checked os 5 .any (fun w args=>((Rows.OpenSpec.upto Rows.unitRightSpec).pre ec Tryz.prog Tryz.f5 [] false w args∧laidMetH Tryz.prog Rows.unitRightUptoRow.laid w)∧sizedMet ec Tryz.prog Tryz.f5 (Rows.OpenSpec.upto Rows.unitRightSpec) false w args)
   (((Rows.OpenSpec.upto Rows.unitRightSpec).at F).post ec Tryz.prog Tryz.f5 false true false false):=by
 refine ED (k:=Rows.uptoSmall) rfl (C:=Tryz.checked) (X:=fun w _=>laidMetH Tryz.prog Rows.unitRightUptoRow.laid w) (fun _ _ _ hh h=>h.of_heap hh) MH started (by kernel_rfl) Tryz.func5
  (CZ (k:=Rows.uptoSmall) rfl (C:=Tryz.checked) (os:=os) (X:=fun w _=>laidMetH Tryz.prog Rows.unitRightUptoRow.laid w) (World.doorLaid Tryz.prog 400 os) #[.agg #[.slice none 0 0,.slice none 0 0,.slice none 0 0,.slice none 0 0]] 8 rfl (World.shaped_of_RefB (by kernel_rfl) (by kernel_rfl)) (by kernel_rfl) (x:=([.agg [.nil,.nil,.nil,.nil]],[],[])) (by kernel_rfl) rfl (by kernel_rfl) (HB os _)) ?_
 intro W base args ds gs before hval0 hW hk hsh hL;have hval:∀ (j:Nat) t v,Tryz.f5.params[j]?=some t→args[j]?=some v→Value.okWide Tryz.prog W .any base t v:=hval0
 have hW':=hW;obtain ⟨p,q,hA0,hV,rfl,hfz,hnd⟩:=hW;have hA:DataW.TrodAll ec Tryz.prog W 0 (fun _=>true) true Tryz.f5.params.toList args.toList ds p:=hA0;have hpf:Tryz.f5.params=#[27]:=by kernel_rfl
 rw [hpf] at hA hval;clear hA0 hval0;obtain ⟨v0,vs0,d0,ds0,p0,q0,hv0,rfl,rfl,t0,hA1⟩:=trodAll_cons hA;obtain ⟨rfl,rfl,rfl⟩:=trodAll_nil hA1;obtain ⟨args⟩:=args;simp only at hv0;subst hv0;have hk:=of_decide_eq_true hk;have hkb:=hk;simp only [List.append_nil,nA,cA] at hkb;obtain ⟨rfl,rfl⟩:=trodVars_none hV;obtain ⟨a0,b0,c0,e0,x0,rfl,h0⟩:=EL (hval 0 27 v0 rfl rfl) t0 (by simp only [Rows.uptoBulkAll] at hkb; omega);simp only [List.append_nil] at hW';simp only [List.append_nil,List.nil_append,List.cons_append,Rows.uptoBulkAll] at hk;refine (Bz (IZ (LY (I9 hL) hsh) h0.at_ h0.cap) (fun _ _ h=>h.2)).mono fun e W' ⟨v,he,hB,hv,_⟩=>?_
 subst he hv;exact ⟨_,rfl,HN rfl hW' (fun _ _ _=>trodAll_mk1 (shut_bool u4 _)) rfl rfl (fun t ht=>of_decide_eq_true (List.all_eq_true.1 uf t ht)) hB⟩
theorem uC:Rows.UnitRightUptoSaid :=
 OpenClaim.holds_of_cond 5 Tryz.f5 rfl rfl rfl rfl rfl rfl rfl ⟨rfl,rfl,rfl,rfl,rfl⟩ rfl rfl rfl rfl rfl (by kernel_rfl) Tryz.func5 uN
  (of_decide_eq_true (by kernel_rfl)) (by unfold Func.isWrapper; first | (rw [if_pos (by decide +kernel)]; kernel_rfl) | (rw [if_neg (by decide +kernel)]; exact ⟨rfl,rfl⟩))
  (fun os started H ec _ F=>tu os started H ec F)
end Go.Sx.Ob
