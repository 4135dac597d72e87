/- Contracts over heaps, and plain laws, for the functions that the laws of chapter 9 call, part 6: A line is put into a unit that is being assembled, over heaps: the walk. A line  Condition: as each statement says. -/
import Derived.Test.YtfkjiiapldkoeaaGreatDoorP5
import Derived.Test.YtfkjiiapldkoeaaGreatDoorAtM
import Derived.Test.YtfkjiiapldkoeaaGreatDoorAtS
import Derived.Test.YtfkjiiapldkoeaaGreatDoorAobjShelf
import Derived.Test.YtfkjiiapldkoeaaGreatDoorAtN
import Derived.Test.YtfkjiiapldkoeaaGreatDoorAtO
import Derived.RangeFuncWrites
import Derived.LaidEql
import Derived.Stop.Asserts
import Derived.RowKitTokens
import Derived.Lib.ItoaLen
set_option linter.unusedVariables false
set_option linter.unusedSimpArgs false
set_option maxRecDepth 100000
namespace Go.Sx.Ob
open Go.Proofs
def tM (t:kg):ByteArray:=if t.kind=3 then t.name else bK
theorem KK {w:dW} {lb:ByteArray} {t:kg} (h:lb≠bK) (hi:eQ w.names lb=true):tU w lb t:=.inl ⟨h,hi⟩
theorem Kt {w:dW} {lb:ByteArray} {t:kg} (h:lb≠bK) (hi:lb=tM t):tU w lb t:=by
 unfold tM at hi
 split at hi
 ·rename_i k
  exact .inr ⟨k,.inr hi.symm⟩
 ·exact absurd hi h
theorem Jy {w:dW} (W:yD w) {lb:ByteArray} {t:kg} (ok:t.kind=3→bh t.name.data.toList=true) (h:¬ (lb≠bK∧(eQ w.names lb=true∨lb=tM t))):eQ w.names (tM t)=decide (tU w lb t):=by
 by_cases k:t.kind=3
 ·have he:tM t=t.name:=if_pos k
  rw [he] at h ⊢
  cases hi:eQ w.names t.name with
  | true=>exact (decide_eq_true (.inr ⟨k,.inl hi⟩)).symm
  | false =>
   refine (decide_eq_false ?_).symm
   rintro (⟨h1,h2⟩ | ⟨_,h1 | h1⟩)
   ·exact h ⟨h1,.inl h2⟩
   ·rw [hi] at h1; cases h1
   ·exact h ⟨fun e=>uS (ok k) (h1.trans e),.inr h1.symm⟩
 ·have he:tM t=bK:=if_neg k
  rw [he] at h ⊢
  rw [W.MQ]
  refine (decide_eq_false ?_).symm
  rintro (⟨h1,h2⟩ | ⟨h1,_⟩)
  ·exact h ⟨h1,.inl h2⟩
  ·exact k h1
def eL (w:dW) (lb:ByteArray):dW:=if lb=bK then w else jE { w with names:=w.names++[lb] } [uI lb]
theorem EX (w:dW) (lb:ByteArray):(eL w lb).sec=w.sec:=by unfold eL jE; split <;> rfl
theorem EQ (w:dW) (lb:ByteArray):(eL w lb).aV=w.aV:=by unfold eL jE; split <;> rfl
theorem Ce (w:dW) (lb:ByteArray):(eL w lb).aF=w.aF:=by unfold eL jE; split <;> rfl
theorem Hx (w:dW) (lb:ByteArray):(eL w lb).text.length+(eL w lb).data.length≤w.text.length+w.data.length+1:=by
 unfold eL
 split
 ·omega
 ·rw [vD]; simp
theorem ug (w:dW) (n:Nat) (lb:ByteArray) (t:kg):iL w n lb t={ text:=(jE (eL w lb) t.items).text,data:=(jE (eL w lb) t.items).data,aV:=if t.kind=3 then (eL w lb).aV++[(t.name,t.e)] else (eL w lb).aV,names:=if t.kind=3 then (eL w lb).names++[t.name] else (eL w lb).names,aF:=if t.kind=4 then (eL w lb).aF++[(t.name,n)] else (eL w lb).aF,sec:=if t.kind=5 then t.sec else (eL w lb).sec }:=by
 unfold iL eL jE jJ
 by_cases h:lb=bK
 ·simp only [if_pos h,List.nil_append,List.append_nil]
 ·by_cases s:w.sec=0
  ·simp [if_neg h,s,List.append_assoc]
  ·simp [if_neg h,s,List.append_assoc]
theorem HX (lb:ByteArray) (t:kg):(jJ lb t).length=t.items.length+(if lb=bK then 0 else 1):=by
 unfold jJ
 rw [List.length_append]
 split <;> simp <;> omega
structure LC (qq:Nat→Prop) (h0 h:Hp) (b A gm x y:Nat) (w:dW) (lb opn:ByteArray) (pA:Option Addr) (lA cA:Nat) (tg:kg) (t d e q sl se:bL) (ut ud us:List (bL × bC)) (ue:List (bL × lz)) (ow:Nat→Nat):Prop where
 a:de h b A gm w t d e q ut ud ue ow
 bx:aO h x 130 [.string lb,.string opn,.slice pA lA cA]
 w9:aO h y 134 (ru tg.kind sl.p sl.l sl.c tg.name se.p se.l se.c tg.e.num tg.sec)
 o:oO h b tg sl us se ow
 ox:ow x=9
 oy:ow y=9
 ab:Ab b qq ow h0 h
theorem LC.size {qq:Nat→Prop} {h0 h:Hp} {b A gm x y:Nat} {w:dW} {lb opn:ByteArray} {pA:Option Addr} {lA cA:Nat} {tg:kg} {t d e q sl se:bL} {ut ud us:List (bL × bC)} {ue:List (bL × lz)} {ow:Nat→Nat} (s:LC qq h0 h b A gm x y w lb opn pA lA cA tg t d e q sl se ut ud us ue ow) (hb:b≤h0.size):b≤h.size:=Nat.le_trans hb s.ab.size
theorem jR {s:ByteArray}:(!(ByteArray.toList s==[]))=true↔s≠bK:=by
 rw [ByteArray.toList_eq]
 constructor
 ·intro h e
  subst e
  simp [bK] at h
 ·intro h
  simp only [Bool.not_eq_true',beq_eq_false_iff_ne,ne_eq]
  intro e
  exact h (j8 e)
theorem GH {s u:ByteArray}:(ByteArray.toList s==ByteArray.toList u)=true↔s=u:=by
 rw [ByteArray.toList_eq,ByteArray.toList_eq,beq_iff_eq]
 exact ⟨fun h=>j8 h,fun h=>by rw [h]⟩
set_option maxHeartbeats 4000000 in
theorem sX {qq:Nat→Prop} {h h1:Hp} {b A gm x y:Nat} {w:dW} {t d e q sl se:bL} {ut ud us:List (bL × bC)} {ue:List (bL × lz)} {ow:Nat→Nat} {n:Nat} {lb opn:ByteArray} {pA:Option Addr} {lA cA:Nat} {tg:kg}
  (hb:b≤h.size) (ext:Ext h h1) (W:yD w) (hE:w.aV.length≤2^20) (hG:w.aF.length≤2^20) (hn:n≤2^20)
  (s:LC qq h h1 b A gm x y w lb opn pA lA cA tg t d e q sl se ut ud us ue ow) (hlab:lb≠bK→bh lb.data.toList=true) (ok:kl tg (decide (w.sec=1))) (sz:tg.items.length≤2^20) :
  Ao (some ⟨A,0,none⟩) n ⟨x,0,none⟩ ⟨y,0,none⟩ 0 [] (Jt b A gm qq h (pV w n lb (.ok tg))) h1:=by
 unfold Ao
 have hsec:=W.sec
 have hmany:=W.many
 have okn:tg.kind=3→bh tg.name.data.toList=true:=fun k=>ok.name (.inl k)
 have hul:us.length=tg.items.length:=rK s.o.eq
 have hsl:sl.l=tg.items.length:=by rw [s.o.sD.1,List.length_map,hul]
 refine bo rfl ?_
 refine dL (cs:=[(false,[.string])]) (fun z h'=>h'=h1∧z.1=tM tg) ?_ ?_
 ·refine ad s.w9 ((tg.kind:Int),()) rfl ?_
  dsimp only [flat,aB,ai,List.nil_append,List.cons_append]
  refine af (fun r=>?_) (fun r=>?_)
  ·have r:tg.kind=3:=by have:=eq_of_beq r; omega
   rw [ao]
   refine ad s.w9 (tg.name,()) rfl ?_
   dsimp only [flat,aB,ai,List.nil_append,List.cons_append]
   exact bi (cs:=[(false,[.string])]) (tg.name,()) rfl rfl ⟨rfl,(if_pos r).symm⟩
  ·have r:¬ tg.kind=3:=fun e=>by rw [e] at r; simp at r
   exact bi (cs:=[(false,[.string])]) (bK,()) rfl rfl ⟨rfl,(if_neg r).symm⟩
 rintro ⟨s31,⟨⟩⟩ h2 ⟨e2,hs31⟩
 simp only at hs31
 have e2:=e2.symm
 subst e2
 subst hs31
 dsimp only [flat,aB,ai,List.nil_append,List.cons_append]
 refine dL (cs:=[(false,[.bool])]) (fun z h'=>h'=h1∧z.1=decide (tU w lb tg)) ?_ ?_
 ·refine ad s.bx (lb,()) rfl ?_
  dsimp only [flat,aB,ai,List.nil_append,List.cons_append]
  refine af (fun r=>?_) (fun r=>?_)
  ·have r:=jR.1 r
   refine an rfl ?_
   rw [ao]
   refine ad s.a.box (some gm,()) rfl ?_
   dsimp only [flat,aB,ai,List.nil_append,List.cons_append]
   refine ad s.bx (lb,()) rfl ?_
   dsimp only [flat,aB,ai,List.nil_append,List.cons_append]
   refine uX s.a.names lb ?_
   refine ⟨⟨s.bx.cells _ rfl,trivial⟩,?_⟩
   refine af (fun q1=>?_) (fun q1=>?_)
   ·exact bi (cs:=[(false,[.bool])]) (true,()) rfl rfl ⟨rfl,(decide_eq_true (KK r q1)).symm⟩
   refine ad s.bx (lb,()) rfl ?_
   dsimp only [flat,aB,ai,List.nil_append,List.cons_append]
   refine af (fun q2=>?_) (fun q2=>?_)
   ·exact bi (cs:=[(false,[.bool])]) (true,()) rfl rfl ⟨rfl,(decide_eq_true (Kt r (GH.1 q2))).symm⟩
   refine an rfl ?_
   refine ad s.a.box (some gm,()) rfl ?_
   dsimp only [flat,aB,ai,List.nil_append,List.cons_append]
   refine uX s.a.names (tM tg) ?_
   refine ⟨⟨s.bx.cells _ rfl,s.bx.cells _ rfl,s.a.box.cells _ rfl,s.bx.cells _ rfl,trivial⟩,?_⟩
   refine bi (cs:=[(false,[.bool])]) (eQ w.names (tM tg),()) rfl rfl ⟨rfl,Jy W okn ?_⟩
   rintro ⟨_,k | k⟩
   ·rw [k] at q1; cases q1
   ·rw [GH.2 k] at q2; cases q2
  ·have r:lb=bK:=by
    by_cases e:lb=bK
    ·exact e
    ·rw [jR.2 e] at r; cases r
   refine an rfl ?_
   rw [ao]
   refine ad s.a.box (some gm,()) rfl ?_
   dsimp only [flat,aB,ai,List.nil_append,List.cons_append]
   refine uX s.a.names (tM tg) ?_
   refine ⟨⟨s.bx.cells _ rfl,trivial⟩,?_⟩
   exact bi (cs:=[(false,[.bool])]) (eQ w.names (tM tg),()) rfl rfl ⟨rfl,Jy W okn fun k=>k.1 r⟩
 rintro ⟨b32,⟨⟩⟩ h2 ⟨e2,hb32⟩
 simp only at hb32
 have e2:=e2.symm
 subst e2
 subst hb32
 dsimp only [flat,aB,ai,List.nil_append,List.cons_append]
 refine af (fun r=>?_) (fun r=>?_)
 ·have r:=of_decide_eq_true r
  unfold pV
  simp only
  rw [if_pos r]
  exact ⟨rfl,by decide,ext⟩
 have nd:=of_decide_eq_false r
 rw [ao]
 refine ad s.w9 ((sl.p,sl.l,sl.c),()) rfl ?_
 dsimp only [flat,aB,ai,List.nil_append,List.cons_append]
 have hil:=HX lb tg
 refine dL (cs:=[(false,[.int .i64])]) (fun z h'=>h'=h1∧z.1=((jJ lb tg).length:Int)) ?_ ?_
 ·refine ad s.bx (lb,()) rfl ?_
  dsimp only [flat,aB,ai,List.nil_append,List.cons_append]
  refine af (fun r=>?_) (fun r=>?_)
  ·have r:=jR.1 r
   rw [if_neg r] at hil
   exact bi (cs:=[(false,[.int .i64])]) (((jJ lb tg).length:Int),()) rfl (by rw [wrap_i64 (by omega) (by omega),show ((sl.l:Int)+1)=((jJ lb tg).length:Int) by omega]; rfl) ⟨rfl,rfl⟩
  ·have r:lb=bK:=by
    by_cases e:lb=bK
    ·exact e
    ·rw [jR.2 e] at r; cases r
   rw [if_pos r] at hil
   exact bi (cs:=[(false,[.int .i64])]) (((jJ lb tg).length:Int),()) rfl (by rw [show (sl.l:Int)=((jJ lb tg).length:Int) by omega]; rfl) ⟨rfl,rfl⟩
 rintro ⟨n36,⟨⟩⟩ h2 ⟨e2,hn36⟩
 simp only at hn36
 have e2:=e2.symm
 subst e2
 subst hn36
 dsimp only [flat,aB,ai,List.nil_append,List.cons_append]
 refine an rfl ?_
 rw [ao]
 refine ad s.a.box (((w.text.length+w.data.length:Nat):Int),()) rfl ?_
 dsimp only [flat,aB,ai,List.nil_append,List.cons_append]
 have hi1:(jJ lb tg).length≤2^20+1:=by rw [hil]; split <;> omega
 rw [wrap_i64 (by omega) (by omega)]
 refine af (fun r=>?_) (fun r=>?_)
 ·have r:=of_decide_eq_true r
  unfold pV
  simp only
  rw [if_neg nd,if_pos (by omega)]
  exact ⟨rfl,by decide,ext⟩
 have nm:=of_decide_eq_false r
 have hres:pV w n lb (.ok tg)=.ok (iL w n lb tg):=by
  unfold pV
  simp only
  rw [if_neg nd,if_neg (by omega)]
 rw [hres]
 refine dL (cs:=[]) (fun _ h'=>∃ t d ut ud ow,LC qq h h' b A gm x y (eL w lb) lb opn pA lA cA tg t d e q sl se ut ud us ue ow) ?_ ?_
 ·refine ad s.bx (lb,()) rfl ?_
  dsimp only [flat,aB,ai,List.nil_append,List.cons_append]
  refine af (fun r=>?_) (fun r=>?_)
  ·have r:=jR.1 r
   have hlw:eL w lb=jE { w with names:=w.names++[lb] } [uI lb]:=if_neg r
   refine an rfl ?_
   rw [ao]
   refine ad s.a.box (some gm,()) rfl ?_
   dsimp only [flat,aB,ai,List.nil_append,List.cons_append]
   refine ad s.bx (lb,()) rfl ?_
   dsimp only [flat,aB,ai,List.nil_append,List.cons_append]
   refine GW s.a.names (by have:=sJ (hlab r); unfold maxLen; omega) ?_
   intro h3 m3 k3 z3
   have og:=s.a.og
   have w3:∀ i,i∈[gm]→i<h1.size→b≤i→ow i=7:=fun i hi _ _=>by have hi:=List.mem_singleton.1 hi; subst hi; exact og
   have nA:A∉[gm]:=fun hm=>by have hm:=List.mem_singleton.1 hm; have:=s.a.oA; rw [hm] at this; omega
   have nx:x∉[gm]:=fun hm=>by have hm:=List.mem_singleton.1 hm; have:=s.ox; rw [hm] at this; omega
   have ny:y∉[gm]:=fun hm=>by have hm:=List.mem_singleton.1 hm; have:=s.oy; rw [hm] at this; omega
   have a3:de h3 b A gm { w with names:=w.names++[lb] } t d e q ut ud ue ow :=
    ⟨s.a.core.ah k3 (fun i h1 h2 h3=>by have:=w3 i h1 h2 h3; omega),s.a.box.ah k3 nA,m3.congr (Az w.names lb),SL.cB s.a.aF k3 s.a.oq (fun i h1 h2 h3=>by have:=w3 i h1 h2 h3; omega),s.a.oA,s.a.og,s.a.oq,s.a.bA,s.a.bg⟩
   have bx3:=s.bx.ah k3 nx
   have by3:=s.w9.ah k3 ny
   have o3:=s.o.ah k3 (fun i h1 h2 h3=>by have:=w3 i h1 h2 h3; omega)
   have ab3:Ab b qq ow h h3:=s.ab.step k3 (fun i hi _=>by have hi:=List.mem_singleton.1 hi; subst hi; exact ⟨s.a.bg,by omega⟩) (fun _ _=>rfl)
   refine an rfl ?_
   rw [ao]
   refine ad a3.box ((w.sec:Int),()) rfl ?_
   dsimp only [flat,aB,ai,List.nil_append,List.cons_append]
   refine ad bx3 (lb,()) rfl ?_
   dsimp only [flat,aB,ai,List.nil_append,List.cons_append]
   refine jT (p:=none) (l:=0) (c:=0) (x:=uI lb) ?_
   intro h4 s4 e4 z4
   have rl:∀ i,i<h3.size→dG h3.size 9 ow i=ow i:=fun i hi=>cm hi
   have a4:=(a3.relabel rl).ah e4 (by simp)
   have bx4:=bx3.ah e4 (by simp)
   have by4:=by3.ah e4 (by simp)
   have o4:=(o3.relabel rl).ah e4 (by simp)
   have ab4:=ab3.Bl e4 rl
   have ox4:=(rl x bx3.lt).trans s.ox
   have oy4:=(rl y by3.lt).trans s.oy
   have sz4:=e4.size
   have zb3:=ab3.size
   refine ⟨⟨bx4.cells _ rfl,a4.box.cells _ rfl,trivial⟩,?_⟩
   refine aC (Gb a4 (by omega) hsec (s:=⟨some ⟨h3.size,0,none⟩,1,1⟩) (us:=[(⟨none,0,0⟩,uI lb)]) s4 (fun u hu=>by have hu:=List.mem_singleton.1 hu; subst hu; exact SL.nil _ _ _ _) (fun u hu i hi=>by have hu:=List.mem_singleton.1 hu; subst hu; simp [az] at hi) (by show w.text.length+w.data.length+1≤_; omega)) ?_
   rintro _ h5 ⟨rfl,t',d',ut',ud',ow',a5,ho5,ws,k5,hw5⟩
   refine ⟨(),rfl,?_⟩
   dsimp only [flat,aB,ai,List.nil_append,List.cons_append]
   have nx5:x∉ws:=fun hm=>by have:=(hw5 x hm bx4.lt).2; omega
   have ny5:y∉ws:=fun hm=>by have:=(hw5 y hm by4.lt).2; omega
   have bx5:=bx4.ah k5 nx5
   refine ⟨⟨bx5.cells _ rfl,trivial⟩,?_⟩
   refine bi (cs:=[]) () rfl rfl ⟨t',d',ut',ud',ow',?_,bx5,by4.ah k5 ny5,o4.L5 k5 (fun i h1 h2 _=>by have:=(hw5 i h1 h2).2; omega) ho5,(ho5 x bx4.lt).trans ox4,(ho5 y by4.lt).trans oy4,ab4.step k5 (fun i h1 h2=>⟨(hw5 i h1 h2).1,by have:=(hw5 i h1 h2).2; omega⟩) ho5⟩
   rw [hlw]
   exact a5
  ·have r:lb=bK:=by
    by_cases e:lb=bK
    ·exact e
    ·rw [jR.2 e] at r; cases r
   have hlw:eL w lb=w:=if_pos r
   exact bi (cs:=[]) () rfl rfl ⟨t,d,ut,ud,ow,by rw [hlw]; exact s⟩
 rintro ⟨⟩ h3 ⟨t,d,ut,ud,ow,s3⟩
 dsimp only [flat,aB,ai,List.nil_append,List.cons_append]
 have hb3:=s3.size hb
 have hs3:=EX w lb
 have hl3:=Hx w lb
 have he3:=EQ w lb
 have hg3:=Ce w lb
 refine an rfl ?_
 rw [ao]
 refine ad s3.a.box (((eL w lb).sec:Int),()) rfl ?_
 dsimp only [flat,aB,ai,List.nil_append,List.cons_append]
 refine ad s3.w9 ((sl.p,sl.l,sl.c),()) rfl ?_
 dsimp only [flat,aB,ai,List.nil_append,List.cons_append]
 refine aC (Gb s3.a hb3 (by omega) s3.o.sD s3.o.own s3.o.ou (by omega)) ?_
 rintro _ h4 ⟨rfl,t',d',ut',ud',ow',a4,ho4,ws,k4,hw4⟩
 refine ⟨(),rfl,?_⟩
 dsimp only [flat,aB,ai,List.nil_append,List.cons_append]
 rw [s3.o.eq] at a4
 have ny4:y∉ws:=fun hm=>by have:=(hw4 y hm s3.w9.lt).2; have:=s3.oy; omega
 have by4:=s3.w9.ah k4 ny4
 have oy4:ow' y=9:=(ho4 y s3.w9.lt).trans s3.oy
 have E4:SL h4 b 109 2 se.p se.l se.c (tg.e.aw.map cP):=SL.cB s3.o.e k4 s3.o.oe (fun i h1 h2 _=>by have:=(hw4 i h1 h2).2; omega)
 have oe4:∀ i,i∈az se.p→ow' i=0:=fun i hi=>(ho4 i (Sx.SL.bO s3.o.e hi).2).trans (s3.o.oe i hi)
 have ab4:=s3.ab.step k4 (fun i h1 h2=>⟨(hw4 i h1 h2).1,by have:=(hw4 i h1 h2).2; omega⟩) ho4
 have hb4:b≤h4.size:=Nat.le_trans hb ab4.size
 have el4:=a4.el
 have ql4:=a4.ql
 have ee4:(jE (eL w lb) tg.items).aV=w.aV:=he3
 have gg4:(jE (eL w lb) tg.items).aF=w.aF:=hg3
 rw [ee4] at el4
 rw [gg4] at ql4
 clear s3 k4 hw4 ho4 s
 refine dL (cs:=[]) (fun _ h'=>∃ t d e q ut ud ue ow,de h' b A gm (iL w n lb tg) t d e q ut ud ue ow∧Ab b qq ow h h') ?_ ?_
 ·refine ad by4 ((tg.kind:Int),()) rfl ?_
  dsimp only [flat,aB,ai,List.nil_append,List.cons_append]
  refine af (fun r=>?_) (fun r=>?_)
  ·have r:tg.kind=3:=by have:=eq_of_beq r; omega
   have heq:tM tg=tg.name:=if_pos r
   rw [heq]
   refine an rfl ?_
   rw [ao]
   refine ad a4.box (some gm,()) rfl ?_
   dsimp only [flat,aB,ai,List.nil_append,List.cons_append]
   refine GW a4.names (by have:=sJ (okn r); unfold maxLen; omega) ?_
   intro h5 m5 k5 z5
   have og:=a4.og
   have w5:∀ i,i∈[gm]→i<h4.size→b≤i→ow' i=7:=fun i hi _ _=>by have hi:=List.mem_singleton.1 hi; subst hi; exact og
   have nA:A∉[gm]:=fun hm=>by have hm:=List.mem_singleton.1 hm; have:=a4.oA; rw [hm] at this; omega
   have ny:y∉[gm]:=fun hm=>by have hm:=List.mem_singleton.1 hm; rw [hm] at oy4; omega
   have C5:=a4.core.ah k5 (fun i h1 h2 h3=>by have:=w5 i h1 h2 h3; omega)
   have B5:=a4.box.ah k5 nA
   have M5:oT h5 gm ((eL w lb).names++[tg.name]):=m5.congr (Az _ _)
   have G5:=SL.cB a4.aF k5 a4.oq (fun i h1 h2 h3=>by have:=w5 i h1 h2 h3; omega)
   have by5:=by4.ah k5 ny
   have E5:=SL.cB E4 k5 oe4 (fun i h1 h2 h3=>by have:=w5 i h1 h2 h3; omega)
   have ab5:Ab b qq ow' h h5:=ab4.step k5 (fun i hi _=>by have hi:=List.mem_singleton.1 hi; subst hi; exact ⟨a4.bg,by omega⟩) (fun _ _=>rfl)
   have hb5:b≤h5.size:=Nat.le_trans hb ab5.size
   refine an rfl ?_
   rw [ao]
   refine ad B5 ((e.p,e.l,e.c),()) rfl ?_
   dsimp only [flat,aB,ai,List.nil_append,List.cons_append]
   rw [ao]
   refine ad by5 (tg.name,()) rfl ?_
   dsimp only [flat,aB,ai,List.nil_append,List.cons_append]
   rw [ao]
   refine ad by5 ((se.p,se.l,se.c),(tg.e.num:Int),()) rfl ?_
   dsimp only [flat,aB,ai,List.nil_append,List.cons_append]
   refine C5.zi (s:=se) (x:=(tg.name,tg.e)) hb5 E5 oe4 (by omega) (fun h' x=>⟨(by5.ah x (by simp)).cells _ rfl,(by5.ah x (by simp)).cells _ rfl,(B5.ah x (by simp)).cells _ rfl,trivial⟩) ?_
   intro e' h6 C6 k6 l6
   have w6:∀ i,i∈az e.p→ow' i=5:=C5.o5
   have nA6:A∉az e.p:=fun hm=>by have:=w6 A hm; have:=a4.oA; omega
   have ny6:y∉az e.p:=fun hm=>by have:=w6 y hm; omega
   have ng6:gm∉az e.p:=fun hm=>by have:=w6 gm hm; omega
   have by6:=by5.ah k6 ny6
   have rl:∀ i,i<h5.size→dG h5.size 5 ow' i=ow' i:=fun i hi=>cm hi
   refine ⟨⟨by6.cells _ rfl,by6.cells _ rfl,trivial⟩,?_⟩
   refine an rfl ?_
   rw [ao]
   refine ak (B5.ah k6 nA6) rfl (by simp [kM]) ?_
   intro h7 b7 k7 z7
   have oA7:dG h5.size 5 ow' A=6:=(rl A B5.lt).trans a4.oA
   have og7:dG h5.size 5 ow' gm=7:=(rl gm M5.lt).trans og
   have oq7:∀ i,i∈az q.p→dG h5.size 5 ow' i=8:=fun i hi=>(rl i (Sx.SL.bO G5 hi).2).trans (a4.oq i hi)
   have w7:∀ i,i∈[A]→dG h5.size 5 ow' i=6:=fun i hi=>by have hi:=List.mem_singleton.1 hi; subst hi; exact oA7
   have ng7:gm∉[A]:=fun hm=>by have:=w7 gm hm; omega
   refine bi (cs:=[]) () rfl rfl ⟨t',d',e',q,ut',ud',ue++[(se,(tg.name,tg.e))],dG h5.size 5 ow',?_,(ab5.step k6 (fun i hi _=>⟨(Sx.SL.bO C5.e1 hi).1,by have:=w6 i hi; omega⟩) rl).step k7 (fun i hi _=>⟨by have hi:=List.mem_singleton.1 hi; subst hi; exact a4.bA,by have:=w7 i hi; omega⟩) (fun _ _=>rfl)⟩
   rw [ug,if_pos r,if_pos r,if_neg (by omega),if_neg (by omega)]
   have b7:aO h7 A 73 (kM t' d' ⟨e'.p,e'.l,e'.c⟩ ((eL w lb).sec:Int) (((jE (eL w lb) tg.items).text.length+(jE (eL w lb) tg.items).data.length:Nat):Int) gm q):=b7
   refine ⟨C6.ah k7 (fun i hi _ _=>by have:=w7 i hi; omega),b7,(M5.ah k6 ng6).ah k7 ng7,?_,oA7,og7,oq7,a4.bA,a4.bg⟩
   refine Sx.SL.aT (Sx.SL.aT G5 k6 (fun i hi hm=>?_)) k7 (fun i hi hm=>?_)
   ·have:=w6 i hm; have:=a4.oq i hi; omega
   ·have:=w7 i hm; have:=oq7 i hi; omega
  have r3:¬ tg.kind=3:=fun e=>by rw [e] at r; simp at r
  refine af (fun r=>?_) (fun r=>?_)
  ·have r:tg.kind=4:=by have:=eq_of_beq r; omega
   refine an rfl ?_
   rw [ao]
   refine ad a4.box ((q.p,q.l,q.c),()) rfl ?_
   dsimp only [flat,aB,ai,List.nil_append,List.cons_append]
   rw [ao]
   refine ad by4 (tg.name,()) rfl ?_
   dsimp only [flat,aB,ai,List.nil_append,List.cons_append]
   refine yN (z:=.agg #[.string ⟨#[]⟩,.int .i64 (0:Int)]) Me LU rfl (by omega) (by omega) (Kw tg.name n) rfl rfl a4.aF hb4 (by omega) (by omega) (fun h' x=>⟨(by4.ah x (by simp)).cells _ rfl,(a4.box.ah x (by simp)).cells _ rfl,trivial⟩) ?_
   intro p' c' h5 s5 k5 hp5
   have w5:∀ i,i∈az q.p→ow' i=8:=a4.oq
   have nA5:A∉az q.p:=fun hm=>by have:=w5 A hm; have:=a4.oA; omega
   have ny5:y∉az q.p:=fun hm=>by have:=w5 y hm; omega
   have ng5:gm∉az q.p:=fun hm=>by have:=w5 gm hm; have:=a4.og; omega
   have by5:=by4.ah k5 ny5
   have rl:∀ i,i<h4.size→dG h4.size 8 ow' i=ow' i:=fun i hi=>cm hi
   refine ⟨⟨by5.cells _ rfl,trivial⟩,?_⟩
   refine an rfl ?_
   rw [ao]
   refine ak (a4.box.ah k5 nA5) rfl (by simp [kM]) ?_
   intro h6 b6 k6 z6
   have oA6:dG h4.size 8 ow' A=6:=(rl A a4.box.lt).trans a4.oA
   have og6:dG h4.size 8 ow' gm=7:=(rl gm a4.names.lt).trans a4.og
   have oq6:∀ i,i∈az p'→dG h4.size 8 ow' i=8:=um a4.oq (fun i hi=>(Sx.SL.bO a4.aF hi).2) hp5
   have w6:∀ i,i∈[A]→dG h4.size 8 ow' i=6:=fun i hi=>by have hi:=List.mem_singleton.1 hi; subst hi; exact oA6
   have ng6:gm∉[A]:=fun hm=>by have:=w6 gm hm; omega
   have C5:=(a4.core.relabel rl).ah k5 (fun i hi h1 _=>by rw [rl i h1]; have:=w5 i hi; omega)
   refine bi (cs:=[]) () rfl rfl ⟨t',d',e,⟨p',q.l+1,c'⟩,ut',ud',ue,dG h4.size 8 ow',?_,(ab4.step k5 (fun i hi _=>⟨(Sx.SL.bO a4.aF hi).1,by have:=w5 i hi; omega⟩) rl).step k6 (fun i hi _=>⟨by have hi:=List.mem_singleton.1 hi; subst hi; exact a4.bA,by have:=w6 i hi; omega⟩) (fun _ _=>rfl)⟩
   rw [ug,if_neg r3,if_neg r3,if_pos r,if_neg (by omega)]
   have b6:aO h6 A 73 (kM t' d' e ((eL w lb).sec:Int) (((jE (eL w lb) tg.items).text.length+(jE (eL w lb) tg.items).data.length:Nat):Int) gm ⟨p',q.l+1,c'⟩):=b6
   refine ⟨C5.ah k6 (fun i hi _ _=>by have:=w6 i hi; omega),b6,(a4.names.ah k5 ng5).ah k6 ng6,?_,oA6,og6,oq6,a4.bA,a4.bg⟩
   refine Sx.SL.aT (by rw [List.map_append]; exact s5) k6 (fun i hi hm=>?_)
   have:=w6 i hm; have:=oq6 i hi; omega
  have r4:¬ tg.kind=4:=fun e=>by rw [e] at r; simp at r
  refine af (fun r=>?_) (fun r=>?_)
  ·have r:tg.kind=5:=by have:=eq_of_beq r; omega
   rw [ao]
   refine ad by4 ((tg.sec:Int),()) rfl ?_
   dsimp only [flat,aB,ai,List.nil_append,List.cons_append]
   refine an rfl ?_
   rw [ao]
   refine ak a4.box rfl (by simp [kM]) ?_
   intro h5 b5 k5 z5
   have w5:∀ i,i∈[A]→ow' i=6:=fun i hi=>by have hi:=List.mem_singleton.1 hi; subst hi; exact a4.oA
   have ng5:gm∉[A]:=fun hm=>by have:=w5 gm hm; have:=a4.og; omega
   refine bi (cs:=[]) () rfl rfl ⟨t',d',e,q,ut',ud',ue,ow',?_,ab4.step k5 (fun i hi _=>⟨by have hi:=List.mem_singleton.1 hi; subst hi; exact a4.bA,by have:=w5 i hi; omega⟩) (fun _ _=>rfl)⟩
   rw [ug,if_neg r3,if_neg r3,if_neg r4,if_pos r]
   have b5:aO h5 A 73 (kM t' d' e (tg.sec:Int) (((jE (eL w lb) tg.items).text.length+(jE (eL w lb) tg.items).data.length:Nat):Int) gm q):=b5
   exact ⟨a4.core.ah k5 (fun i hi _ _=>by have:=w5 i hi; omega),b5,a4.names.ah k5 ng5,SL.cB a4.aF k5 a4.oq (fun i hi _ _=>by have:=w5 i hi; omega),a4.oA,a4.og,a4.oq,a4.bA,a4.bg⟩
  have r5:¬ tg.kind=5:=fun e=>by rw [e] at r; simp at r
  refine bi (cs:=[]) () rfl rfl ⟨t',d',e,q,ut',ud',ue,ow',?_,ab4⟩
  rw [ug,if_neg r3,if_neg r3,if_neg r4,if_neg r5]
  exact ⟨a4.core,a4.box,a4.names,a4.aF,a4.oA,a4.og,a4.oq,a4.bA,a4.bg⟩
 rintro ⟨⟩ h5 a5
 exact ⟨rfl,a5⟩
theorem Hb (w:dW) (n:Nat) (s:ByteArray):dJ w n s=if (aJ s).2.2≠0 then .error (aJ s).2.2 else if (aJ s).1.label≠bK∧bh (aJ s).1.label.data.toList=false then .error 21 else pV w n (aJ s).1.label (dF (aJ s).1 (decide (w.sec=1))):=by
 unfold dJ pV
 split
 ·rfl
 split
 ·rfl
 all_goals (cases dF (aJ s).1 (decide (w.sec=1)) <;> rfl)
theorem qI (n:Nat) (lb:ByteArray):∀ (ts:List Tok),(bP n lb ts).1.label=lb∨(bP n lb ts).1.label=bK
 | []=>.inl rfl
 | t::ts=>by
  simp only [bP]
  split
  ·exact .inr rfl
  ·cases fg n ts with
   | error a=>exact .inr rfl
   | ok l=>exact .inl rfl
theorem CT (s:ByteArray):(aJ s).1.label.size≤s.size:=by
 have z:bK.size≤s.size:=Nat.zero_le _
 unfold aJ
 split
 ·exact z
 ·unfold dX
  split
  ·rcases qI s.size (((dZ s).1.head?.map (·.text)).getD ⟨#[]⟩) ((dZ s).1.drop 2) with e | e
   ·rw [e]
    cases hq:(dZ s).1 with
    | nil=>exact z
    | cons t r=>exact xR s t (by rw [hq]; simp)
   ·rw [e]; exact z
  ·rcases qI s.size ⟨#[]⟩ (dZ s).1 with e | e
   ·rw [e]; exact z
   ·rw [e]; exact z
theorem Io (n:Nat):decide ((n:Int)=1)=decide (n=1):=by
 by_cases h:n=1
 ·subst h; rfl
 ·rw [decide_eq_false h,decide_eq_false (by omega)]
theorem AK {h h':Hp} {e:Nat} {u:Value} (q:Eo h (.error e) u h'):u=.tuple #[.agg zT.toArray,.int .i64 (e:Int)]∧e≠0:=q.2
theorem CZ {h h':Hp} {t:kg} {u:Value} (q:Eo h (.ok t) u h'):∃ sl us se,u=.tuple #[JR t.kind sl t.name se t.e.num t.sec,.int .i64 0]∧iy h' h.size t sl us se:=q.2
set_option maxHeartbeats 4000000 in
theorem IB {h:Hp} (tb:nq h) (ld:Laid h) {b A gm:Nat} {w:dW} {t d e q:bL} {ut ud:List (bL × bC)} {ue:List (bL × lz)} {ow:Nat→Nat} (a:de h b A gm w t d e q ut ud ue ow) (hb:b≤h.size) (W:yD w) (hE:w.aV.length≤2^20) (hG:w.aF.length≤2^20) {n:Nat} (hn:n≤2^20) (s:ByteArray) (hs:s.size≤2^18) {qq:Nat→Prop} (qs:∀ i,qq i→i<h.size) (qo:∀ i,qq i→ow i=9) :
  HC Tryz.prog 33 #[.pointer (some ⟨A,0,none⟩),.int .i64 (n:Int),.string s] h (Jt b A gm qq h (dJ w n s)):=by
 refine aL (args:=[.pointer (some ⟨A,0,none⟩),.int .i64 (n:Int),.string s]) mixed Tryz.func33 (by kernel_rfl) (jH (some ⟨A,0,none⟩) n s) ?_
 unfold fF
 refine aC (Gc s h (by omega) ld) ?_
 rintro _ h1 ⟨e1,p,c,al,rfl,Ar,ha⟩
 refine ⟨((aJ s).1.label,(aJ s).1.op,(p,al.length,c),((aJ s).2.1:Int),((aJ s).2.2:Int),()),rfl,?_⟩
 dsimp only [flat,aB,ai,nA,cA]
 refine aW ?_
 intro h2 b2 e2 z2
 refine ak b2 rfl (by simp) ?_
 intro h3 b3 k3 z3
 have b3:aO h3 h1.size 130 [.string (aJ s).1.label,.string (aJ s).1.op,.slice p al.length c]:=b3
 have e13:Ext h1 h3:=Ch.trans e2 k3 (fun i hi hl=>by simp at hi; omega)
 have e03:=e1.trans e13
 rw [Hb]
 refine af (fun r=>?_) (fun r=>?_)
 ·have r:(aJ s).2.2≠0:=by simpa using r
  rw [if_pos r]
  exact ⟨rfl,r,e03⟩
 have r:¬ (aJ s).2.2≠0:=by simpa using r
 rw [if_neg r]
 refine dL (cs:=[(false,[.bool])]) (fun z h'=>h'=h3∧z.1=decide ((aJ s).1.label≠bK∧bh (aJ s).1.label.data.toList=false)) ?_ ?_
 ·refine ad b3 ((aJ s).1.label,()) rfl ?_
  dsimp only [flat,aB,ai,nA,cA]
  refine af (fun q=>?_) (fun q=>?_)
  ·have q:=jR.1 q
   refine ad b3 ((aJ s).1.label,()) rfl ?_
   dsimp only [flat,aB,ai,nA,cA]
   have hl:(aJ s).1.label.size≤9223372036854775807:=by
    have:=CT s
    omega
   refine aE (kz _ _ hl) ?_
   refine bi (cs:=[(false,[.bool])]) (_,()) rfl rfl ⟨rfl,?_⟩
   cases hh:bh (aJ s).1.label.data.toList with
   | true=>exact (decide_eq_false (by simp)).symm
   | false=>exact (decide_eq_true ⟨q,rfl⟩).symm
  ·refine bi (cs:=[(false,[.bool])]) (false,()) rfl rfl ⟨rfl,(decide_eq_false ?_).symm⟩
   rintro ⟨q1,_⟩
   rw [jR.2 q1] at q
   cases q
 rintro ⟨b11,⟨⟩⟩ h9 ⟨e9,hb11⟩
 simp only at hb11
 have e9:=e9.symm
 subst e9
 subst hb11
 dsimp only [flat,aB,ai,nA,cA]
 refine af (fun q=>?_) (fun q=>?_)
 ·rw [if_pos (of_decide_eq_true q)]
  exact ⟨rfl,by decide,e03⟩
 have q:=of_decide_eq_false q
 rw [if_neg q]
 have hlab:(aJ s).1.label≠bK→bh (aJ s).1.label.data.toList=true:=fun g=>by
  cases hh:bh (aJ s).1.label.data.toList with
  | true=>rfl
  | false=>exact absurd ⟨g,hh⟩ q
 clear q
 have z03:=e03.size
 have z01:=e1.size
 have a3:=(a.relabel (ow':=dG h.size 9 ow) (fun i hi=>cm hi)).ah e03 (by simp)
 have ox3:dG h.size 9 ow h1.size=9:=uj z01
 have Ar3:=(Ar.mono (Nat.le_refl _)).ah e13 (by simp) (by simp)
 obtain ⟨v,hal⟩:=Dg.parse s (by omega) Ar3 ha
 have tb3:=tb.ah e03 (by simp)
 have hln:(aJ s).1=⟨(aJ s).1.label,(aJ s).1.op,al.map In.ts⟩:=by rw [ha]
 have facts:=gV s (by omega)
 have hok:∀ tg,dF (aJ s).1 (decide (w.sec=1))=.ok tg→kl tg (decide (w.sec=1))∧tg.items.length≤2^20:=fun tg hr =>
  ⟨sW (fun a ha=>(facts a ha).1) hr,(AI (n:=2^20) (by omega) (fun a ha=>⟨(facts a ha).1,by have:=(eN s).1 a ha; omega⟩) (by have:=(eN s).2; omega) hr).many⟩
 have hrd:dF ⟨(aJ s).1.label,(aJ s).1.op,al.map In.ts⟩ (decide ((w.sec:Int)=1))=dF (aJ s).1 (decide (w.sec=1)):=by rw [Io,← hln]
 refine ad b3 ((aJ s).1.label,(aJ s).1.op,(p,al.length,c),()) rfl ?_
 dsimp only [flat,aB,ai,nA,cA]
 refine an rfl ?_
 rw [ao]
 refine ad a3.box ((w.sec:Int),()) rfl ?_
 dsimp only [flat,aB,ai,nA,cA]
 generalize hrr:dF (aJ s).1 (decide (w.sec=1))=rr at *
 have tail:∀ {h4 h6:Hp} {y:Nat} {u:Value},Ext h3 h4→h4.size=h4.size→True:=fun _ _=>trivial
 refine ⟨?_,?_,trivial⟩
 ·refine aC (Dn tb3 v hal (w.sec:Int)) ?_
  rintro u h4 qq
  rw [hrd] at qq
  have e4:=qq.1
  have e04:=e03.trans e4
  cases rr with
  | error er =>
   obtain ⟨rfl,hne⟩:=AK qq
   refine ⟨((0:Int),(none,0,0),bK,(none,0,0),(0:Int),(0:Int),(er:Int),()),rfl,?_⟩
   dsimp only [flat,aB,ai,nA,cA]
   refine aW ?_
   intro h5 b5 e5 z5
   have e35:=e4.trans e5
   refine ⟨⟨(a3.box.ah e35 (by simp)).cells _ rfl,(b3.ah e35 (by simp)).cells _ rfl,trivial⟩,?_⟩
   refine ak b5 rfl (by simp) ?_
   intro h6 b6 k6 z6
   refine bd (by simp; omega) ?_
   exact ⟨rfl,hne,Ch.trans (e04.trans e5) k6 (fun i hi hl=>by have:=e04.size; simp at hi; omega)⟩
  | ok tg =>
   obtain ⟨sl,us,se,rfl,At⟩:=CZ qq
   obtain ⟨ok,sz⟩:=hok tg rfl
   refine ⟨((tg.kind:Int),(sl.p,sl.l,sl.c),tg.name,(se.p,se.l,se.c),(tg.e.num:Int),(tg.sec:Int),(0:Int),()),rfl,?_⟩
   dsimp only [flat,aB,ai,nA,cA]
   refine aW ?_
   intro h5 b5 e5 z5
   have e35:=e4.trans e5
   refine ⟨⟨(a3.box.ah e35 (by simp)).cells _ rfl,(b3.ah e35 (by simp)).cells _ rfl,trivial⟩,?_⟩
   refine ak b5 rfl (by simp) ?_
   intro h6 b6 k6 z6
   have b6:aO h6 h4.size 134 (ru tg.kind sl.p sl.l sl.c tg.name se.p se.l se.c tg.e.num tg.sec):=b6
   have z34:=e4.size
   have e46:Ext h4 h6:=Ch.trans e5 k6 (fun i hi hl=>by simp at hi; omega)
   have e36:=e4.trans e46
   have At6:=At.ah e46 (by simp)
   obtain ⟨ow1,ho1,O⟩:=oO.of (b:=b) At6 (by omega) (dG h.size 9 ow)
   have rl:∀ i,i<h3.size→dG h4.size 9 ow1 i=dG h.size 9 ow i:=fun i hi=>(cm (by omega)).trans (ho1 i hi)
   have O6:oO h6 b tg sl us se (dG h4.size 9 ow1):=⟨O.sD,O.own,O.eq,O.e,fun i hi=>(cm (Sx.SL.bO At.sD.out hi).2).trans (O.o9 i hi),fun u hu i hi=>(cm (Sx.SL.bO (At.sD.own u hu) hi).2).trans (O.ou u hu i hi),fun i hi=>(cm (Sx.SL.bO At.e hi).2).trans (O.oe i hi)⟩
   exact sX hb (e03.trans e36) W hE hG hn ⟨(a3.relabel rl).ah e36 (by simp),b3.ah e36 (by simp),b6,O6,(rl h1.size b3.lt).trans ox3,uj (Nat.le_refl _),Ab.E3 (e03.trans e36) qs (fun i hi=>(rl i (by have:=qs i hi; omega)).trans ((cm (qs i hi)).trans (qo i hi)))⟩ hlab ok sz
 ·refine aW ?_
  intro h5 b5 e5 z5
  have e05:=e03.trans e5
  refine ⟨⟨(a3.box.ah e5 (by simp)).cells _ rfl,(b3.ah e5 (by simp)).cells _ rfl,trivial⟩,?_⟩
  refine aC (Dn (tb3.ah e5 (by simp)) (v.ah e5) hal (w.sec:Int)) ?_
  rintro u h4 qq
  rw [hrd] at qq
  have e4:=qq.1
  have e04:=e05.trans e4
  have b54:=b5.ah e4 (by simp)
  cases rr with
  | error er =>
   obtain ⟨rfl,hne⟩:=AK qq
   refine ⟨((0:Int),(none,0,0),bK,(none,0,0),(0:Int),(0:Int),(er:Int),()),rfl,?_⟩
   dsimp only [flat,aB,ai,nA,cA]
   refine ak b54 rfl (by simp) ?_
   intro h6 b6 k6 z6
   refine bd (by simp; omega) ?_
   exact ⟨rfl,hne,Ch.trans e04 k6 (fun i hi hl=>by simp at hi; omega)⟩
  | ok tg =>
   obtain ⟨sl,us,se,rfl,At⟩:=CZ qq
   obtain ⟨ok,sz⟩:=hok tg rfl
   refine ⟨((tg.kind:Int),(sl.p,sl.l,sl.c),tg.name,(se.p,se.l,se.c),(tg.e.num:Int),(tg.sec:Int),(0:Int),()),rfl,?_⟩
   dsimp only [flat,aB,ai,nA,cA]
   refine ak b54 rfl (by simp) ?_
   intro h6 b6 k6 z6
   have b6:aO h6 h3.size 134 (ru tg.kind sl.p sl.l sl.c tg.name se.p se.l se.c tg.e.num tg.sec):=b6
   have z54:=e4.size
   have e36:Ext h3 h6:=Ch.trans (e5.trans e4) k6 (fun i hi hl=>by simp at hi; omega)
   have At6:=At.ah k6 (fun i hi _=>by simp at hi; omega)
   obtain ⟨ow1,ho1,O6⟩:=oO.of (b:=b) At6 (by omega) (dG h.size 9 ow)
   exact sX hb (e03.trans e36) W hE hG hn ⟨(a3.relabel (ow':=ow1) (fun i hi=>ho1 i (by omega))).ah e36 (by simp),b3.ah e36 (by simp),b6,O6,(ho1 h1.size (by have:=b3.lt; omega)).trans ox3,(ho1 h3.size (by omega)).trans (uj (by omega)),Ab.E3 (e03.trans e36) qs (fun i hi=>(ho1 i (by have:=qs i hi; omega)).trans ((cm (qs i hi)).trans (qo i hi)))⟩ hlab ok sz
def Mr (t d e:bL) (sec:Int) (N G Li:bL):List Value:=[t.v,d.v,e.v,.slice none 0 0,.int .i64 sec,N.v,G.v,Li.v]
def Lk (n:Nat):List Value:=[.int .i64 (n:Int)]
structure tD (h:Hp) (b B:Nat) (w:dW) (t d e N G Li:bL) (ut ud:List (bL × bC)) (ue:List (bL × lz)) (ow:Nat→Nat):Prop where
 core:Core h b w.text w.data w.aV t d e ut ud ue ow
 box:aO h B 142 (Mr t d e (w.sec:Int) N G Li)
 names:SN h b N.p N.l N.c w.names
 aF:SN h b G.p G.l G.c (w.aF.map (·.1))
 lines:SL h b 3 1 Li.p Li.l Li.c ((w.aF.map (·.2)).map Lk)
 oB:ow B=6
 oN:∀ i,i∈az N.p→ow i=7
 oG:∀ i,i∈az G.p→ow i=8
 oL:∀ i,i∈az Li.p→ow i=12
 bB:b≤B
section
variable {h h':Hp} {b B:Nat} {w:dW} {t d e N G Li:bL} {ut ud:List (bL × bC)} {ue:List (bL × lz)} {ow:Nat→Nat}
theorem tD.ah {ws:List Nat} (a:tD h b B w t d e N G Li ut ud ue ow) (k:Ch ws h h') (hw:∀ i,i∈ws→i<h.size→b≤i→ow i=9):tD h' b B w t d e N G Li ut ud ue ow:=by
 have n:∀ k0,k0≠9→∀ i,i∈ws→i<h.size→b≤i→ow i≠k0:=fun k0 hk i h1 h2 h3=>by have:=hw i h1 h2 h3; omega
 exact ⟨a.core.ah k (fun i h1 h2 h3=>by have:=hw i h1 h2 h3; omega),a.box.ah k (fun hm=>by have:=hw B hm a.box.lt a.bB; have:=a.oB; omega),SL.cB a.names k a.oN (n 7 (by omega)),SL.cB a.aF k a.oG (n 8 (by omega)),SL.cB a.lines k a.oL (n 12 (by omega)),a.oB,a.oN,a.oG,a.oL,a.bB⟩
theorem tD.dl (a:tD h b B w t d e N G Li ut ud ue ow):d.l=w.data.length:=by rw [a.core.d1.1,List.length_map,rK a.core.d3]
theorem tD.ll (a:tD h b B w t d e N G Li ut ud ue ow):Li.l=w.aF.length:=by rw [a.lines.1,List.length_map,List.length_map]
end
structure Mg (qq:Nat→Prop) (h0 h:Hp) (b B x y:Nat) (w:dW) (lb opn:ByteArray) (pA:Option Addr) (lA cA:Nat) (tg:kg) (t d e N G Li sl se:bL) (ut ud us:List (bL × bC)) (ue:List (bL × lz)) (ow:Nat→Nat):Prop where
 a:tD h b B w t d e N G Li ut ud ue ow
 bx:aO h x 191 [.string lb,.string opn,.slice pA lA cA]
 w9:aO h y 194 (ru tg.kind sl.p sl.l sl.c tg.name se.p se.l se.c tg.e.num tg.sec)
 o:oO h b tg sl us se ow
 ox:ow x=9
 oy:ow y=9
 ab:Ab b qq ow h0 h
theorem Mg.ext {qq:Nat→Prop} {h0 h h':Hp} {b B x y:Nat} {w:dW} {lb opn:ByteArray} {pA:Option Addr} {lA cA:Nat} {tg:kg} {t d e N G Li sl se:bL} {ut ud us:List (bL × bC)} {ue:List (bL × lz)} {ow:Nat→Nat} (s:Mg qq h0 h b B x y w lb opn pA lA cA tg t d e N G Li sl se ut ud us ue ow) (k:Ext h h') :
  Mg qq h0 h' b B x y w lb opn pA lA cA tg t d e N G Li sl se ut ud us ue ow :=
 ⟨s.a.ah k (by simp),s.bx.ah k (by simp),s.w9.ah k (by simp),s.o.ah k (by simp),s.ox,s.oy,s.ab.Bl k (fun _ _=>rfl)⟩
set_option maxHeartbeats 4000000 in
theorem vM:∀ (l bW r:List UInt8),(∀ c,c∈l→nl c=true)→dB bW (l++10::r)=(bW++l)::dB [] r
 | [],bW,r,_=>by simp [np]
 | c::l,bW,r,h=>by
  have hc:¬ c=10:=by simpa [nl] using h c (by simp)
  rw [List.cons_append,np,if_neg hc,vM l (bW++[c]) r (fun x hx=>h x (by simp [hx]))]
  simp
theorem sN:∀ (l bW:List UInt8),(∀ c,c∈l→nl c=true)→dB bW l=if bW++l=[] then [] else [bW++l]
 | [],bW,_=>by simp [BZ]
 | c::l,bW,h=>by
  have hc:¬ c=10:=by simpa [nl] using h c (by simp)
  rw [np,if_neg hc,sN l (bW++[c]) (fun x hx=>h x (by simp [hx]))]
  simp
theorem zZ:∀ (f:Nat) (s:List UInt8),s.length<f→aP f s=dB [] s
 | 0,s,h=>by omega
 | f+1,s,h=>by
  by_cases s0:s=[]
  ·subst s0; rfl
  rcases uu s with hn | ⟨l,r,rfl,hl⟩
  ·rw [gW f s hn s0,sN s [] hn,List.nil_append,if_neg s0]
  ·simp only [List.length_append,List.length_cons] at h
   rw [eJ f l r hl,vM l [] r hl,zZ f r (by omega)]
   rfl
theorem uG (s:ByteArray):Ic s=cO s:=by
 refine (JI ?_).symm
 unfold cO
 rw [List.map_map,zZ _ _ (by simp)]
 have:∀ l:List (List UInt8),l.map ((fun x:ByteArray=>x.data.toList) ∘ fun l=>(⟨l.toArray⟩:ByteArray))=l:=fun l=>by
  induction l with
  | nil=>rfl
  | cons x l ih=>rw [List.map_cons,ih]; simp
 exact this _
/-! Faults,a line more. -/
theorem uZ {w w':dW} {n:Nat} {s:ByteArray} (h:dJ w n s=.ok w'):w'.aV.length≤w.aV.length+1∧w'.aF.length≤w.aF.length+1:=by
 unfold dJ at h
 split at h
 ·cases h
 split at h
 ·cases h
 split at h
 ·cases h
 split at h
 ·cases h
 split at h
 ·cases h
 injection h with h
 subst h
 unfold iL
 simp only
 constructor
 ·split
  ·simp
  ·omega
 ·split
  ·simp
  ·omega
/-! Sizes. -/
structure LJ (n:Nat) (w:dW):Prop where
 text:∀ x,x∈w.text→Bd n x
 data:∀ x,x∈w.data→Bd n x
 aV:∀ x,x∈w.aV→x.2.aw.length≤n
theorem E8 {w w':dW} {n k:Nat} {s:ByteArray} (hs:s.size+1≤n) (hb:s.size≤2^20) (S:LJ n w) (h:dJ w k s=.ok w'):LJ n w':=by
 unfold dJ at h
 split at h
 ·cases h
 split at h
 ·cases h
 split at h
 ·cases h
 rename_i t ht
 split at h
 ·cases h
 split at h
 ·cases h
 injection h with h
 have f:=gV s hb
 have z:=AI (n:=n) (by omega) (fun a ha=>⟨(f a ha).1,by have:=(eN s).1 a ha; omega⟩) (by have:=(eN s).2; omega) ht
 generalize (aJ s).1.label=lb at *
 have hits:∀ x,x∈jJ lb t→Bd n x:=by
  intro x hx
  unfold jJ at hx
  rcases List.mem_append.1 hx with hx | hx
  ·split at hx
   ·simp at hx
   ·have:=List.mem_singleton.1 hx
    subst this
    simp [Bd,uI,cR,dN]
  ·exact z.item x hx
 subst h
 refine ⟨?_,?_,?_⟩
 ·intro x hx
  unfold iL at hx
  simp only at hx
  split at hx
  ·rcases List.mem_append.1 hx with hx | hx
   ·exact S.text x hx
   ·exact hits x hx
  ·exact S.text x hx
 ·intro x hx
  unfold iL at hx
  simp only at hx
  split at hx
  ·exact S.data x hx
  ·rcases List.mem_append.1 hx with hx | hx
   ·exact S.data x hx
   ·exact hits x hx
 ·intro x hx
  unfold iL at hx
  simp only at hx
  split at hx
  ·rcases List.mem_append.1 hx with hx | hx
   ·exact S.aV x hx
   ·have:=List.mem_singleton.1 hx
    subst this
    exact z.e
  ·exact S.aV x hx
theorem C8 {n:Nat}:∀ (l:List ByteArray) (w w':dW) (k:Nat),(∀ s,s∈l→s.size+1≤n∧s.size≤2^20)→LJ n w→ef w k l=.ok w'→LJ n w'
 | [],w,w',k,_,S,h=>by
  simp only [ef] at h
  injection h with h
  subst h
  exact S
 | s::l,w,w',k,hs,S,h=>by
  simp only [ef] at h
  split at h
  ·cases h
  ·rename_i w1 h1
   exact C8 l w1 w' (k+1) (fun x hx=>hs x (by simp [hx])) (E8 (hs s (by simp)).1 (hs s (by simp)).2 S h1) h
def kw (h:Hp) (b:Nat) (a b' c d:bL) (u:ig):Prop:=∃ ut ud ue ow,Core h b u.text u.data u.aV a b' c ut ud ue ow∧SN h b d.p d.l d.c u.aF
theorem kw.zero (h:Hp) (b:Nat):kw h b fW fW fW fW oK:=⟨[],[],[],fun _=>0,Core.nil _ _ _,SL.nil _ _ _ _⟩
set_option maxHeartbeats 4000000 in
def sj:Except (Nat × Nat) ig→ig × (Nat × Nat)
 | .error q=>(oK,q)
 | .ok u=>(u,(0,0))
theorem kw.ah {h h':Hp} {b:Nat} {a b' c d:bL} {u:ig} {ws:List Nat} (U:kw h b a b' c d u) (k:Ch ws h h') (hw:∀ i,i∈ws→i<h.size→i<b):kw h' b a b' c d u:=by
 obtain ⟨ut,ud,ue,ow,C,S⟩:=U
 exact ⟨ut,ud,ue,ow,C.ah k (fun i h1 h2 h3=>by have:=hw i h1 h2; omega),SL.wv S k hw⟩
theorem kw.mono {h:Hp} {b b1:Nat} {a b' c d:bL} {u:ig} (U:kw h b a b' c d u) (hb:b1≤b):kw h b1 a b' c d u:=by
 obtain ⟨ut,ud,ue,ow,C,S⟩:=U
 exact ⟨ut,ud,ue,ow,⟨Sx.SL.mono C.t1 hb,fun u hu=>Sx.SL.mono (C.t2 u hu) hb,C.t3,Sx.SL.mono C.d1 hb,fun u hu=>Sx.SL.mono (C.d2 u hu) hb,C.d3,Sx.SL.mono C.e1 hb,fun u hu=>Sx.SL.mono (C.e2 u hu) hb,C.e3,C.o3,C.o4,C.o5,C.ot,C.od,C.oe⟩,Sx.SL.mono S hb⟩
end Go.Sx.Ob
set_option linter.unusedVariables false
set_option linter.unusedSimpArgs false
set_option maxRecDepth 100000
namespace Go.Proofs
open Go.RowKit Go.Shelf Go.Sx.Ob
attribute [local go_sem] Oper.semAt_some
theorem KQ {tmps:Array Value} {w:World} {p q:Nat} {va vb vc vd ev:Value} (h2:tmps.getD 2 undef=.pointer (some ⟨p,0,none⟩)) (h3:tmps.getD 3 undef=.pointer (some ⟨q,0,none⟩)) (bp:Sx.aO w.heap p 27 [va,vb,vc,vd]) (bq:Sx.aO w.heap q 29 [ev]) :
  (results Tryz.f10 tmps).run Tryz.prog w=.ok (.tuple #[.agg #[va,vb,vc,vd],ev]) w:=by
 have c0:w.cell? ⟨p,0,none⟩=some va:=by rw [Sx.dC,bp.cell]; rfl
 have c1:w.cell? ⟨p,1,none⟩=some vb:=by rw [Sx.dC,bp.cell]; rfl
 have c2:w.cell? ⟨p,2,none⟩=some vc:=by rw [Sx.dC,bp.cell]; rfl
 have c3:w.cell? ⟨p,3,none⟩=some vd:=by rw [Sx.dC,bp.cell]; rfl
 have c4:w.cell? ⟨q,0,none⟩=some ev:=by rw [Sx.dC,bq.cell]; rfl
 rw [Array.getD_eq_getD_getElem?] at h2 h3
 simp [results,Tryz.f10,go_sem,h2,h3,c0,c1,c2,c3,c4]
theorem zR {R:Ending→World→Prop} {tmps:Array Value} {dl:List Deferred} {W':World} {b0 p q:Nat} {va vb vc vd ev:Value} (hm:Marks b0 dl W') (h2:tmps.getD 2 undef=.pointer (some ⟨p,0,none⟩)) (h3:tmps.getD 3 undef=.pointer (some ⟨q,0,none⟩)) (bp:Sx.aO W'.heap p 27 [va,vb,vc,vd]) (bq:Sx.aO W'.heap q 29 [ev])
  (hR:∀ w':World,Below b0 W' w'→(∀ B:Nat,W'.heap[B]?≠some (Obj.deferred (some []))→w'.heap[B]?=W'.heap[B]?)→R (.returned (.tuple #[.agg #[va,vb,vc,vd],ev])) w') :
  bodyPostM Fence.wide 7 Tryz.prog Tryz.f10 R Exit.ret { tmps:=tmps,defers:=dl } W':=by
 refine Marks.leaves hm fun w' hb hk=>?_
 have bp':Sx.aO w'.heap p 27 [va,vb,vc,vd]:=by
  unfold Sx.aO at bp ⊢
  rw [hk p (by rw [bp]; simp),bp]
 have bq':Sx.aO w'.heap q 29 [ev]:=by
  unfold Sx.aO at bq ⊢
  rw [hk q (by rw [bq]; simp),bq]
 exact ⟨_,KQ h2 h3 bp' bq',hR w' hb hk⟩
theorem yQ {n f l:Nat} {args:Array Value} {W:World} {R:Value→Sx.Hp→Prop} {K:Ending→World→Prop} (h:Sx.HC Tryz.prog f args W.heap R) (hK:∀ v w',Sx.bR W w'→R v w'.heap→K (.returned v) w'):(Fence.wide.inRound l).fn f∧CallsIn (Fence.wide.inRound l) n Tryz.prog f args W K :=
 ⟨trivial,(CallsIn.inRound l (callsIn_wide.2 (h W rfl))).mono fun e w' ⟨v,hv,hb,hr⟩=>by subst hv; exact hK v w' hb hr⟩
end Go.Proofs
set_option linter.unusedVariables false
set_option maxRecDepth 100000
namespace Go.Proofs
open Go.RowKit Go.Maps Go.Sort Go.Shelf
def Tryz.xW:Go.Shelf.Ren:=⟨fun | 7=>35 | 10=>68 | n=>n,fun | 23=>70 | 26=>9 | 3=>4 | 28=>79 | 0=>0 | 27=>78 | 33=>39 | 4=>4 | n=>n,fun | n=>n⟩
theorem Tryz.Jz:Go.Proofs.SlLaysZ.n7 Tryz.prog Tryz.xW:={
 mixed:=by kernel_rfl
 f7:=⟨Tryz.f35.name,by decide,Tryz.func35.trans (congrArg some (by kernel_rfl))⟩
 f10:=⟨Tryz.f68.name,by decide,Tryz.func68.trans (congrArg some (by kernel_rfl))⟩
 t0:=Tryz.underlying0
 a0:=Tryz.isAgg0
 z0:=Tryz.sizeOf0
 v0:=Tryz.zeroValue0
 t4:=Tryz.underlying4
 a4:=Tryz.isAgg4
 z4:=Tryz.sizeOf4
 v4:=Tryz.zeroValue4
 t23:=Tryz.underlying70
 a23:=Tryz.isAgg70
 z23:=Tryz.sizeOf70
 v23:=Tryz.zeroValue70
 t26:=Tryz.underlying9
 a26:=Tryz.isAgg9
 z26:=Tryz.sizeOf9
 v26:=Tryz.zeroValue9
 t27:=Tryz.underlying78
 a27:=Tryz.isAgg78
 z27:=Tryz.sizeOf78
 v27:=Tryz.zeroValue78
 t28:=Tryz.underlying79
 a28:=Tryz.isAgg79
 z28:=Tryz.sizeOf79
 v28:=Tryz.zeroValue79
 t33:=Tryz.underlying39
 a33:=Tryz.isAgg39
 z33:=Tryz.sizeOf39
 v33:=Tryz.zeroValue39 }
theorem Tryz.AP (mb:Option Nat) (W:World):CallsIn Fence.wide 5 Tryz.prog 35 #[.map mb] W fun e w'=>e=.returned (.func (.func 68) #[] #[.pointer (some ⟨W.heap.size,0,none⟩)])∧w'=W.alloc (.cells #[.map mb] 70) :=
 AnyZ.keys_in Tryz.Jz Fence.wide 5 trivial rfl mb W
theorem Tryz.nj {H:Type} (b nn:Nat) (D0:DataW H) (R:Value→Option (DataW H × List MemPlace)) (w:World) (hown:w.ownsMap Tryz.prog 9 R b nn D0) (hmax:Maps.size D0≤maxLen) (hbytes:Maps.size D0*16≤140737488355328) :
  CallsIn Fence.wide 5 Tryz.prog 34 #[.func (.func 68) #[] #[.pointer (some ⟨w.heap.size,0,none⟩)]] (w.alloc (.cells #[.map (some b)] 70)) fun e w'=>∃ (v:Value) (ss:List (List UInt8)),e=.returned v∧ss.Perm (strKeys D0) ∧
   w'.ownsRow (w.alloc (.cells #[.map (some b)] 70)).heap.size 9 1 v ss.length ((ss.mergeSort (fun x y=>decide (x≤y))).map encStr)∧(v=.slice none 0 0↔ss=[])∧Below (w.alloc (.cells #[.map (some b)] 70)).heap.size (w.alloc (.cells #[.map (some b)] 70)) w':=by
 have hbl:=hown.lt
 have hseq:SeqGives Fence.wide 2 Tryz.prog 68 #[.pointer (some ⟨w.heap.size,0,none⟩)] encStr (fun ss=>ss.Perm (strKeys D0)) (Maps.size D0) (w.alloc (.cells #[.map (some b)] 70)) :=
  AnyZ.keys_gives (ρ:=Tryz.xW) { Tryz.Jz with } Fence.wide _ trivial rfl (by omega) w.heap.size b nn D0 _ (by simp) (by simp) (by
   obtain ⟨es,clock,hb,Ft,hs,hD⟩:=hown
   exact ⟨es,clock,(Below.heap_alloc _ _ b hbl).trans hb,Ft,hs,hD⟩)
 exact AnyZ.sorted_in Tryz.x9 Fence.wide 5 trivial trivial trivial trivial rfl (by omega) (Tryz.BE _) (enters_of Tryz.func43 (by kernel_rfl) rfl) 68 #[.pointer (some ⟨w.heap.size,0,none⟩)] trivial (enters_of Tryz.func68 (by kernel_rfl) rfl) _ _ hmax hbytes _ hseq
end Go.Proofs
namespace Go.Sx
open Go.Proofs
open Go.RowKit Go.Maps
theorem G' (r:Option Nat) (h:Hp):HC Tryz.prog 35 #[.map r] h fun v h'=>v=.func (.func 68) #[] #[.pointer (some ⟨h.size,0,none⟩)]∧h'=h.push (.cells #[.map r] 70):=by
 intro W hW
 subst hW
 exact (callsIn_wide.1 (Tryz.AP r W)).mono fun e w' ⟨he,hw⟩=>⟨_,he,by rw [hw]; exact bR.alloc _ _,rfl,by rw [hw]; rfl⟩
theorem B8 {h:Hp} {g:Nat} {D:List (ByteArray × Value)} (m:eP h g D) (hl:D.length≤2^40) :
  HC Tryz.prog 34 #[.func (.func 68) #[] #[.pointer (some ⟨h.size,0,none⟩)]] (h.push (.cells #[.map (some g)] 70)) fun v h'=>∃ p l c,v=.slice p l c∧SL h' (h.size+1) 9 1 p l c ((keysOf D).map fun k=>[encStr k]) ∧
   Ext (h.push (.cells #[.map (some g)] 70)) h':=by
 intro W hW
 obtain ⟨D0,hown,hperm,hsize⟩:=eP.owns (W:={ W with heap:=h }) m (by unfold maxLen; omega)
 have hc:=callsIn_wide.1 (Tryz.nj g D.length D0 CP { W with heap:=h } hown (by rw [hsize]; unfold maxLen; omega) (by rw [hsize]; omega))
 rw [World.Bk hW] at hc
 refine hc.mono fun e w' hr=>?_
 obtain ⟨v,ss,he,hp,hrow,_,hb⟩:=hr
 have hss:ss.mergeSort (fun x y=>decide (x≤y))=keysOf D:=mergeSort_of_perm (hp.trans hperm)
 have hlen:ss.length=((ss.mergeSort (fun x y=>decide (x≤y))).map encStr).length:=by rw [List.length_map,List.length_mergeSort]
 rw [hlen,hss] at hrow
 obtain ⟨p,l,c,hv,hsl⟩:=SL.Fc hrow
 refine ⟨v,he,⟨hb.os,hb.tape,hb.output⟩,p,l,c,hv,?_,?_⟩
 ·rw [List.map_map] at hsl
  have:W.heap.size=h.size+1:=by rw [hW]; simp
  rw [this] at hsl
  exact hsl
 ·rw [← hW]
  exact ⟨hb.size,fun i hi _=>hb.block i hi⟩
end Go.Sx
set_option linter.unusedVariables false
set_option linter.unusedSimpArgs false
set_option maxRecDepth 100000
namespace Go.Sx.Ob
open Go.Proofs Go.Maps
theorem zH {D:List (ByteArray × Value)} {l:List ByteArray} (hn:(D.map (·.1)).Nodup) (hm:∀ s,s∈D.map (·.1)↔s∈l):keysOf D=(cd l).map (fun s=>s.data.toList):=by
 have hr:=qc l
 have nd:(cd l).Nodup:=hr.imp fun h=>wK h
 have hp:(D.map (·.1)).Perm (cd l):=(List.perm_ext_iff_of_nodup hn nd).2 fun s=>by rw [hm,nQ]
 have h2:((cd l).map fun s=>s.data.toList).Perm (D.map fun p=>p.1.data.toList):=by
  have:=hp.symm.map (fun s:ByteArray=>s.data.toList)
  rw [List.map_map] at this
  exact this
 have h1:((cd l).map fun s=>s.data.toList).mergeSort (fun x y=>decide (x≤y))=keysOf D:=mergeSort_of_perm h2
 rw [← h1]
 refine List.mergeSort_of_pairwise ?_
 rw [List.pairwise_map]
 refine hr.imp fun {a b} h=>?_
 simp only [decide_eq_true_eq]
 exact List.le_of_lt h
theorem vj (s:ByteArray):∀ (l:List ByteArray),(ml s l).length≤l.length+1
 | []=>by simp [ml]
 | x::l=>by
  have ih:=vj s l
  unfold ml
  split
  ·simp
  ·split
   ·simp
   ·simp only [List.length_cons]; omega
theorem yl:∀ (l d:List ByteArray),(l.foldl (fun d s=>ml s d) d).length≤l.length+d.length
 | [],d=>by simp
 | x::l,d=>by
  rw [List.foldl_cons]
  have h1:=yl l (ml x d)
  have h2:=vj x d
  simp only [List.length_cons]
  omega
theorem Ey (l:List ByteArray):(cd l).length≤l.length:=by
 have:=yl l []
 simpa [cd] using this
theorem FA (l:List ByteArray):((l.map fun s=>s.data.toList).map fun k=>[encStr k])=l.map Hv:=by
 rw [List.map_map]
 apply List.map_congr_left
 intro s _
 show [Value.string ⟨s.data.toList.toArray⟩]=[Value.string s]
 simp
def qX (w:dW):Except (Nat × Nat) ig:=match zX w with
 | some g=>.error (g.2,23)
 | none=>.ok ⟨w.text,w.data,w.aV,cd (w.aF.map (·.1))⟩
def qZ:Except (Nat × Nat) ig→Option (Nat × Nat)
 | .error q=>some q
 | .ok _=>none
def KF (b u e A:Nat) (w:dW) (h:Hp) (v:Value) (h':Hp):Prop:=Ch [u,e,A] h h'∧∃ (a b' c d:bL) (ev:Value),v=.tuple #[oD a b' c d,ev]∧kw h' b a b' c d (sj (qX w)).1∧lX h' ev (qZ (qX w))∧aO h' u 27 [a.v,b'.v,c.v,d.v]∧aO h' e 29 [ev]
theorem yc {w:dW}:∀ {l:List (ByteArray × Nat)} {i:Nat},(∀ g,g∈l.take i→eQ w.names g.1=true)→(hi:i<l.length)→eQ w.names l[i].1=false→l.find? (fun g=>!eQ w.names g.1)=some l[i]
 | x::l,0,_,_,h=>by
  rw [List.find?_cons]
  simp only [List.getElem_cons_zero] at h
  rw [h]
  rfl
 | x::l,i+1,h1,hi,h=>by
  rw [List.find?_cons,h1 x (by simp)]
  simp only [Bool.not_true]
  exact yc (fun g hg=>h1 g (by simp [hg])) (by simpa using hi) h
set_option maxHeartbeats 4000000 in
theorem H8 {h:Hp} {b A g u e v:Nat} {w:dW} {t d e' q:bL} {ut ud:List (bL × bC)} {ue:List (bL × lz)} {ow:Nat→Nat} (a:de h b A g w t d e' q ut ud ue ow) (W:yD w) (hG:w.aF.length≤2^20) (hu:u<b) (he:e<b) (hue:u≠e) (hb:b≤h.size) (hv:ow v=9)
  {xs:List Value} {x1:Value} (bu:aO h u 27 xs) (hxs:xs.length=4) (be:aO h e 29 [x1]) (bv:aO h v 69 [.pointer (some ⟨A,0,none⟩)]):dj u e v [] (KF b u e A w h) h:=by
 unfold dj
 have bA:=a.bA
 have hql:=a.ql
 have nvA:v≠A:=fun hh=>by have:=a.oA; rw [hh] at hv; omega
 refine Je ?_
 intro h1 m1 e1 z1
 refine ad (bv.ah e1 (by simp)) (some ⟨A,0,none⟩,()) rfl ?_
 dsimp only [flat,aB,ai,nA,cA]
 refine an rfl ?_
 rw [ao]
 refine ad (a.box.ah e1 (by simp)) ((q.p,q.l,q.c),()) rfl ?_
 dsimp only [flat,aB,ai,nA,cA]
 refine bm (cs:=[(false,[.int .i64])]) (fun y m h'=>∃ i:Nat,y.1=(i:Int)∧m=w.aF.length-i∧i≤w.aF.length∧Ext h h'∧oT h' h.size ((w.aF.take i).map (·.1)).reverse∧∀ x,x∈w.aF.take i→eQ w.names x.1=true)
  ((0:Int),()) w.aF.length rfl ⟨0,rfl,rfl,by omega,e1,m1,by simp⟩ ?_
 rintro ⟨n7,⟨⟩⟩ m h2 ⟨i,hi,rfl,hil,e2,m2,hin⟩
 simp only at hi
 subst hi
 dsimp only [flat,aB,ai,nA,cA]
 have a2:=a.ah e2 (by simp)
 have bu2:=bu.ah e2 (by simp)
 have be2:=be.ah e2 (by simp)
 have bv2:=bv.ah e2 (by simp)
 have z2:=e2.size
 refine af (fun r=>?_) (fun r=>?_)
 ·have r:=of_decide_eq_true r
  have hi':i<w.aF.length:=by omega
  have hleg:=W.aF w.aF[i] (List.getElem_mem hi')
  obtain ⟨aq,haq,hcq⟩:=SL.cells a2.aF (i:=i) (by rw [List.length_map]; exact hi')
  rw [List.getElem_map] at hcq
  refine aA ⟨by omega,by omega⟩ (an haq ?_)
  rw [show Int.toNat (i:Int)=i by omega]
  refine aG (w.aF[i].1,(w.aF[i].2:Int),()) hcq ?_
  dsimp only [flat,aB,ai,nA,cA]
  have htk:w.aF.take (i+1)=w.aF.take i++[w.aF[i]]:=List.take_succ_eq_append_getElem hi'
  have hund:eQ w.names w.aF[i].1=false→qX w=.error (w.aF[i].2,23):=fun hf=>by
   unfold qX zX
   rw [yc hin hi' hf]
  generalize w.aF[i]=gi at *
  refine aW ?_
  intro h3 b3 e3 z3
  refine ak b3 rfl (by simp) ?_
  intro h4 b4 k4 z4
  have b4:aO h4 h2.size 76 [.string gi.1,.int .i64 (gi.2:Int)]:=b4
  have e24:Ext h2 h4:=Ch.trans e3 k4 (fun j hj hl=>by simp at hj; omega)
  have a4:=a2.ah e24 (by simp)
  have bv4:=bv2.ah e24 (by simp)
  refine ad bv4 (some ⟨A,0,none⟩,()) rfl ?_
  dsimp only [flat,aB,ai,nA,cA]
  refine an rfl ?_
  rw [ao]
  refine ad a4.box (some g,()) rfl ?_
  dsimp only [flat,aB,ai,nA,cA]
  refine ad b4 (gi.1,()) rfl ?_
  dsimp only [flat,aB,ai,nA,cA]
  refine uX a4.names gi.1 ?_
  refine ⟨⟨bv4.cells _ rfl,trivial⟩,?_⟩
  refine af (fun r2=>?_) (fun r2=>?_)
  ·have r2:eQ w.names gi.1=false:=by simpa using r2
   have hend:=hund r2
   have bu4:=bu2.ah e24 (by simp)
   have be4:=be2.ah e24 (by simp)
   have e04:=e2.trans e24
   rw [ao]
   refine ad b4 ((gi.2:Int),()) rfl ?_
   dsimp only [flat,aB,ai,nA,cA]
   have hl2:h2.size<h4.size:=b4.lt
   have hbu:=bu.lt
   have hbe:=be.lt
   have xl:∀ hh ys,aO hh u 27 ys→ys.length=4→∃ y1 y2 y3 y4,ys=[y1,y2,y3,y4]:=fun hh ys _ hl=>by
    match ys,hl with
    | [y1,y2,y3,y4],_=>exact ⟨y1,y2,y3,y4,rfl⟩
   obtain ⟨y1,y2,y3,y4,rfl⟩:=xl h4 xs bu4 hxs
   refine ⟨?_,?_,trivial⟩
   ·refine aW ?_
    intro h5 b5 e5 z5
    have b45:=b4.ah e5 (by simp)
    refine ⟨⟨b45.cells _ rfl,trivial⟩,?_⟩
    refine ak (bu4.ah e5 (by simp)) rfl (by simp) ?_
    intro h6 b6 k6 z6
    have b6:aO h6 u 27 zU:=b6
    refine ⟨⟨(b45.ah k6 (by simp; omega)).cells _ rfl,trivial⟩,?_⟩
    refine ak ((be4.ah e5 (by simp)).ah k6 (by simp; omega)) rfl (by simp) ?_
    intro h7 b7 k7 z7
    have b7:aO h7 e 29 [.iface 59 (ptr h4.size)]:=b7
    have b67:aO h7 u 27 zU:=b6.ah k7 (by simp; omega)
    have b57:=(b5.ah k6 (by simp; omega)).ah k7 (by simp; omega)
    refine ad b67 ((none,0,0),(none,0,0),(none,0,0),(none,0,0),()) rfl ?_
    dsimp only [flat,aB,ai,nA,cA]
    refine ad b7 (Value.iface 59 (ptr h4.size),()) rfl ?_
    refine ⟨(((e04.trans e5).mono (by simp)).trans k6 (fun j hj _=>by have hj:=List.mem_singleton.1 hj; simp [hj])).trans k7 (fun j hj _=>by have hj:=List.mem_singleton.1 hj; simp [hj]),fW,fW,fW,fW,_,rfl,?_,?_,b67,b7⟩
    ·rw [hend]; exact kw.zero _ _
    ·rw [hend]; exact ⟨_,rfl,b57⟩
   ·refine ak bu4 rfl (by simp) ?_
    intro h6 b6 k6 z6
    have b6:aO h6 u 27 zU:=b6
    have b46:=b4.ah k6 (by simp; omega)
    refine ⟨⟨b46.cells _ rfl,trivial⟩,?_⟩
    refine aW ?_
    intro h5 b5 e5 z5
    refine ⟨⟨(b46.ah e5 (by simp)).cells _ rfl,trivial⟩,?_⟩
    refine ak ((be4.ah k6 (by simp; omega)).ah e5 (by simp)) rfl (by simp) ?_
    intro h7 b7 k7 z7
    have b7:aO h7 e 29 [.iface 59 (ptr h6.size)]:=b7
    have b67:aO h7 u 27 zU:=(b6.ah e5 (by simp)).ah k7 (by simp; omega)
    have b57:=b5.ah k7 (by simp; omega)
    refine ad b67 ((none,0,0),(none,0,0),(none,0,0),(none,0,0),()) rfl ?_
    dsimp only [flat,aB,ai,nA,cA]
    refine ad b7 (Value.iface 59 (ptr h6.size),()) rfl ?_
    refine ⟨(((e04.mono (by simp)).trans k6 (fun j hj _=>by have hj:=List.mem_singleton.1 hj; simp [hj])).trans e5 (by simp)).trans k7 (fun j hj _=>by have hj:=List.mem_singleton.1 hj; simp [hj]),fW,fW,fW,fW,_,rfl,?_,?_,b67,b7⟩
    ·rw [hend]; exact kw.zero _ _
    ·rw [hend]; exact ⟨_,rfl,b57⟩
  ·have r2:eQ w.names gi.1=true:=by simpa using r2
   refine ad b4 (gi.1,()) rfl ?_
   dsimp only [flat,aB,ai,nA,cA]
   refine GW (m2.ah e24 (by simp)) (by have:=sJ hleg; unfold maxLen; omega) ?_
   intro h5 m5 k5 z5
   refine aM (cs:=[(false,[.int .i64])]) (((i+1:Nat):Int),()) (w.aF.length-(i+1)) rfl (by omega) (by rw [wrap_i64 (by omega) (by omega)]; rfl) ?_
   refine ⟨i+1,rfl,rfl,by omega,Ch.trans (e2.trans e24) k5 (fun j hj hl=>by have hj:=List.mem_singleton.1 hj; omega),?_,?_⟩
   ·rw [htk,List.map_append,List.reverse_append]
    exact m5
   ·intro x hx
    rw [htk] at hx
    rcases List.mem_append.1 hx with hx | hx
    ·exact hin x hx
    ·rw [List.mem_singleton.1 hx]; exact r2
 ·have r:=of_decide_eq_false r
  have hie:i=w.aF.length:=by omega
  subst hie
  rw [List.take_length] at m2 hin
  have hend:qX w=.ok ⟨w.text,w.data,w.aV,cd (w.aF.map (·.1))⟩:=by
   unfold qX zX
   rw [List.find?_eq_none.2 (fun x hx=>by rw [hin x hx]; simp)]
  obtain ⟨nn,D,mD,hD,hDl⟩:=m2
  have hnd:=eP.nodup mD
  have hkeys:∀ s,s∈(vE eB D).map (·.1)↔s∈w.aF.map (·.1):=by
   intro s
   have h1:gE D s=(if eQ ((w.aF.map (·.1)).reverse) s=true then some true else none):=hD s
   have hv1:(vE eB D).map (·.1)=D.map (·.1):=by unfold vE; rw [List.map_map]; rfl
   rw [hv1]
   by_cases hs:s∈w.aF.map (·.1)
   ·refine ⟨fun _=>hs,fun _=>?_⟩
    rw [if_pos (fm.2 (List.mem_reverse.2 hs))] at h1
    unfold gE at h1
    obtain ⟨x,hx,_⟩:=Option.map_eq_some_iff.1 h1
    have h3:=List.find?_some hx
    have h4:=List.mem_of_find?_eq_some hx
    rw [of_decide_eq_true h3]
    exact List.mem_map_of_mem h4
   ·refine ⟨fun hm=>?_,fun hm=>absurd hm hs⟩
    have hnin:eQ ((w.aF.map (·.1)).reverse) s=false:=by
     cases hh:eQ ((w.aF.map (·.1)).reverse) s with
     | false=>rfl
     | true=>exact absurd (List.mem_reverse.1 (fm.1 hh)) hs
    rw [hnin] at h1
    unfold gE at h1
    simp only [Bool.false_eq_true,if_false,Option.map_eq_none_iff,List.find?_eq_none] at h1
    obtain ⟨x,hx,hxs⟩:=List.mem_map.1 hm
    exact absurd (decide_eq_true hxs.symm) (h1 x hx)
  have hks:=zH hnd hkeys
  have hDn:(vE eB D).length≤2^40:=by
   have h1:((vE eB D).map (·.1)).Perm (cd (w.aF.map (·.1))):=(List.perm_ext_iff_of_nodup hnd ((qc _).imp fun h=>wK h)).2 fun s=>by rw [hkeys,nQ]
   have h2:=h1.length_eq
   rw [List.length_map] at h2
   have h3:=Ey (w.aF.map (·.1))
   rw [List.length_map] at h3
   omega
  refine ad bv2 (some ⟨A,0,none⟩,()) rfl ?_
  dsimp only [flat,aB,ai,nA,cA]
  refine aC (G' (some h.size) h2) ?_
  rintro _ h3 ⟨rfl,rfl⟩
  refine ⟨(Value.func (.func 68) #[] #[.pointer (some ⟨h2.size,0,none⟩)],()),rfl,?_⟩
  dsimp only [flat,aB,ai,nA,cA]
  have e23:Ext h2 (h2.push (.cells #[.map (some h.size)] 70)):=Ext.push _ _
  refine ⟨⟨(bv2.ah e23 (by simp)).cells _ rfl,trivial⟩,?_⟩
  refine aC (B8 mD hDn) ?_
  rintro _ h4 ⟨ps,ls,cs,rfl,sS,e34⟩
  refine ⟨((ps,ls,cs),()),rfl,?_⟩
  dsimp only [flat,aB,ai,nA,cA]
  rw [hks,FA] at sS
  have e24:=e23.trans e34
  have bv4:=bv2.ah e24 (by simp)
  have a4:=a2.ah e24 (by simp)
  refine ⟨⟨bv4.cells _ rfl,trivial⟩,?_⟩
  refine an rfl ?_
  rw [ao]
  refine ak a4.box rfl (by simp [kM]) ?_
  intro h5 b5 k5 z5
  have b5:aO h5 A 73 [t.v,d.v,e'.v,.slice ps ls cs,.int .i64 (w.sec:Int),.int .i64 ((w.text.length+w.data.length:Nat):Int),.map (some g),q.v]:=b5
  have bv5:=bv4.ah k5 (by simp; exact nvA)
  refine ad bv5 (some ⟨A,0,none⟩,()) rfl ?_
  dsimp only [flat,aB,ai,nA,cA]
  refine an rfl ?_
  refine ad b5 ((t.p,t.l,t.c),(d.p,d.l,d.c),(e'.p,e'.l,e'.c),(ps,ls,cs),()) rfl ?_
  dsimp only [flat,aB,ai,nA,cA]
  have bu5:=(bu2.ah e24 (by simp)).ah k5 (by simp; omega)
  have be5:=(be2.ah e24 (by simp)).ah k5 (by simp; omega)
  obtain ⟨y1,y2,y3,y4,rfl⟩:∃ y1 y2 y3 y4,xs=[y1,y2,y3,y4]:=by
   match xs,hxs with
   | [y1,y2,y3,y4],_=>exact ⟨y1,y2,y3,y4,rfl⟩
  refine ak bu5 rfl (by simp) ?_
  intro h6 b6 k6 z6
  have b6:aO h6 u 27 [t.v,d.v,e'.v,.slice ps ls cs]:=b6
  refine ak (be5.ah k6 (by simp; omega)) rfl (by simp) ?_
  intro h7 b7 k7 z7
  have b7:aO h7 e 29 [.nilIface]:=b7
  have b67:=b6.ah k7 (by simp; omega)
  refine ad b67 ((t.p,t.l,t.c),(d.p,d.l,d.c),(e'.p,e'.l,e'.c),(ps,ls,cs),()) rfl ?_
  dsimp only [flat,aB,ai,nA,cA]
  refine ad b7 (Value.nilIface,()) rfl ?_
  refine ⟨((((e2.trans e24).mono (by simp)).trans k5 (fun j hj _=>by have hj:=List.mem_singleton.1 hj; simp [hj])).trans k6 (fun j hj _=>by have hj:=List.mem_singleton.1 hj; simp [hj])).trans k7 (fun j hj _=>by have hj:=List.mem_singleton.1 hj; simp [hj]),t,d,e',⟨ps,ls,cs⟩,_,rfl,?_,?_,b67,b7⟩
  ·rw [hend]
   have C5:=a4.core.ah k5 (fun j hj _ _=>by have hj:=List.mem_singleton.1 hj; subst hj; have:=a4.oA; omega)
   have C7:=(C5.ah k6 (fun j hj _ hbj=>by have hj:=List.mem_singleton.1 hj; omega)).ah k7 (fun j hj _ hbj=>by have hj:=List.mem_singleton.1 hj; omega)
   have hsz2:h2.size<(h2.push (.cells #[.map (some h.size)] 70)).size:=by simp
   refine ⟨ut,ud,ue,ow,C7,Sx.SL.mono (Sx.SL.aT (Sx.SL.aT (Sx.SL.aT sS k5 (fun j hj hm=>?_)) k6 (fun j hj hm=>?_)) k7 (fun j hj hm=>?_)) (by omega)⟩
   ·have:=(Sx.SL.bO sS hj).1; have hm:=List.mem_singleton.1 hm; have:=a.box.lt; omega
   ·have:=(Sx.SL.bO sS hj).1; have hm:=List.mem_singleton.1 hm; omega
   ·have:=(Sx.SL.bO sS hj).1; have hm:=List.mem_singleton.1 hm; omega
  ·rw [hend]; rfl
open Go.Proofs
def runN:dW→List (Nat × ByteArray)→Except (Nat × Nat) dW
 | w,[]=>.ok w
 | w,x::l=>match dJ w x.1 x.2 with
  | .error e=>.error (x.1,e)
  | .ok w'=>runN w' l
theorem qT:∀ (a b:List (Nat × ByteArray)) (w:dW),runN w (a++b)=match runN w a with
  | .error e=>.error e
  | .ok w'=>runN w' b
 | [],b,w=>rfl
 | x::a,b,w=>by
  simp only [List.cons_append,runN]
  cases dJ w x.1 x.2 with
  | error e=>rfl
  | ok w1=>exact qT a b w1
theorem zG:∀ (f n:Nat) (s:ByteArray) (w:dW),runN w (Go.Proofs.aP f n s)=ef w n ((Go.Proofs.aP f n s).map (·.2))
 | 0,n,s,w=>rfl
 | f+1,n,s,w=>by
  unfold Go.Proofs.aP
  split
  ·rfl
  ·simp only [List.map_cons,runN,ef]
   cases dJ w n (yU s) with
   | error e=>rfl
   | ok w1=>exact zG f (n+1) (nH s) w1
theorem Bw (src:ByteArray):runN eo (Go.Proofs.aP (src.size+1) 1 src)=ef eo 1 (cO src):=by
 rw [zG,← uG]
 rfl
theorem E7 {a l:List (Nat × ByteArray)} {w:dW} {q:Nat × Nat} (h:a <+: l) (he:runN w a=.error q):runN w l=.error q:=by
 obtain ⟨t,rfl⟩:=h
 rw [qT,he]
theorem Jc {src:ByteArray} {x:Nat × ByteArray} (h:x∈Go.Proofs.aP (src.size+1) 1 src):x.1≤src.size+1∧x.2.size≤src.size:=by
 obtain ⟨k,hk,rfl⟩:=List.getElem_of_mem h
 have h1:=wR _ _ _ _ _ (List.getElem?_eq_getElem hk)
 have h2:=Go.Proofs.ft (src.size+1) 1 src
 refine ⟨by omega,?_⟩
 have h3:(Go.Proofs.aP (src.size+1) 1 src)[k].2∈Ic src:=by
  unfold Ic
  exact List.mem_map_of_mem h
 rw [uG] at h3
 exact gR src _ h3
def qh (h:Hp) (i:Nat):Prop:=∃ c e f,h[i]?=some (.cells c e f)
theorem SL.qh {h:Hp} {b:Nat} {e:TypeId} {sz:Nat} {p:Option Addr} {l c:Nat} {xs:List (List Value)} (s:SL h b e sz p l c xs) {i:Nat} (hi:i∈az p):qh h i:=by
 cases p with
 | none=>simp [az] at hi
 | some a =>
  obtain ⟨g,pre,rest,rfl,hbg,hlc,hbox,hr⟩:=s.2.2
  simp [az] at hi
  subst hi
  exact ⟨_,_,_,hbox⟩
section
variable {h h':Hp} {b A g:Nat} {w:dW} {t d e q:bL} {ut ud:List (bL × bC)} {ue:List (bL × lz)} {ow:Nat→Nat}
open Classical in
theorem de.nine (a:de h b A g w t d e q ut ud ue ow):∃ ow',de h b A g w t d e q ut ud ue ow'∧(∀ i,ow i=9→ow' i=9)∧∀ i o,h[i]?=some o→o.isCells=false→i≠g→ow' i=9:=by
 obtain ⟨ow',how⟩:∃ ow':Nat→Nat,ow'=fun i=>if (∃ o,h[i]?=some o∧o.isCells=false)∧i≠g then 9 else ow i:=⟨_,rfl⟩
 have hc:∀ i,qh h i→ow' i=ow i:=by
  rintro i ⟨c,e,f,hi⟩
  rw [how]
  refine if_neg ?_
  rintro ⟨⟨o,ho,hn⟩,_⟩
  rw [hi] at ho
  cases ho
  cases hn
 have C:=a.core
 refine ⟨ow',⟨⟨C.t1,C.t2,C.t3,C.d1,C.d2,C.d3,C.e1,C.e2,C.e3,fun i hi=>(hc i (SL.qh C.t1 hi)).trans (C.o3 i hi),fun i hi=>(hc i (SL.qh C.d1 hi)).trans (C.o4 i hi),fun i hi=>(hc i (SL.qh C.e1 hi)).trans (C.o5 i hi),
  fun u hu i hi=>(hc i (SL.qh (C.t2 u hu) hi)).trans (C.ot u hu i hi),fun u hu i hi=>(hc i (SL.qh (C.d2 u hu) hi)).trans (C.od u hu i hi),fun u hu i hi=>(hc i (SL.qh (C.e2 u hu) hi)).trans (C.oe u hu i hi)⟩,
  a.box,a.names,a.aF,(hc A ⟨_,_,_,a.box⟩).trans a.oA,?_,fun i hi=>(hc i (SL.qh a.aF hi)).trans (a.oq i hi),a.bA,a.bg⟩,?_,?_⟩
 ·rw [how]
  exact (if_neg (fun x=>x.2 rfl)).trans a.og
 ·intro i hi
  rw [how]
  simp only
  split
  ·rfl
  ·exact hi
 ·intro i o ho hn hg
  rw [how]
  exact if_pos ⟨⟨o,ho,hn⟩,hg⟩
theorem de.grown {W W':World} {row:Option Nat} {v:Nat} (a:de W.heap b A g w t d e q ut ud ue ow) (hv:ow v=9) (hg:W.grownBy W' row) (hr:∀ r,row=some r→g<r∧∃ o:Obj,W.heap[r]?=some o∧o.isCells=false) :
  ∃ ow',de W'.heap b A g w t d e q ut ud ue ow'∧ow' v=9:=by
 obtain ⟨ow',a',h9,hn⟩:=a.nine
 have k:Ch row.toList W.heap W'.heap:=⟨hg.size,fun i hi hw=>hg.block i hi (fun e=>hw (by rw [← e]; simp))⟩
 refine ⟨ow',a'.ah k (fun i hi hl _=>?_),h9 v hv⟩
 have hrow:row=some i:=by simpa using hi
 obtain ⟨h1,o,h2,h3⟩:=hr i hrow
 rw [hn i o h2 h3 (by omega)]
 omega
end
end Go.Sx.Ob
set_option linter.unusedVariables false
set_option linter.unusedSimpArgs false
set_option maxRecDepth 100000
namespace Go.Sx
theorem Ci {P:Program} {fn:Func} {cuts:List Nat} {c:Code} {env:Env} {a:Act} {h:Hp} {K:Value→Hp→Prop} {dl:List Deferred} {t:T} (hm:P.follows .mixedOrders=true) (he:G6 P cuts fn c env=t) (ht:t [] K h) (g:ic ⟨fn.ntmps,dl⟩ env a) :
  cW P c (fun x a h=>(x=.normal∨x=.ret)∧a.defers=dl∧(∀ s v,s∉cL c→bJ env s=some v→a.tmps.getD s undef=v)∧∃ v,K v h) a h:=by
 subst he
 unfold G6 at ht
 refine As (n:=⟨fn.ntmps,dl⟩) (ME hm) 100000 c env _ [] K _ a h ?_ ht g
 intro x e a h L' hp hx g' fr
 cases x <;> simp only at hx <;> first | exact hx.elim | skip
 ·obtain ⟨vs,hk,hres⟩:=nT g' hx
  exact ⟨.inl rfl,g'.defers,fun s v hs hv=>g'.get s v ((fr s hs).trans hv),_,hk⟩
 ·obtain ⟨vs,hk,hres⟩:=nT g' hx
  exact ⟨.inr rfl,g'.defers,fun s v hs hv=>g'.get s v ((fr s hs).trans hv),_,hk⟩
end Go.Sx
namespace Go.Proofs
open Go.Sx Go.Sx.Ob
theorem Hd:2∉cL (rX 7 Tryz.f10)∧3∉cL (rX 7 Tryz.f10):=by
 have h:(cL (rX 7 Tryz.f10)).contains 2=false:=by kernel_rfl
 have h':(cL (rX 7 Tryz.f10)).contains 3=false:=by kernel_rfl
 exact ⟨fun x=>Bool.noConfusion ((List.contains_iff_mem.2 x).symm.trans h),fun x=>Bool.noConfusion ((List.contains_iff_mem.2 x).symm.trans h')⟩
theorem JZ {h:Hp} {u e v:Nat} {K:Value→Hp→Prop} (ht:dj u e v [] K h) {a:Act} {dl:List Deferred} {w:World} (hw:w.heap=h) (hs:a.tmps.size=Tryz.f10.ntmps) (hd:a.defers=dl) (g2:a.tmps.getD 2 undef=.pointer (some ⟨u,0,none⟩)) (g3:a.tmps.getD 3 undef=.pointer (some ⟨e,0,none⟩)) (g5:a.tmps.getD 5 undef=.pointer (some ⟨v,0,none⟩))
  {Q:Exit→Act→World→Prop} (hQ:∀ x a' w',(x=.normal∨x=.ret)→a'.defers=dl→a'.tmps.getD 2 undef=.pointer (some ⟨u,0,none⟩)→a'.tmps.getD 3 undef=.pointer (some ⟨e,0,none⟩)→bR w w'→(∃ v,K v w'.heap)→Q x a' w') :
  (rX 7 Tryz.f10).wp Tryz.prog Q a w:=by
 have hr:∀ (s:Nat) (x:Value),bJ [(2,some (.pointer (some (⟨u,0,none⟩:Addr)))),(3,some (.pointer (some (⟨e,0,none⟩:Addr)))),(5,some (.pointer (some (⟨v,0,none⟩:Addr))))] s=some x→a.tmps.getD s undef=x:=by
  intro s x hx
  by_cases h2:s=2
  ·subst h2
   exact g2.trans (Option.some.inj hx)
  by_cases h3:s=3
  ·subst h3
   exact g3.trans (Option.some.inj hx)
  by_cases h5:s=5
  ·subst h5
   exact g5.trans (Option.some.inj hx)
  ·exfalso
   have b2:Nat.beq 2 s=false:=by rw [Bool.eq_false_iff]; intro hh; exact h2 (Nat.eq_of_beq_eq_true hh).symm
   have b3:Nat.beq 3 s=false:=by rw [Bool.eq_false_iff]; intro hh; exact h3 (Nat.eq_of_beq_eq_true hh).symm
   have b5:Nat.beq 5 s=false:=by rw [Bool.eq_false_iff]; intro hh; exact h5 (Nat.eq_of_beq_eq_true hh).symm
   have b2':Nat.beq s 2=false:=by rw [Bool.eq_false_iff]; intro hh; exact h2 (Nat.eq_of_beq_eq_true hh)
   have b3':Nat.beq s 3=false:=by rw [Bool.eq_false_iff]; intro hh; exact h3 (Nat.eq_of_beq_eq_true hh)
   have b5':Nat.beq s 5=false:=by rw [Bool.eq_false_iff]; intro hh; exact h5 (Nat.eq_of_beq_eq_true hh)
   simp [bJ,b2,b3,b5,b2',b3',b5'] at hx
 have hc:=Ci (P:=Tryz.prog) (dl:=dl) mixed (kS u e v) ht ⟨hs,hd,hr⟩
 refine Code.wp_mono (fun x a' w' ⟨so,hx,hd',hk,hv⟩=>hQ x a' w' hx hd' (hk 2 _ Hd.1 rfl) (hk 3 _ Hd.2 rfl) so hv) (hc w w (bR.refl _) hw)
end Go.Proofs
set_option linter.unusedVariables false
set_option linter.unusedSimpArgs false
set_option maxRecDepth 100000
namespace Go.Proofs
open Go.RowKit Go.Shelf Go.Sx.Ob
attribute [local go_sem] Oper.semAt_some
theorem fp.LZ {n x:Nat} {w w':World} (h:fp n x w w') (hn:n≤w.heap.size) (v:Value):fp n x w (w'.setCell ⟨x,0,none⟩ v) :=
 ⟨by simpa using h.1,fun k hk hx=>((grownBy_setCell' w' x v).block k (by have:=h.1; omega) (fun e=>hx (by cases e; rfl))).trans (h.2 k hk hx)⟩
theorem fp.alloc {n x:Nat} {w w':World} (h:fp n x w w') (hn:n≤w.heap.size) (o:Obj):fp n x w (w'.alloc o) :=
 ⟨by have:=h.1; simp; omega,fun k hk hx=>(Below.heap_alloc w' o k (by have:=h.1; omega)).trans (h.2 k hk hx)⟩
theorem fp.box {n x:Nat} {w w':World} (h:fp n x w w') {g:Nat} {e:TypeId} {xs:List Value} (b:Sx.aO w.heap g e xs) (hg:g<n) (hx:g≠x):Sx.aO w'.heap g e xs:=(h.2 g hg hx).trans b
theorem gP {w:World} {g off:Nat} {e:TypeId} {xs:List Value} (b:Sx.aO w.heap g e xs) (v:Value):Sx.aO (w.setCell ⟨g,off,none⟩ v).heap g e (xs.set off v):=(Sx.wj b v).1
theorem bI {w:World} {g g' off:Nat} {e:TypeId} {xs:List Value} (b:Sx.aO w.heap g e xs) (hne:g≠g') (v:Value):Sx.aO (w.setCell ⟨g',off,none⟩ v).heap g e xs :=
 (Below.heap_setCell w ⟨g',off,none⟩ v g hne).trans b
theorem xy (w:World):(Instr.makeMap 70 none).run Tryz.prog w=.ok (.map (some w.heap.size)) (w.alloc (.map #[] 0)):=rfl
attribute [local go_sem] xy
theorem Ja {src:ByteArray} {w:dW} (h1:¬ 65536<src.size) (h2:¬ 4096<(cO src).length) (hr:ef eo 1 (cO src)=.ok w):df src=qX w:=by
 unfold df qX
 rw [if_neg h1,if_neg h2,hr]
 rfl
theorem HL {src:ByteArray} {q:Nat × Nat} (h1:¬ 65536<src.size) (h2:¬ 4096<(cO src).length) (hr:ef eo 1 (cO src)=.error q):df src=.error q:=by
 unfold df
 rw [if_neg h1,if_neg h2,hr]
open Classical in
theorem BM {h h':Sx.Hp} {b:Nat} {a b' c d:bL} {u:ig} (U:kw h b a b' c d u) (hs:h.size≤h'.size) (hc:∀ i,qh h i→h'[i]?=h[i]?):kw h' b a b' c d u:=by
 have k:Sx.Ch ((List.range h.size).filter (fun i=>decide (¬ qh h i))) h h':=⟨hs,fun i hi hn=>hc i (Classical.byContradiction fun hh=>hn (List.mem_filter.2 ⟨List.mem_range.2 hi,decide_eq_true hh⟩))⟩
 obtain ⟨ut,ud,ue,ow,C,S⟩:=U
 have f:∀ {e:TypeId} {sz:Nat} {p:Option Addr} {l c:Nat} {xs:List (List Value)},Sx.SL h b e sz p l c xs→Sx.SL h' b e sz p l c xs:=fun s=>Sx.SL.aT s k (fun i hi hm=>of_decide_eq_true (List.mem_filter.1 hm).2 (SL.qh s hi))
 exact ⟨ut,ud,ue,ow,⟨f C.t1,fun u hu=>f (C.t2 u hu),C.t3,f C.d1,fun u hu=>f (C.d2 u hu),C.d3,f C.e1,fun u hu=>f (C.e2 u hu),C.e3,C.o3,C.o4,C.o5,C.ot,C.od,C.oe⟩,f S⟩
theorem AJ {h h':Sx.Hp} {v:Value} {e:Option (Nat × Nat)} (E:lX h v e) (hc:∀ i,qh h i→h'[i]?=h[i]?):lX h' v e:=by
 cases e with
 | none=>exact E
 | some e =>
  obtain ⟨a,h1,h2⟩:=E
  exact ⟨a,h1,(hc a ⟨_,_,_,h2⟩).trans h2⟩
def J8 (src:ByteArray) (W:World) (e:Ending) (w':World):Prop :=
 ∃ (a b' c d:bL) (ev:Value),e=.returned (.tuple #[oD a b' c d,ev])∧kw w'.heap W.heap.size a b' c d (sj (df src)).1∧lX w'.heap ev (qZ (df src))∧Below W.heap.size W w'
theorem vQ {src:ByteArray} {W w':World} {q:Nat × Nat} {ax:Nat} (h:df src=.error q) (b:Sx.aO w'.heap ax 63 [.int .i64 (q.1:Int),.int .i64 (q.2:Int)]) (hb:Below W.heap.size W w') :
  J8 src W (.returned (.tuple #[.agg #[.slice none 0 0,.slice none 0 0,.slice none 0 0,.slice none 0 0],.iface 59 (.pointer (some ⟨ax,0,none⟩))])) w' :=
 ⟨fW,fW,fW,fW,_,rfl,by rw [h]; exact kw.zero _ _,by rw [h]; exact ⟨ax,rfl,b⟩,hb⟩
set_option maxHeartbeats 4000000 in
theorem Kc (W:World) (src:ByteArray) (hl:Sx.Laid W.heap) (tb:nq W.heap) (m:Int) (hm:W.cell? ⟨2,0,none⟩=some (.int .i64 m)) :
  CallsIn Fence.wide 7 Tryz.prog 10 #[.string src] W (J8 src W):=by
 have hW3:2<W.heap.size:=I4 hm
 refine callsIn_of_wp_marks Tryz.func10 rfl trivial ?_ rfl
 simp only [Tryz.ntmps10,List.size_toArray,List.length_cons,List.length_nil,Nat.reduceAdd,Nat.reduceSub,Array.replicate_succ,Array.replicate_zero,List.push_toArray,List.append_toArray,List.nil_append,List.cons_append]
 gi_wp2
 ·rename_i hbig
  refine zR (b0:=W.heap.size) (p:=W.heap.size) (q:=W.heap.size+1) (ev:=.iface 59 (.pointer (some ⟨W.heap.size+1+1,0,none⟩))) ⟨[],rfl,by simp,by simp⟩ rfl rfl (((Sx.aO.new W.heap 27 [.slice none 0 0,.slice none 0 0,.slice none 0 0,.slice none 0 0]).ah (Sx.Ext.push _ _) (by simp)).ah (Sx.Ext.push _ _) (by simp)) ?_ ?_
  ·have h1:=Sx.aO.new (W.heap.push (.cells #[.slice none 0 0,.slice none 0 0,.slice none 0 0,.slice none 0 0] 27)) 29 [.iface 59 (.pointer (some ⟨W.heap.size+1+1,0,none⟩))]
   simp only [Array.size_push] at h1
   exact h1.ah (Sx.Ext.push _ _) (by simp)
  ·intro w' hb hk
   have h2:=Sx.aO.new ((W.heap.push (.cells #[.slice none 0 0,.slice none 0 0,.slice none 0 0,.slice none 0 0] 27)).push (.cells #[.iface 59 (.pointer (some ⟨W.heap.size+1+1,0,none⟩))] 29)) 63 [.int .i64 (0:Int),.int .i64 (3:Int)]
   simp only [Array.size_push] at h2
   refine vQ (q:=(0,3)) (by unfold df; rw [if_pos (by omega)]) ((hk _ (by unfold Sx.aO at h2; erw [h2]; simp)).trans h2) ?_
   exact (((Below.refl _ W).alloc (Nat.le_refl _) _).alloc (by simp) _ |>.alloc (by simp; omega) _).trans hb
 have hsz:src.size≤65536:=by omega
 refine vh (Sx.CD src _) (fun v h' h=>h.2.2.1) ?_
 rintro _ w2 B2 ⟨rfl,b2,-,z2⟩
 have hu0:Sx.aO w2.heap W.heap.size 27 [.slice none 0 0,.slice none 0 0,.slice none 0 0,.slice none 0 0] :=
  (B2.block _ (by simp; omega)).trans (((Sx.aO.new W.heap 27 [.slice none 0 0,.slice none 0 0,.slice none 0 0,.slice none 0 0]).ah (Sx.Ext.push _ _) (by simp)).ah (Sx.Ext.push _ _) (by simp))
 have he0:Sx.aO w2.heap (W.heap.size+1) 29 [.nilIface]:=by
  have h1:=Sx.aO.new (W.heap.push (.cells #[.slice none 0 0,.slice none 0 0,.slice none 0 0,.slice none 0 0] 27)) 29 [.nilIface]
  simp only [Array.size_push] at h1
  exact (B2.block _ (by simp)).trans (h1.ah (Sx.Ext.push _ _) (by simp))
 have hl0:Boxed w2 (W.heap.size+1+1) 3 (.int .i64 (0:Int)):=by
  have h1:=Boxed.new ((W.alloc (.cells #[.slice none 0 0,.slice none 0 0,.slice none 0 0,.slice none 0 0] 27)).alloc (.cells #[.nilIface] 29)) 3 (.int .i64 (0:Int))
  have h2:=DZ h1 B2 (by simp)
  simpa using h2
 have hb2:Boxed w2 (W.heap.size+1+1+1) 9 (.string src):=by
  have:Sx.aO w2.heap (W.heap.size+1+1+1) 9 [.string src]:=by simpa using b2
  exact this
 have BW:Below W.heap.size W w2:=((((Below.refl _ W).alloc (Nat.le_refl _) _).alloc (by simp) _).alloc (by simp; omega) _).trans (B2.mono (by simp; omega))
 have z2:w2.heap.size=W.heap.size+4:=by rw [z2]; simp
 clear B2 b2
 gi_wp2
 refine wpIn_rangeFunc_ownG (F:=Fence.wide) rfl (by omega) (gf:=62) (lb:=#[.pointer (some ⟨W.heap.size+1+1+1,0,none⟩)]) rfl trivial (enters_of Tryz.func62 (by kernel_rfl) rfl)
   (Bs (W.heap.size+1+1+1) 3 src (by omega) Sx.yY m _ ((BW.cell (p:=⟨2,0,none⟩) hW3).trans hm) (by omega) (by omega) hb2.cell) belowK_t (belowK_b (by omega)) (Below.refl _ _) (fun _=>rfl)
   (fun pre W'=>Boxed W' (W.heap.size+1+1) 3 (.int .i64 (pre.length:Int))∧fp w2.heap.size (W.heap.size+1+1) w2 W'∧Sx.bR w2 W')
   (fun c pre W'=>False)
   (fun s A B row hs hg hr=>⟨boxed_own (β:=List (Nat × ByteArray)) _ 3 (fun pre=>.int .i64 (pre.length:Int)) s A B row hs.1 hg (fun r e=>(hr r e).2),Bv (β:=Unit) (by simp) (Nat.le_refl _) () A B row hs.2.1 hg hr,⟨hg.os.trans hs.2.2.os,hg.tape.trans hs.2.2.tape,hg.output.trans hs.2.2.output⟩⟩)
   (fun c s A B row hs hg hr=>hs)
   ⟨hl0,⟨Nat.le_refl _,fun _ _ _=>rfl⟩,Sx.bR.refl _⟩
   (fun x=>{ tmps:=#[.string src,undef,.pointer (some ⟨W.heap.size,0,none⟩),.pointer (some ⟨W.heap.size+1,0,none⟩),.pointer (some ⟨W.heap.size+1+1,0,none⟩),undef,undef,undef,undef,undef,undef,undef,.string src,.int .i64 (src.size:Int),.bool (decide (65536<(src.size:Int))),undef,undef,undef,undef,.string src,.func (.func 62) #[] #[.pointer (some ⟨W.heap.size+1+1+1,0,none⟩)],.int .i64 (x.1:Int),.string x.2,undef,undef,undef,undef,undef,undef,undef,undef,undef,undef,undef,undef,undef,undef,undef,undef,undef,undef,undef,undef,undef,undef,undef,undef,undef,undef,undef,undef,undef,undef,undef,undef,undef,undef,undef,undef,undef,undef,undef,undef,undef,undef,undef,undef,undef,undef,undef,undef,undef,undef,undef,undef,undef,undef,undef,undef,undef,undef,undef,undef,undef,undef,undef,undef,undef,undef],defers:=[] }) ?assign ?body ?done ?stop
 case assign =>
  intro l x W' K hK
  unfold DM
  gi_wp2
  exact hK
 case stop =>
  intro D c pre W' hD hS hx
  exact hx.elim
 case body =>
  rintro l pre x W' ⟨bn,hsv,hso⟩ hlen
  have e1:=bn.cell
  have f1:=bn.frozen
  have hll:=ft (src.size+1) 1 src
  have hwr:wrap64 ((pre.length:Int)+1)=((pre.length+1:Nat):Int):=by
   rw [Go.IntWalk.wrap64_in _ ⟨by omega,by omega⟩]
   omega
  gi_wp2
  refine ⟨(KeepsOthers.setCell _ _ _).from _,(Below.refl _ W').setCell (p:=⟨W.heap.size+1+1,0,none⟩) (by show 3≤_+1+1; omega) _,?_,hsv.LZ (Nat.le_refl _) _,⟨hso.os,hso.tape,hso.output⟩⟩
  rw [show (((pre++[x]).length:Nat):Int)=(pre.length:Int)+1 by simp]
  exact bn.set _
 case done =>
  rintro D1 ys w3 hD1 rfl ⟨bn,hsv,hso⟩ hK1
  have e1:=bn.cell
  have hll:=ft (src.size+1) 1 src
  have hu3:=hsv.box hu0 (by omega) (by omega)
  have he3:=hsv.box he0 (by omega) (by omega)
  have hu4:=hu3.ah (Sx.Ext.push w3.heap (.cells #[.int .i64 4097,.int .i64 4] 63)) (by simp)
  have he4:=he3.ah (Sx.Ext.push w3.heap (.cells #[.int .i64 4097,.int .i64 4] 63)) (by simp)
  have c0:(w3.alloc (.cells #[.int .i64 4097,.int .i64 4] 63)).cell? ⟨W.heap.size,0,none⟩=some (.slice none 0 0):=hu4.cell.trans rfl
  have c1:(w3.alloc (.cells #[.int .i64 4097,.int .i64 4] 63)).cell? ⟨W.heap.size,1,none⟩=some (.slice none 0 0):=hu4.cell.trans rfl
  have c2:(w3.alloc (.cells #[.int .i64 4097,.int .i64 4] 63)).cell? ⟨W.heap.size,2,none⟩=some (.slice none 0 0):=hu4.cell.trans rfl
  have c3:(w3.alloc (.cells #[.int .i64 4097,.int .i64 4] 63)).cell? ⟨W.heap.size,3,none⟩=some (.slice none 0 0):=hu4.cell.trans rfl
  have c4:(w3.alloc (.cells #[.int .i64 4097,.int .i64 4] 63)).cell? ⟨W.heap.size+1,0,none⟩=some .nilIface:=he4.cell.trans rfl
  have f0:(w3.alloc (.cells #[.int .i64 4097,.int .i64 4] 63)).frozen? ⟨W.heap.size,0,none⟩=false:=hu4.frozen
  have f1:(w3.alloc (.cells #[.int .i64 4097,.int .i64 4] 63)).frozen? ⟨W.heap.size,1,none⟩=false:=hu4.frozen
  have f2:(w3.alloc (.cells #[.int .i64 4097,.int .i64 4] 63)).frozen? ⟨W.heap.size,2,none⟩=false:=hu4.frozen
  have f3:(w3.alloc (.cells #[.int .i64 4097,.int .i64 4] 63)).frozen? ⟨W.heap.size,3,none⟩=false:=hu4.frozen
  have f4:(w3.alloc (.cells #[.int .i64 4097,.int .i64 4] 63)).frozen? ⟨W.heap.size+1,0,none⟩=false:=he4.frozen
  have BW3:Below W.heap.size W w3:=⟨hso.os.trans BW.os,hso.tape.trans BW.tape,hso.output.trans BW.output,by have:=hsv.1; omega,fun k hk=>(hsv.2 k (by omega) (by omega)).trans (BW.block k hk)⟩
  have hD1l:D1<w3.heap.size:=(Array.getElem?_eq_some_iff.1 hK1).1
  gi_wp2
  ·rename_i hmany
   have hu5:=bI (g':=W.heap.size+1) (off:=0) (gP (off:=3) (gP (off:=2) (gP (off:=1) (gP (off:=0) (w:=w3.alloc (.cells #[.int .i64 4097,.int .i64 4] 63)) hu4 (.slice none 0 0)) (.slice none 0 0)) (.slice none 0 0)) (.slice none 0 0)) (by omega) (.iface 59 (.pointer (some ⟨w3.heap.size,0,none⟩)))
   have he5:=gP (off:=0) (bI (g':=W.heap.size) (off:=3) (bI (g':=W.heap.size) (off:=2) (bI (g':=W.heap.size) (off:=1) (bI (g':=W.heap.size) (off:=0) (w:=w3.alloc (.cells #[.int .i64 4097,.int .i64 4] 63)) he4 (by omega) (.slice none 0 0)) (by omega) (.slice none 0 0)) (by omega) (.slice none 0 0)) (by omega) (.slice none 0 0)) (.iface 59 (.pointer (some ⟨w3.heap.size,0,none⟩)))
   have hx5:=bI (g':=W.heap.size+1) (off:=0) (bI (g':=W.heap.size) (off:=3) (bI (g':=W.heap.size) (off:=2) (bI (g':=W.heap.size) (off:=1) (bI (g':=W.heap.size) (off:=0) (w:=w3.alloc (.cells #[.int .i64 4097,.int .i64 4] 63)) (Sx.aO.new w3.heap 63 [.int .i64 4097,.int .i64 4]) (by have:=hsv.1; omega) (.slice none 0 0)) (by have:=hsv.1; omega) (.slice none 0 0)) (by have:=hsv.1; omega) (.slice none 0 0)) (by have:=hsv.1; omega) (.slice none 0 0)) (by have:=hsv.1; omega) (.iface 59 (.pointer (some ⟨w3.heap.size,0,none⟩)))
   refine zR (b0:=W.heap.size) (p:=W.heap.size) (q:=W.heap.size+1) (ev:=.iface 59 (.pointer (some ⟨w3.heap.size,0,none⟩))) ⟨[D1],rfl,by simp,?_⟩ rfl rfl hu5 he5 ?_
   ·intro D hD
    have hD:=List.mem_singleton.1 hD
    subst hD
    have da:D≠W.heap.size:=by omega
    have db:D≠W.heap.size+1:=by omega
    refine ⟨by omega,?_⟩
    refine (Below.heap_setCell _ _ _ _ db).trans ?_
    refine (Below.heap_setCell _ _ _ _ da).trans ?_
    refine (Below.heap_setCell _ _ _ _ da).trans ?_
    refine (Below.heap_setCell _ _ _ _ da).trans ?_
    refine (Below.heap_setCell _ _ _ _ da).trans ?_
    exact (Below.heap_alloc w3 _ D hD1l).trans hK1
   ·intro w' hb hk
    refine vQ (q:=(4097,4)) (by unfold df; rw [if_neg (by omega),if_pos (by rw [← Sx.Ob.uG]; unfold Sx.Ic; rw [List.length_map]; omega)]) ((hk _ (by unfold Sx.aO at hx5; erw [hx5]; simp)).trans hx5) ?_
    exact ((((((BW3.alloc BW3.size _).setCell (p:=⟨W.heap.size,0,none⟩) (Nat.le_refl _) _).setCell (p:=⟨W.heap.size,1,none⟩) (Nat.le_refl _) _).setCell (p:=⟨W.heap.size,2,none⟩) (Nat.le_refl _) _).setCell (p:=⟨W.heap.size,3,none⟩) (Nat.le_refl _) _).setCell (p:=⟨W.heap.size+1,0,none⟩) (by show _≤_+1; omega) _).trans hb
  clear c0 c1 c2 c3 c4 f0 f1 f2 f3 f4 hu4 he4 e1
  refine vh (Sx.CD src _) (fun v h' h=>h.2.2.1) ?_
  rintro _ w5 B5 ⟨rfl,b5,-,z5⟩
  have z35:w5.heap.size=w3.heap.size+4:=by rw [z5]; simp
  have hold:∀ k,k<w3.heap.size→w5.heap[k]?=w3.heap[k]?:=fun k hk=>(B5.block k (by simp; omega)).trans ((Below.heap_alloc _ _ k (by simp; omega)).trans ((Below.heap_alloc _ _ k (by simp; omega)).trans (Below.heap_alloc _ _ k hk)))
  have hso5:Sx.bR W w5:=⟨B5.os.trans BW3.os,B5.tape.trans BW3.tape,B5.output.trans BW3.output⟩
  have hgm:w5.heap[w3.heap.size]?=some (.map #[] 0):=(B5.block _ (by simp; omega)).trans ((Below.heap_alloc _ _ _ (by simp; omega)).trans ((Below.heap_alloc _ _ _ (by simp)).trans (World.alloc_heap_new w3 _)))
  have hA5:Sx.aO w5.heap (w3.heap.size+1) 73 (kM fW fW fW 0 0 w3.heap.size fW):=by
   refine (B5.block _ (by simp)).trans ((Below.heap_alloc _ _ _ (by simp)).trans ?_)
   have:=World.alloc_heap_new (w3.alloc (.map #[] 0)) (.cells (kM fW fW fW 0 0 w3.heap.size fW).toArray 73)
   rwa [show (w3.alloc (.map #[] 0)).heap.size=w3.heap.size+1 by simp] at this
  have hv5:Sx.aO w5.heap (w3.heap.size+2) 69 [.pointer (some ⟨w3.heap.size+1,0,none⟩)]:=by
   refine (B5.block _ (by simp)).trans ?_
   have:=World.alloc_heap_new ((w3.alloc (.map #[] 0)).alloc (.cells (kM fW fW fW 0 0 w3.heap.size fW).toArray 73)) (.cells #[.pointer (some ⟨w3.heap.size+1,0,none⟩)] 69)
   rwa [show ((w3.alloc (.map #[] 0)).alloc (.cells (kM fW fW fW 0 0 w3.heap.size fW).toArray 73)).heap.size=w3.heap.size+2 by simp] at this
  have hs5:Boxed w5 (w3.heap.size+3) 9 (.string src):=by
   have h1:Sx.aO w5.heap (w3.heap.size+3) 9 [.string src]:=by simpa using b5
   exact h1
  clear B5 b5 z5
  have ha5:de w5.heap w3.heap.size (w3.heap.size+1) w3.heap.size eo fW fW fW fW [] [] [] (fun i=>if i=w3.heap.size+1 then 6 else if i=w3.heap.size then 7 else 9) :=
   ⟨Core.nil _ _ _,hA5,⟨0,Sx.Ob.sI.new ⟨#[],0,hgm,rfl,⟨by simp,by simp,by simp⟩,by simp⟩⟩,Sx.SL.nil _ _ _ _,if_pos rfl,by simp,by simp [fW,Sx.az],by omega,Nat.le_refl _⟩
  have hnum:((aP (src.size+1) 1 src).length:Int)≤4096:=by omega
  gi_wp2
  refine wpIn_rangeFunc_ownG (F:=Fence.wide) rfl (by omega) (gf:=62) (lb:=#[.pointer (some ⟨w3.heap.size+3,0,none⟩)]) rfl trivial (enters_of Tryz.func62 (by kernel_rfl) rfl)
   (EU (w3.heap.size+3) 3 src (by omega) Sx.yY m _ (by
    have h1:w5.heap[2]?=W.heap[2]?:=(hold 2 (by have:=BW3.size; omega)).trans (BW3.block 2 hW3)
    exact (World.cell?_of_block (a:=⟨2,0,none⟩) h1).trans hm) (by omega) (by omega) hs5.cell) belowK_t (belowK_b (by omega)) (Below.refl _ _) (fun _=>rfl)
   (fun pre W'=>Sx.bR W W'∧w5.heap.size≤W'.heap.size∧(∀ k,k<w3.heap.size→W'.heap[k]?=w3.heap[k]?)∧Sx.aO W'.heap (w3.heap.size+2) 69 [.pointer (some ⟨w3.heap.size+1,0,none⟩)] ∧
    ∃ w t d e q ut ud ue ow,Sx.Ob.runN eo (pre.map (·.1))=.ok w∧de W'.heap w3.heap.size (w3.heap.size+1) w3.heap.size w t d e q ut ud ue ow∧ow (w3.heap.size+2)=9∧yD w∧w.aV.length≤pre.length∧w.aF.length≤pre.length)
   (fun c pre W'=>c=.ret∧Sx.bR W W'∧w5.heap.size≤W'.heap.size∧(∀ k,k<w3.heap.size→k≠W.heap.size→k≠W.heap.size+1→W'.heap[k]?=w3.heap[k]?)∧∃ q ax,Sx.Ob.runN eo (pre.map (·.1))=.error q∧Sx.aO W'.heap W.heap.size 27 [.slice none 0 0,.slice none 0 0,.slice none 0 0,.slice none 0 0]∧Sx.aO W'.heap (W.heap.size+1) 29 [.iface 59 (.pointer (some ⟨ax,0,none⟩))]∧Sx.aO W'.heap ax 63 [.int .i64 (q.1:Int),.int .i64 (q.2:Int)])
   ?own1 ?own2 ?start
   (fun y=>(fun (x:Nat × ByteArray)=>{ tmps:=#[.string src,undef,.pointer (some ⟨W.heap.size,0,none⟩),.pointer (some ⟨W.heap.size+1,0,none⟩),.pointer (some ⟨W.heap.size+1+1,0,none⟩),.pointer (some ⟨(w3.heap.size+2),0,none⟩),.int .i64 (x.1:Int),.string x.2,undef,undef,undef,undef,.string src,.int .i64 (src.size:Int),.bool (decide (65536<(src.size:Int))),undef,undef,undef,undef,.string src,.func (.func 62) #[] #[.pointer (some ⟨W.heap.size+1+1+1,0,none⟩)],undef,undef,undef,undef,.int .i64 ((aP (src.size+1) 1 src).length:Int),.bool (decide (4096<((aP (src.size+1) 1 src).length:Int))),undef,undef,undef,undef,.map (some w3.heap.size),.agg #[.slice none 0 0,.slice none 0 0,.slice none 0 0,.slice none 0 0,.int .i64 0,.int .i64 0,.map (some w3.heap.size),.slice none 0 0],.pointer (some ⟨(w3.heap.size+1),0,none⟩),.string src,.func (.func 62) #[] #[.pointer (some ⟨w3.heap.size+3,0,none⟩)],.int .i64 (x.1:Int),.string x.2,undef,undef,undef,undef,undef,undef,undef,undef,undef,undef,undef,undef,undef,undef,undef,undef,undef,undef,undef,undef,undef,undef,undef,undef,undef,undef,undef,undef,undef,undef,undef,undef,undef,undef,undef,undef,undef,undef,undef,undef,undef,undef,undef,undef,undef,undef,undef,undef,undef,undef,undef],defers:=[] }) y.1) ?assign ?body ?done ?stop
  case own1 =>
   rintro s A B row ⟨so,sz,ho,hb,w,t,d,e,q,ut,ud,ue,ow,hr,ha,h9,hW,hE,hG⟩ hg hrow
   refine ⟨⟨hg.os.trans so.os,hg.tape.trans so.tape,hg.output.trans so.output⟩,Nat.le_trans sz hg.size,fun k hk=>(hg.block k (by omega) (fun e=>by have:=(hrow k e.symm).1; omega)).trans (ho k hk),?_,?_⟩
   ·exact (hg.block _ (by omega) (fun e=>by have:=(hrow _ e.symm).1; omega)).trans hb
   ·obtain ⟨ow',a',h9'⟩:=ha.grown h9 hg (fun r e=>⟨by have:=(hrow r e).1; omega,(hrow r e).2⟩)
    exact ⟨w,t,d,e,q,ut,ud,ue,ow',hr,a',h9',hW,hE,hG⟩
  case own2 =>
   rintro c s A B row ⟨hc,so,sz,ho,q,ax,hq,h1,h2,h3⟩ hg hrow
   refine ⟨hc,⟨hg.os.trans so.os,hg.tape.trans so.tape,hg.output.trans so.output⟩,Nat.le_trans sz hg.size,fun k hk n1 n2=>(hg.block k (by omega) (fun e=>by have:=(hrow k e.symm).1; omega)).trans (ho k hk n1 n2),q,ax,hq,?_,?_,?_⟩
   ·exact (hg.block _ h1.lt (fun e=>by have:=(hrow _ e.symm).1; omega)).trans h1
   ·exact (hg.block _ h2.lt (fun e=>by have:=(hrow _ e.symm).1; omega)).trans h2
   ·refine (hg.block _ h3.lt (fun e=>?_)).trans h3
    obtain ⟨_,o,ho,hn⟩:=hrow _ e.symm
    rw [show A.heap[ax]?=_ from h3] at ho
    cases ho
    cases hn
  case start =>
   exact ⟨hso5,Nat.le_refl _,hold,hv5,eo,fW,fW,fW,fW,[],[],[],_,rfl,ha5,by rw [if_neg (by omega),if_neg (by omega)],yD.z,by simp [eo],by simp [eo]⟩
  case assign =>
   intro l x W' K hK
   unfold DM
   gi_wp2
   exact hK
  case body =>
   rintro l pre x W' ⟨so,sz,ho,hb,w,t,d,e,q,ut,ud,ue,ow,hr,ha,h9,hW,hE,hG⟩ hlen
   have c0:W'.cell? ⟨w3.heap.size+2,0,none⟩=some (.pointer (some ⟨w3.heap.size+1,0,none⟩)):=hb.cell.trans rfl
   have E0:Sx.Ext W.heap W'.heap:=⟨by omega,fun k hk _=>(ho k (by omega)).trans (BW3.block k hk)⟩
   have tb':=tb.ah E0 (by simp)
   have ld':=hl.ext E0
   obtain ⟨ow1,ha1,h91,hn1⟩:=ha.nine
   have hx:=Jc x.2
   gi_wp2
   have z3:w3.heap.size≤W'.heap.size:=by omega
   refine yQ (IB tb' ld' ha1 z3 hW (by omega) (by omega) (n:=x.1.1) (by omega) x.1.2 (by omega) (qq:=fun i=>i<W'.heap.size∧(i=w3.heap.size+2∨((∃ o,W'.heap[i]?=some o∧o.isCells=false)∧i≠w3.heap.size))) (fun i h=>h.1) ?_) ?_
   ·rintro i ⟨hi,rfl | ⟨⟨o,h1,h2⟩,h3⟩⟩
    ·exact h91 _ h9
    ·exact hn1 i o h1 h2 h3
   intro v w7 so7 hR
   cases hlw:dJ w x.1.1 x.1.2 with
   | error e0 =>
    rw [hlw] at hR
    obtain ⟨rfl,he0,ext⟩:=hR
    have z7:=ext.size
    have hu6:Sx.aO W'.heap W.heap.size 27 [.slice none 0 0,.slice none 0 0,.slice none 0 0,.slice none 0 0]:=(ho _ (by omega)).trans hu3
    have he6:Sx.aO W'.heap (W.heap.size+1) 29 [.nilIface]:=(ho _ (by omega)).trans he3
    have hu7:=hu6.ah ext (by simp)
    have he7:=he6.ah ext (by simp)
    have hu8:=hu7.ah (Sx.Ext.push w7.heap (.cells #[.int .i64 (x.1.1:Int),.int .i64 (e0:Int)] 63)) (by simp)
    have he8:=he7.ah (Sx.Ext.push w7.heap (.cells #[.int .i64 (x.1.1:Int),.int .i64 (e0:Int)] 63)) (by simp)
    have d0:(w7.alloc (.cells #[.int .i64 (x.1.1:Int),.int .i64 (e0:Int)] 63)).cell? ⟨W.heap.size,0,none⟩=some (.slice none 0 0):=hu8.cell.trans rfl
    have d1:(w7.alloc (.cells #[.int .i64 (x.1.1:Int),.int .i64 (e0:Int)] 63)).cell? ⟨W.heap.size,1,none⟩=some (.slice none 0 0):=hu8.cell.trans rfl
    have d2:(w7.alloc (.cells #[.int .i64 (x.1.1:Int),.int .i64 (e0:Int)] 63)).cell? ⟨W.heap.size,2,none⟩=some (.slice none 0 0):=hu8.cell.trans rfl
    have d3:(w7.alloc (.cells #[.int .i64 (x.1.1:Int),.int .i64 (e0:Int)] 63)).cell? ⟨W.heap.size,3,none⟩=some (.slice none 0 0):=hu8.cell.trans rfl
    have d4:(w7.alloc (.cells #[.int .i64 (x.1.1:Int),.int .i64 (e0:Int)] 63)).cell? ⟨W.heap.size+1,0,none⟩=some .nilIface:=he8.cell.trans rfl
    have f0:(w7.alloc (.cells #[.int .i64 (x.1.1:Int),.int .i64 (e0:Int)] 63)).frozen? ⟨W.heap.size,0,none⟩=false:=hu8.frozen
    have f1:(w7.alloc (.cells #[.int .i64 (x.1.1:Int),.int .i64 (e0:Int)] 63)).frozen? ⟨W.heap.size,1,none⟩=false:=hu8.frozen
    have f2:(w7.alloc (.cells #[.int .i64 (x.1.1:Int),.int .i64 (e0:Int)] 63)).frozen? ⟨W.heap.size,2,none⟩=false:=hu8.frozen
    have f3:(w7.alloc (.cells #[.int .i64 (x.1.1:Int),.int .i64 (e0:Int)] 63)).frozen? ⟨W.heap.size,3,none⟩=false:=hu8.frozen
    have f4:(w7.alloc (.cells #[.int .i64 (x.1.1:Int),.int .i64 (e0:Int)] 63)).frozen? ⟨W.heap.size+1,0,none⟩=false:=he8.frozen
    gi_wp2
    ·rename_i hne
     have hg5:w5.heap.size≤w7.heap.size:=by omega
     have hx8:=Sx.aO.new w7.heap 63 [.int .i64 (x.1.1:Int),.int .i64 (e0:Int)]
     have hu9:=bI (g':=W.heap.size+1) (off:=0) (gP (off:=3) (gP (off:=2) (gP (off:=1) (gP (off:=0) (w:=w7.alloc (.cells #[.int .i64 (x.1.1:Int),.int .i64 (e0:Int)] 63)) hu8 (.slice none 0 0)) (.slice none 0 0)) (.slice none 0 0)) (.slice none 0 0)) (by omega) (.iface 59 (.pointer (some ⟨w7.heap.size,0,none⟩)))
     have he9:=gP (off:=0) (bI (g':=W.heap.size) (off:=3) (bI (g':=W.heap.size) (off:=2) (bI (g':=W.heap.size) (off:=1) (bI (g':=W.heap.size) (off:=0) (w:=w7.alloc (.cells #[.int .i64 (x.1.1:Int),.int .i64 (e0:Int)] 63)) he8 (by omega) (.slice none 0 0)) (by omega) (.slice none 0 0)) (by omega) (.slice none 0 0)) (by omega) (.slice none 0 0)) (.iface 59 (.pointer (some ⟨w7.heap.size,0,none⟩)))
     have hx9:=bI (g':=W.heap.size+1) (off:=0) (bI (g':=W.heap.size) (off:=3) (bI (g':=W.heap.size) (off:=2) (bI (g':=W.heap.size) (off:=1) (bI (g':=W.heap.size) (off:=0) (w:=w7.alloc (.cells #[.int .i64 (x.1.1:Int),.int .i64 (e0:Int)] 63)) hx8 (by omega) (.slice none 0 0)) (by omega) (.slice none 0 0)) (by omega) (.slice none 0 0)) (by omega) (.slice none 0 0)) (by omega) (.iface 59 (.pointer (some ⟨w7.heap.size,0,none⟩)))
     have kk:∀ k,k<W'.heap.size→k≠W.heap.size→k≠W.heap.size+1→((((((w7.alloc (.cells #[.int .i64 (x.1.1:Int),.int .i64 (e0:Int)] 63)).setCell ⟨W.heap.size,0,none⟩ (.slice none 0 0)).setCell ⟨W.heap.size,1,none⟩ (.slice none 0 0)).setCell ⟨W.heap.size,2,none⟩ (.slice none 0 0)).setCell ⟨W.heap.size,3,none⟩ (.slice none 0 0)).setCell ⟨W.heap.size+1,0,none⟩ (.iface 59 (.pointer (some ⟨w7.heap.size,0,none⟩)))).heap[k]?=W'.heap[k]?:=by
      intro k hk n1 n2
      refine (Below.heap_setCell _ _ _ _ n2).trans ?_
      refine (Below.heap_setCell _ _ _ _ n1).trans ?_
      refine (Below.heap_setCell _ _ _ _ n1).trans ?_
      refine (Below.heap_setCell _ _ _ _ n1).trans ?_
      refine (Below.heap_setCell _ _ _ _ n1).trans ?_
      exact (Below.heap_alloc w7 _ k (by omega)).trans (ext.same k hk (by simp))
     refine ⟨⟨by simp; omega,fun k o hk h1 h2=>(kk k (Array.getElem?_eq_some_iff.1 h1).1 (by omega) (by omega)).trans h1⟩,rfl,⟨so7.os.trans so.os,so7.tape.trans so.tape,so7.output.trans so.output⟩,by simp; omega,fun k hk n1 n2=>(kk k (by omega) n1 n2).trans (ho k hk),(x.1.1,e0),w7.heap.size,?_,hu9,he9,hx9⟩
     rw [List.map_append,Sx.Ob.qT,hr]
     simp only [List.map_cons,List.map_nil,Sx.Ob.runN,hlw]
   | ok w1 =>
    rw [hlw] at hR
    obtain ⟨rfl,t',d',e',q',ut',ud',ue',ow2,a2,A2⟩:=hR
    have hsame:=A2.same
    have z7:=A2.size
    have hl2:=uZ hlw
    gi_wp2
    refine ⟨⟨z7,fun k o hk h1 h2=>(hsame k (Array.getElem?_eq_some_iff.1 h1).1 (.inr ⟨(Array.getElem?_eq_some_iff.1 h1).1,.inr ⟨⟨o,h1,h2⟩,by omega⟩⟩)).trans h1⟩,⟨so7.os,so7.tape,so7.output,z7,fun k hk=>hsame k (by omega) (.inl (by omega))⟩,⟨so7.os.trans so.os,so7.tape.trans so.tape,so7.output.trans so.output⟩,Nat.le_trans sz z7,fun k hk=>(hsame k (by omega) (.inl hk)).trans (ho k hk),?_,?_⟩
    ·exact (hsame _ (by omega) (.inr ⟨by omega,.inl rfl⟩)).trans hb
    ·refine ⟨w1,t',d',e',q',ut',ud',ue',ow2,?_,a2,A2.qo _ ⟨by omega,.inl rfl⟩,uD (by omega) hW hlw,?_,?_⟩
     ·rw [List.map_append,Sx.Ob.qT,hr]
      simp only [List.map_cons,List.map_nil,Sx.Ob.runN,hlw]
     ·rw [List.length_append]; simp only [List.length_cons,List.length_nil]; omega
     ·rw [List.length_append]; simp only [List.length_cons,List.length_nil]; omega
  case done =>
   rintro D2 ys w6 hD2 hys ⟨so,sz,ho,hb,w,t,d,e,q,ut,ud,ue,ow,hr,ha,h9,hW,hE,hG⟩ hK2
   have hrun:ef eo 1 (cO src)=.ok w:=by rw [← Bw,← hys]; exact hr
   have hyl:ys.length=(aP (src.size+1) 1 src).length:=by have h0:=congrArg List.length hys; rwa [List.length_map] at h0
   have hasm:df src=qX w:=Ja (by omega) (by rw [← Sx.Ob.uG]; unfold Sx.Ic; rw [List.length_map]; omega) hrun
   have hu6:Sx.aO w6.heap W.heap.size 27 [.slice none 0 0,.slice none 0 0,.slice none 0 0,.slice none 0 0]:=(ho _ (by omega)).trans hu3
   have he6:Sx.aO w6.heap (W.heap.size+1) 29 [.nilIface]:=(ho _ (by omega)).trans he3
   have hrest:=H8 ha hW (by omega) (u:=W.heap.size) (e:=W.heap.size+1) (v:=w3.heap.size+2) (by omega) (by omega) (by omega) (by omega) h9 hu6 rfl he6 hb
   rename_i K hK
   refine hK _ _ ?_
   refine wpIn_wide.2 (JZ hrest (w:=w6) rfl rfl rfl rfl rfl rfl ?_)
   rintro x a' w7 hx hd' g2 g3 so7 ⟨v,k7,a,b',c,dd,ev,rfl,hU,hEr,hb1,hb2'⟩
   have D2l:D2<w6.heap.size:=(Array.getElem?_eq_some_iff.1 hK2).1
   have hm:Marks W.heap.size a'.defers w7:=by
    refine ⟨[D2,D1],hd',?_,?_⟩
    ·simp only [List.nodup_cons,List.mem_singleton,List.not_mem_nil,not_false_eq_true,List.nodup_nil,and_true]
     omega
    ·intro D hD
     rcases List.mem_cons.1 hD with rfl | hD
     ·refine ⟨by omega,(k7.same D D2l ?_).trans hK2⟩
      simp only [List.mem_cons,List.not_mem_nil,or_false]
      omega
     ·have hD:=List.mem_singleton.1 hD
      subst hD
      refine ⟨by omega,(k7.same D (by omega) ?_).trans ((ho D (by omega)).trans hK1)⟩
      simp only [List.mem_cons,List.not_mem_nil,or_false]
      omega
   have hfin:∀ w':World,Below W.heap.size w7 w'→(∀ B:Nat,w7.heap[B]?≠some (Obj.deferred (some []))→w'.heap[B]?=w7.heap[B]?)→J8 src W (.returned (.tuple #[oD a b' c dd,ev])) w':=by
    intro w' hb8 hk8
    have hcl:∀ i,qh w7.heap i→w'.heap[i]?=w7.heap[i]?:=by
     rintro i ⟨c,e,f,hi⟩
     exact hk8 i (by rw [hi]; simp)
    refine ⟨a,b',c,dd,ev,rfl,?_,?_,?_⟩
    ·rw [hasm]
     exact BM (hU.mono (by omega)) hb8.size hcl
    ·rw [hasm]
     exact AJ hEr hcl
    ·refine Below.trans ⟨so7.os.trans so.os,so7.tape.trans so.tape,so7.output.trans so.output,by have:=k7.size; omega,fun k hk'=>?_⟩ hb8
     refine (k7.same k (by omega) ?_).trans ((ho k (by omega)).trans (BW3.block k hk'))
     simp only [List.mem_cons,List.not_mem_nil,or_false]
     omega
   rcases hx with rfl | rfl
   ·exact zR (b0:=W.heap.size) hm g2 g3 hb1 hb2' hfin
   ·exact zR (b0:=W.heap.size) hm g2 g3 hb1 hb2' hfin
  case stop =>
   rintro D2 c pre w6 hD2 hpre ⟨rfl,so,sz,ho,q,ax,hq,h1,h2,h3⟩ hK2
   have D2l:D2<w6.heap.size:=(Array.getElem?_eq_some_iff.1 hK2).1
   have hasm:df src=.error q:=HL (by omega) (by rw [← Sx.Ob.uG]; unfold Sx.Ic; rw [List.length_map]; omega) (by rw [← Bw]; exact E7 hpre hq)
   gi_wp2
   refine zR (b0:=W.heap.size) (p:=W.heap.size) (q:=W.heap.size+1) (ev:=.iface 59 (.pointer (some ⟨ax,0,none⟩))) ⟨[D2,D1],rfl,?_,?_⟩ rfl rfl h1 h2 ?_
   ·simp only [List.nodup_cons,List.mem_singleton,List.not_mem_nil,not_false_eq_true,List.nodup_nil,and_true]
    omega
   ·intro D hD
    rcases List.mem_cons.1 hD with rfl | hD
    ·exact ⟨by omega,hK2⟩
    ·have hD:=List.mem_singleton.1 hD
     subst hD
     exact ⟨by omega,(ho D (by omega) (by omega) (by omega)).trans hK1⟩
   ·intro w' hb hk
    refine vQ (q:=q) hasm ((hk _ (by unfold Sx.aO at h3; erw [h3]; simp)).trans h3) ?_
    exact Below.trans ⟨so.os,so.tape,so.output,by omega,fun k hk'=>(ho k (by omega) (by omega) (by omega)).trans (BW3.block k hk')⟩ hb
end Go.Proofs
set_option linter.unusedVariables false
set_option linter.unusedSimpArgs false
set_option maxRecDepth 100000
namespace Go.Sx.Ob
open Go.Proofs
def KT (s:ByteArray) (h:Hp) (v:Value) (h':Hp):Prop:=Ext h h'∧∃ (a b c d:bL) (ev:Value),v=.tuple #[oD a b c d,ev]∧kw h' h.size a b c d (sj (df s)).1∧lX h' ev (qZ (df s))
theorem J0 (s:ByteArray) (h:Hp) (hl:Laid h) (tb:nq h) (m:Int) (hm:∀ W:World,W.heap=h→W.cell? ⟨2,0,none⟩=some (.int .i64 m)):HC Tryz.prog 10 #[.string s] h (KT s h):=by
 intro W hW
 subst hW
 refine callsIn_wide.1 ((Kc W s hl tb m (hm W rfl)).mono ?_)
 rintro e w' ⟨a,b,c,d,ev,rfl,hU,hE,hB⟩
 exact ⟨_,rfl,⟨hB.os,hB.tape,hB.output⟩,⟨hB.size,fun i hi _=>hB.block i hi⟩,a,b,c,d,ev,rfl,hU,hE⟩
structure rP (u:ig):Prop where
 text:∀ x,x∈u.text→x' x
 data:∀ x,x∈u.data→x' x
 aV:∀ x,x∈u.aV→tw x.2∧x.1.size<65536
 aF:∀ x,x∈u.aF→x.size<65536
 m1:u.text.length+u.data.length≤8192
 m2:u.aV.length≤4096
 m3:u.aF.length≤4096
theorem rP.z:rP oK:=⟨by simp [oK],by simp [oK],by simp [oK],by simp [oK],by simp [oK],by simp [oK],by simp [oK]⟩
theorem G8 {x:eS} {n:Nat} (hn:n≤65535) (g:Good x) (hx:x.aw.length≤n):tw x :=
 ⟨by omega,fun t ht=>⟨by have:=iR (g.x7 t ht); omega,(g.nf.GV t ht).2⟩,g.num⟩
theorem Fk {x:bC} {k n:Nat} (hn:n≤65535) (hr:cM x k=true) (g:Good x.e) (hx:Bd n x):x' x:=by
 refine ⟨G8 hn g hx,?_,?_⟩
 ·have z:z1 x=true→x.name.size<65536:=fun e=>by
   have e:x.name=bK:=of_decide_eq_true e
   rw [e]; decide
  unfold cM at hr
  repeat' split at hr
  all_goals try simp only [Bool.and_eq_true] at hr
  ·have:=iR hr.1.1.1
   omega
  all_goals first | exact z hr.1.1.1 | exact z hr.1.1 | exact z hr.1.2 | exact z hr.1.1.1.2 | exact z hr.1.1.2 | (cases hr; done)
 ·have z:z2 x=true→Sm x.inst.op:=fun e=>by
   have e:x.inst=jv:=of_decide_eq_true e
   rw [e]; unfold Sm jv; simp
  unfold cM at hr
  repeat' split at hr
  all_goals try simp only [Bool.and_eq_true] at hr
  ·exact z hr.1.1.2
  ·have h1:=hr.1.1.2
   unfold zt at h1
   simp only [Bool.and_eq_true] at h1
   exact Kg (of_decide_eq_true h1.1.1)
  all_goals first | exact z hr.1.1.1.2 | exact z hr.1.1.2 | exact z hr.1.2 | exact z hr.2 | (cases hr; done)
theorem oW:∀ (l d:List ByteArray),(l.foldl (fun d s=>ml s d) d).length≤d.length+l.length
 | [],d=>by simp
 | s::l,d=>by
  have h:=oW l (ml s d)
  have h2:(ml s d).length≤d.length+1:=vj s d
  simp only [List.foldl_cons,List.length_cons]
  omega
theorem yv:∀ (l:List ByteArray) (w w':dW) (n:Nat),ef w n l=.ok w'→w'.aV.length≤w.aV.length+l.length∧w'.aF.length≤w.aF.length+l.length
 | [],w,w',n,h=>by
  simp only [ef] at h
  injection h with h
  subst h
  exact ⟨by simp,by simp⟩
 | s::l,w,w',n,h=>by
  simp only [ef] at h
  split at h
  ·cases h
  ·rename_i w1 h1
   have ih:=yv l w1 w' (n+1) h
   have h2:=uZ h1
   simp only [List.length_cons]
   omega
theorem JY {src:ByteArray} (hs:src.size≤60000) {u:ig} (h:df src=.ok u):rP u:=by
 unfold df at h
 split at h
 ·cases h
 rename_i hsz
 split at h
 ·cases h
 rename_i hl
 split at h
 ·cases h
 rename_i w hw
 have W:=yZ _ _ _ _ (fun s hs=>by have:=gR src s hs; omega) yD.z hw
 have S:=C8 (n:=60001) (cO src) eo w 1 (fun s hs'=>by have:=gR src s hs'; omega) ⟨by simp [eo],by simp [eo],by simp [eo]⟩ hw
 have L:=yv _ _ _ _ hw
 have hm:=W.many
 split at h
 ·cases h
 injection h with h
 subst h
 refine ⟨fun x hx=>Fk (by omega) (W.text x hx).1 (W.text x hx).2 (S.text x hx),fun x hx=>Fk (by omega) (W.data x hx).1 (W.data x hx).2 (S.data x hx),fun x hx=>⟨G8 (by omega) (W.aV x hx).2 (S.aV x hx),by have:=iR (W.aV x hx).1; omega⟩,fun x hx=>?_,by simp only; omega,?_,?_⟩
 ·simp only at hx
  rw [nQ] at hx
  obtain ⟨g,hg1,rfl⟩:=List.mem_map.1 hx
  have:=iR (W.aF g hg1)
  omega
 ·have:eo.aV.length=0:=rfl
  simp only
  omega
 ·have h0:eo.aF.length=0:=rfl
  have:=oW (w.aF.map (·.1)) []
  simp only [List.length_map,List.length_nil] at this
  simp only
  unfold cd
  omega
theorem FY {src:ByteArray} (hs:src.size≤60000):rP (sj (df src)).1:=by
 cases h:df src with
 | error q=>exact rP.z
 | ok u=>exact JY hs h
theorem kw.own {h:Hp} {b:Nat} {a b' c d:bL} {u:ig} (U:kw h b a b' c d u) (z:rP u):ie h b a b' c d u∧LH a b':=by
 obtain ⟨ut,ud,ue,ow,C,S⟩:=U
 have l1:=congrArg List.length C.t3
 have l2:=congrArg List.length C.d3
 have l3:=congrArg List.length C.e3
 rw [List.length_map] at l1 l2 l3
 have m1:=z.m1
 have m2:=z.m2
 have m3:=z.m3
 refine ⟨⟨⟨ut,C.t3,by omega,C.t1,C.t2,fun x hx=>z.text _ (by rw [← C.t3]; exact List.mem_map_of_mem hx)⟩,⟨ud,C.d3,by omega,C.d1,C.d2,fun x hx=>z.data _ (by rw [← C.d3]; exact List.mem_map_of_mem hx)⟩,⟨ue,C.e3,by omega,C.e1,C.e2,fun x hx=>z.aV _ (by rw [← C.e3]; exact List.mem_map_of_mem hx)⟩,⟨u.aF.map (fun x=>(fW,x)),by rw [List.map_map]; exact List.map_id _,by rw [List.length_map]; omega,?_,?_,?_⟩⟩,?_⟩
 ·have h1:(u.aF.map (fun x=>(fW,x))).map (fun (u:bL × ByteArray)=>[Value.string u.2])=u.aF.map Hv:=by rw [List.map_map]; rfl
  show SL h b 9 1 d.p d.l d.c ((u.aF.map (fun x=>(fW,x))).map (fun (u:bL × ByteArray)=>[Value.string u.2]))
  rw [h1]
  exact S
 ·intro x hx
  obtain ⟨y,hy,rfl⟩:=List.mem_map.1 hx
  exact SL.nil _ _ _ _
 ·intro x hx
  obtain ⟨y,hy,rfl⟩:=List.mem_map.1 hx
  exact z.aF y hy
 ·intro i hi hj
  have h1:=C.o3 i hi
  have h2:=C.o4 i hj
  omega
theorem kw.at {h:Hp} {b:Nat} {a b' c d:bL} {u:ig} (U:kw h b a b' c d u) (z:rP u):fO h a b' c d u:=(U.own z).1.at
theorem D7 {k:Nat} {ts:List Tok} {e:Nat} (w:Wf ts) (h:jq k ts=.error e):e=20∨e=21:=by
 unfold jq at h
 split at h
 ·split at h
  ·rename_i he
   injection h with h
   subst h
   exact gU w he
  ·cases h
 ·split at h
  ·rename_i he
   injection h with h
   subst h
   exact dM w he
  ·cases h
theorem pS {k:Nat} {e:Nat}:∀ (l:List (List Tok)),(∀ a,a∈l→Wf a)→cF k l=.error e→e=20∨e=21
 | [],w,h=>by cases h
 | t::ts,w,h=>by
  simp only [cF] at h
  split at h
  ·rename_i he
   injection h with h
   subst h
   exact D7 (w t (by simp)) he
  ·split at h
   ·rename_i he
    injection h with h
    subst h
    exact pS ts (fun a ha=>w a (by simp [ha])) he
   ·cases h
theorem Kz {args:List (List Tok)} (hw:∀ a,a∈args→Wf a) (wn:Wf []) (i:Nat):Wf (ag args i):=by
 unfold ag
 rw [List.getD_eq_getElem?_getD]
 cases h:args[i]? with
 | none=>exact wn
 | some a=>exact hw a (List.mem_of_getElem? h)
theorem FU {op:ByteArray} {args:List (List Tok)} {e:Nat} (hw:∀ a,a∈args→Wf a) (wn:Wf []) (h:fZ op args=.error e):e=20∨e=21:=by
 unfold fZ at h
 simp only at h
 have g:=Kz hw wn
 split at h
 ·injection h with h; exact .inl h.symm
 split at h
 ·cases h
 split at h
 ·split at h
  ·rename_i he
   injection h with h
   subst h
   exact gU (g 0) he
  ·split at h
   ·cases h
   ·injection h with h; exact .inr h.symm
 split at h
 ·split at h
  ·rename_i he
   injection h with h
   subst h
   exact gU (g 0) he
  ·cases h
 split at h
 ·split at h
  ·injection h with h; exact .inl h.symm
  ·split at h
   ·rename_i he
    injection h with h
    subst h
    exact pS _ hw he
   ·cases h
 split at h
 ·split at h
  ·injection h with h; exact .inl h.symm
  ·split at h
   ·rename_i he
    injection h with h
    subst h
    exact pS _ hw he
   ·cases h
 split at h
 ·split at h
  ·rename_i he
   injection h with h
   subst h
   exact .inl (rD he)
  ·split at h
   ·rename_i he
    injection h with h
    subst h
    exact dM (g 1) he
   ·cases h
 split at h
 ·split at h
  ·rename_i he
   injection h with h
   subst h
   exact .inl (rD he)
  ·cases h
 ·split at h
  ·split at h
   ·cases h
   ·split at h
    ·cases h
    ·injection h with h; exact .inl h.symm
  ·injection h with h; exact .inl h.symm
theorem ET {l:Ln} {d:Bool} {e:Nat} (hw:∀ a,a∈l.args→Wf a) (wn:Wf []) (h:dF l d=.error e):e=20∨e=21:=by
 unfold dF at h
 split at h
 ·cases h
 split at h
 ·split at h
  ·rename_i he
   injection h with h
   subst h
   exact xA hw he
  ·split at h
   ·injection h with h; exact .inr h.symm
   ·cases h
 ·split at h
  ·rename_i he
   injection h with h
   subst h
   exact FU hw wn he
  ·rename_i t w he
   by_cases hc:w=2∨w=(if d then 1 else 0)
   ·rw [if_pos hc] at h; cases h
   ·rw [if_neg hc] at h; injection h with h; exact .inr h.symm
theorem Bx (s:ByteArray):∀ (f k:Nat) (acc:List Tok),(jG s f k acc).2.2≤20
 | 0,k,acc=>by simp [jG]
 | f+1,k,acc=>by
  simp only [jG]
  split
  ·simp
  ·simp
  ·exact Bx s f _ _
theorem Cj (s:ByteArray):(aJ s).2.2≤20:=by
 have ht:∀ (n:Nat) (lb:ByteArray) (us:List Tok),(bP n lb us).2.2≤20:=by
  intro n lb us
  unfold bP
  split
  ·simp
  ·split
   ·simp
   ·split <;> simp
 unfold aJ dX
 split
 ·exact Bx s _ _ _
 ·split
  ·exact ht _ _ _
  ·exact ht _ _ _
theorem EK {w:dW} {n e:Nat} {s:ByteArray} (hs:s.size≤2^20) (h:dJ w n s=.error e):e<100:=by
 unfold dJ at h
 have p:=Cj s
 split at h
 ·injection h with h; omega
 split at h
 ·injection h with h; omega
 split at h
 ·rename_i he
  injection h with h
  subst h
  have f:=gV s hs
  have:=ET (fun a ha=>(f a ha).1) (fun t ht=>by cases ht) he
  omega
 split at h
 ·injection h with h; omega
 split at h
 ·injection h with h; omega
 ·cases h
theorem zY:∀ (l:List ByteArray) (w:dW) (n:Nat) (q:Nat × Nat),(∀ s,s∈l→s.size≤2^20)→ef w n l=.error q→q.2<100
 | [],w,n,q,_,h=>by cases h
 | s::l,w,n,q,hs,h=>by
  simp only [ef] at h
  split at h
  ·rename_i e he
   injection h with h
   subst h
   exact EK (hs s (by simp)) he
  ·exact zY l _ _ q (fun x hx=>hs x (by simp [hx])) h
theorem CG {s:ByteArray} {q:Nat × Nat} (h:df s=.error q):q.1≤2^60∧q.2<10^18:=by
 unfold df at h
 split at h
 ·injection h with h
  subst h
  exact ⟨by decide,by decide⟩
 rename_i hsz
 split at h
 ·injection h with h
  subst h
  exact ⟨by decide,by decide⟩
 rename_i hl
 have hls:∀ x,x∈cO s→x.size≤2^20:=fun x hx=>by have:=gR s x hx; omega
 split at h
 ·rename_i he
  injection h with h
  subst h
  have h1:=zY _ _ _ _ hls he
  have h2:=vX _ _ _ _ he
  exact ⟨by omega,by omega⟩
 ·rename_i w hw
  split at h
  ·rename_i g hg
   injection h with h
   subst h
   have hm:=List.mem_of_find?_eq_some hg
   rcases pG _ _ _ _ hw g hm with h3 | h3
   ·simp [eo] at h3
   ·exact ⟨by simp only; omega,show 23<10^18 by decide⟩
  ·cases h
theorem DE {s:ByteArray} {q:Nat × Nat} (h:qZ (df s)=some q):q.1≤2^60∧q.2<10^18:=by
 cases hh:df s with
 | error e =>
  rw [hh] at h
  injection h with h
  subst h
  exact CG hh
 | ok u=>rw [hh] at h; cases h
end Go.Sx.Ob
set_option linter.unusedVariables false
set_option maxRecDepth 100000
namespace Go.Proofs.YtfkjiiapldkoeaaGreatDoor
open Go.RowKit Go.Extern.Stop Go.Stop Go.Extern
theorem Fg (v:Value) (w:World):(Extern.ReflectliteType.typeOf #[.iface 44 v]).run Tryz.prog w=.ok (.iface 163 (.agg #[.pointer (some ⟨8,44,none⟩)])) w:=by kernel_rfl
theorem yS (w : World) : ((Extern.ReflectliteType.method fun t => do Extern.Rtype.noPackHeld "Comparable" t; (fun a => Value.bool a.comparable) <$> typeInfo t) #[.agg #[.pointer (some ⟨8, 44, none⟩)]]).run Tryz.prog w = .ok (.bool true) w := by kernel_rfl
theorem pR (v : Value) (w : World) : (Go.method 442 163 v "Comparable").run Tryz.prog w = .ok (226, v) w := by kernel_rfl
theorem KL (v:Value) (xT:TypeId) (w:World):(Instr.typeAssert (.iface 59 v) xT 197 true).run Tryz.prog w=.ok (.tuple #[.nilIface,.bool false]) w:=run_typeAssert_lacksB Tryz.underlying197 (by kernel_rfl) (by kernel_rfl) v xT w
theorem KX (v:Value) (xT:TypeId) (w:World):(Instr.typeAssert (.iface 44 v) xT 197 true).run Tryz.prog w=.ok (.tuple #[.nilIface,.bool false]) w:=run_typeAssert_lacksB Tryz.underlying197 (by kernel_rfl) (by kernel_rfl) v xT w
theorem CI (v:Value) (xT:TypeId) (w:World):(Instr.typeAssert (.iface 59 v) xT 170 true).run Tryz.prog w=.ok (.tuple #[.iface 59 v,.bool true]) w:=run_typeAssert_hasB Tryz.underlying170 (by kernel_rfl) v xT w
theorem zv (v : Value) (w : World) : (Go.method 442 59 v "Unwrap").run Tryz.prog w = .ok (39, v) w := by kernel_rfl
theorem Mm (n m:Int) (w:World):(binOp .eql 29 (.iface 44 (.int .i64 n)) (.iface 44 (.int .i64 m))).run Tryz.prog w=.ok (.bool (n==m)) w:=by kernel_rfl
theorem MN (n:Int) (w:World):(binOp .eql 29 (.iface 44 (.int .i64 n)) (.iface 44 (.int .i64 n))).run Tryz.prog w=.ok (.bool true) w:=by rw [Mm]; simp
theorem Fv (a:Nat) (n:Int) (w:World) (h1:w.cell? ⟨a,0+1,none⟩=some (.int .i64 n)) :
  Calls Tryz.prog 40 #[.iface 59 (.pointer (some ⟨a,0,none⟩)),.iface 44 (.int .i64 n)] w fun e w'=>e=.returned (.bool true)∧w'=w:=by
 have h8:=@run_callFunc_extern Tryz.prog 73 _ Extern.ReflectliteType.typeOf Tryz.func73 (by kernel_rfl) (by kernel_rfl) (by kernel_rfl) (by kernel_rfl)
 have h32 := @run_callFunc_extern Tryz.prog 226 _ (Extern.ReflectliteType.method fun t => do Extern.Rtype.noPackHeld "Comparable" t; pure (.bool (← typeInfo t).comparable)) Tryz.func226 (by kernel_rfl) (by kernel_rfl) (by kernel_rfl) (by kernel_rfl)
 have tT:=Fg
 have cT:=yS
 have mR:=pR
 have nE:=KL
 have nW:=KX
 have uW:=CI
 have mU:=zv
 have heq:=MN n w
 have hty:=run_eql_iface_types (P:=Tryz.prog) 59 44 (.pointer (some ⟨a,0,none⟩)) (.int .i64 n) Tryz.underlying29 (by decide) w
 go_enter Tryz.func40,Tryz.ntmps40
 go_wp2
 refine wp_loop_rounds 2 ?_
 rw [rounds_succ]
 go_wp2
 rw [rounds_succ]
 go_wp2
 go_ret
 exact ⟨rfl,rfl⟩
end Go.Proofs.YtfkjiiapldkoeaaGreatDoor
set_option linter.unusedVariables false
set_option linter.unusedSimpArgs false
set_option maxRecDepth 100000
namespace Go.Sx.Ob
open Go.Proofs
theorem SL.flat {h:Hp} {b:Nat} {e:TypeId} {sz:Nat} {a:Addr} {l c:Nat} {xs:List (List Value)} (s:SL h b e sz (some a) l c xs):aH h a 0 xs.flatten:=by
 obtain ⟨g,pre,rest,rfl,hbg,hlc,hbox,hr⟩:=s.2.2
 refine hbox.cells _ ?_
 rw [List.drop_left,List.take_left]
def nK (h:Hp):Prop:=∃ e f,h[3]?=some (.cells (Lib.pow10Tab.map fun z=>Value.int .u64 z).toArray e f)
theorem nK.ah {ws:List Nat} {h h':Hp} (p:nK h) (k:Ch ws h h') (hw:3∉ws):nK h':=by
 obtain ⟨e,f,hp⟩:=p
 exact ⟨e,f,k.get hp hw⟩
theorem JM {W:World} {name:String} (hg:Tryz.prog.globalNamed name=some 3) (p:nK W.heap):Lib.TabIs Tryz.prog W name .u64 Lib.pow10Tab:=by
 obtain ⟨e,f,hp⟩:=p
 unfold Lib.TabIs World.var?
 rw [hg]
 show (match W.heap[3]? with | some (.cells cs _ _)=>some cs | _=>none)=_
 rw [hp]
theorem H2 {h:Hp} (p:nK h) (n:Nat) (hn:n≤2^60):HC Tryz.prog 71 #[.int .i64 n] h fun v h'=>∃ s:ByteArray,v=.string s∧s.size≤1000∧Ext h h':=by
 intro W hW
 subst hW
 refine (Tryz.strconv_Itoa n (by omega) (by omega) W (JM (by kernel_rfl) p)).mono ?_
 rintro e w' ⟨he,k,os,rfl⟩
 refine ⟨_,he,⟨rfl,rfl,rfl⟩,_,rfl,?_,?_⟩
 ·show (Lib.itoa (n:Int)).toArray.size≤1000
  have:=Lib.itoa_length_le (n:Int) (by omega) (by omega)
  simp
  omega
 ·refine ⟨by show W.heap.size≤(W.heap++os).size; simp,fun i hi _=>?_⟩
  show (W.heap++os)[i]?=_
  rw [Array.getElem?_append_left hi]
theorem Cz:Tryz.prog.underlying 42=some (.slice 5):=by kernel_rfl
theorem Jq:Tryz.prog.underlying 5=some (.int .u8):=by kernel_rfl
theorem Jd:Tryz.prog.underlying 9=some .string:=by kernel_rfl
theorem zV {L:Lp} {K:Value→Hp→Prop} {h:Hp} {b:Nat} {p:Option Addr} {l c:Nat} {bs:List UInt8} {k:ByteArray→T} (s:SL h b 5 1 p l c (to bs)) (h0:bs≠[]) (hk:k ⟨bs.toArray⟩ L K h) :
  T.aY Tryz.prog (convert 42 9 (.slice p l c)) false [(false,[.string])] k L K h:=by
 show aD Tryz.prog (convert 42 9 (.slice p l c)) h _
 unfold convert
 rw [aj,ay Cz,aj,ay Jd]
 show aD Tryz.prog (do match ← underlying 5 with
  | .int .u8=>Conv.bytesToString (.slice p l c)
  | .int .i32=>Conv.runesToString (.slice p l c)
  | _ => stuck "Convert: a slice of what to string?") h _
 rw [aj,ay Jq]
 cases p with
 | none =>
  have h1:to bs=[]:=s.2.2.2
  have:bs=[]:=by simpa [to] using h1
  exact absurd this h0
 | some a =>
  have hl:l=bs.length:=by rw [s.1,qa]
  subst hl
  have hf:=SL.flat s
  rw [BA] at hf
  exact xN a bs c _ hf ⟨(⟨bs.toArray⟩,()),rfl,hk⟩
theorem JV (n:Nat):IntKind.wrap .u8 (IntKind.wrap .i64 ((48:Int)+(Int.tmod (n:Int) (10:Int))))=((UInt8.ofNat (48+n % 10)).toNat:Int):=by
 have e:Int.tmod (n:Int) 10=((n % 10:Nat):Int):=by
  rw [Int.tmod_eq_emod_of_nonneg (by omega)]
  rfl
 rw [e,wrap_i64 (by omega) (by omega),wrap_u8 (by omega) (by omega)]
 simp
 omega
theorem Bg {P:Program} {h:Hp} {t ty e:TypeId} {i:TypeInfo} (ht:P.underlying t=some (.slice e)) (hi:P.info? e=some i) (a:Addr) (l:Nat) (K:Value→Hp→Prop) (hk:K (.slice (some a) l l) h) :
  aD P (Builtin.append_ #[t,t] ty #[.slice (some a) l l,.slice none 0 0]) h K:=by
 simp [Builtin.append_,aj,ay ht,bk hi,cQ hi,Builtin.lenOf,Builtin.firstCells]
 rw [jm]
 exact hk
theorem Fw (h:Hp) (n:Nat) (hn:n<10^18):HC Tryz.prog 72 #[.int .i64 n] h fun v h'=>∃ s:ByteArray,v=.string s∧s.size≤1000∧Ext h h':=by
 refine aL (args:=[.int .i64 n]) mixed Tryz.func72 (by kernel_rfl) (lu n) ?_
 unfold iD
 refine af (fun _=>⟨_,rfl,by decide,Ch.refl _ _⟩) (fun _=>?_)
 refine af (fun _=>⟨_,rfl,by decide,Ch.refl _ _⟩) (fun _=>?_)
 refine af (fun _=>⟨_,rfl,by decide,Ch.refl _ _⟩) (fun _=>?_)
 refine af (fun _=>⟨_,rfl,by decide,Ch.refl _ _⟩) (fun _=>?_)
 refine bo (by rw [decide_eq_false_iff_not]; omega) ?_
 refine bm (cs:=[(false,[.int .i64]),(false,[.slice 0])]) (fun y m h'=>∃ (k:Nat) (bs:List UInt8) (p:Option Addr) (c:Nat),y=((k:Int),(p,bs.length,c),())∧m=k+(if bs=[] then 1 else 0)∧bs.length≤20∧k≤n∧k<10^(20-bs.length)∧SL h' h.size 5 1 p bs.length c (to bs)∧Ext h h') ((n:Int),(none,0,0),()) (n+1) rfl
  ⟨n,[],none,0,rfl,rfl,by simp,Nat.le_refl _,Nat.lt_of_lt_of_le hn (Nat.pow_le_pow_right (by omega) (by simp)),SL.nil _ _ _ _,Ch.refl _ _⟩ ?_
 rintro ⟨n6,⟨p7,l8,l9⟩,⟨⟩⟩ m h1 ⟨k,bs,p,c,hy,hm,hbl,hkn,hkl,sl,e1⟩
 cases hy
 dsimp only [flat,aB,ai,nA,cA]
 have hz1:=e1.size
 have step:(0<k∨bs=[])→(T.need ((10:Int)≠(0:Int)) <|
    T.aY Tryz.prog (Instr.buildSlice 42 1 #[(0,.int .u8 (IntKind.wrap .u8 (IntKind.wrap .i64 ((48:Int)+(Int.tmod (k:Int) (10:Int))))))]) false [(false,[.slice 0])] fun (p5:Option Addr) (l6:Nat) (l7:Nat) =>
    T.aY Tryz.prog (Builtin.append_ #[42,42] 42 #[.slice p5 l6 l7,.slice p7 bs.length l9]) false [(false,[.slice 0])] fun (p8:Option Addr) (l9:Nat) (l10:Nat) =>
    T.need ((10:Int)≠(0:Int)) <|
    T.again 0 [.int .i64 (IntKind.wrap .i64 (Int.tdiv (k:Int) (10:Int))),.slice p8 l9 l10]) [Jl (cs:=[(false,[.int .i64]),(false,[.slice 0])]) (fun y m h'=>∃ (k:Nat) (bs:List UInt8) (p:Option Addr) (c:Nat),y=((k:Int),(p,bs.length,c),())∧m=k+(if bs=[] then 1 else 0)∧bs.length≤20∧k≤n∧k<10^(20-bs.length)∧SL h' h.size 5 1 p bs.length c (to bs)∧Ext h h') m] (fun v h'=>∃ s:ByteArray,v=.string s∧s.size≤1000∧Ext h h') h1:=by
  intro hs
  have hk20:bs.length<20:=by
   rcases hs with hs | hs
   ·by_cases g:bs.length<20
    ·exact g
    ·have:20-bs.length=0:=by omega
     rw [this] at hkl
     simp at hkl
     omega
   ·rw [hs]; simp
  refine aA (by decide) ?_
  rw [JV]
  refine eA Gz LR (by omega) (by omega) (Ky ((UInt8.ofNat (48+k % 10)).toNat:Int)) ?_
  intro h2 b2 e2 z2
  have s2:SL h2 h1.size 5 1 (some ⟨h1.size,0,none⟩) 1 1 (to [UInt8.ofNat (48+k % 10)]) :=
   ⟨rfl,De _,h1.size,[],[],rfl,Nat.le_refl _,⟨by omega,by omega⟩,b2,by simp⟩
  have sl2:=sl.ah e2 (by simp)
  obtain ⟨i5,hi5,hz5,hs5,hb5⟩:=nI LR
  have fin:∀ (bs':List UInt8) (p':Option Addr) (c':Nat) (h3:Hp),bs'=UInt8.ofNat (48+k % 10)::bs→SL h3 h1.size 5 1 p' bs'.length c' (to bs')→Ext h1 h3→(T.need ((10:Int)≠(0:Int)) <|
    T.again 0 [.int .i64 (IntKind.wrap .i64 (Int.tdiv (k:Int) (10:Int))),.slice p' bs'.length c']) [Jl (cs:=[(false,[.int .i64]),(false,[.slice 0])]) (fun y m h'=>∃ (k:Nat) (bs:List UInt8) (p:Option Addr) (c:Nat),y=((k:Int),(p,bs.length,c),())∧m=k+(if bs=[] then 1 else 0)∧bs.length≤20∧k≤n∧k<10^(20-bs.length)∧SL h' h.size 5 1 p bs.length c (to bs)∧Ext h h') m] (fun v h'=>∃ s:ByteArray,v=.string s∧s.size≤1000∧Ext h h') h3:=by
   intro bs' p' c' h3 hbs s3 e3
   refine aA (by decide) ?_
   have hdiv:Int.tdiv (k:Int) (10:Int)=((k / 10:Nat):Int):=by
    rw [Int.tdiv_eq_ediv_of_nonneg (by omega)]
    rfl
   rw [hdiv,wrap_i64 (by omega) (by omega)]
   refine aM (cs:=[(false,[.int .i64]),(false,[.slice 0])]) (((k / 10:Nat):Int),(p',bs'.length,c'),()) (k / 10) rfl ?_ rfl ?_
   ·rw [hm]
    rcases hs with hs | hs
    ·omega
    ·rw [if_pos hs]; omega
   ·refine ⟨k / 10,bs',p',c',rfl,?_,?_,by omega,?_,s3.mono (by omega),e1.trans e3⟩
    ·rw [if_neg (by rw [hbs]; simp)]; rfl
    ·rw [hbs]; simp; omega
    ·rw [hbs,List.length_cons]
     have:10^(20-bs.length)=10^(20-(bs.length+1))*10:=by
      rw [← Nat.pow_succ]
      congr 1
      omega
     rw [this] at hkl
     omega
  have hl7:bs.length=(to bs).length:=(qa bs).symm
  cases p7 with
  | none =>
   have hb1:to bs=[]:=sl2.2.2.2
   have hb3:l9=0:=sl2.2.2.1
   have:bs=[]:=by simpa [to] using hb1
   subst this hb3
   refine cV (Bg Gz hi5 _ 1 _ ?_)
   exact ⟨_,1,1,rfl,fin [UInt8.ofNat (48+k % 10)] _ 1 h2 rfl s2 e2⟩
  | some a7 =>
   refine cV (kR (i:=i5) Gz hi5 hz5 (by rw [hs5]; rfl) (by rw [hs5]; exact s2) (ys:=to bs) hl7 (by rw [hs5]; exact De bs) (SL.flat sl2) (DJ bs) (by rw [hb5]; omega) (by omega) (by omega) ?_)
   intro p' c' h3 s3 k3 hp'
   refine ⟨p',1+bs.length,c',rfl,?_⟩
   have hlen:1+bs.length=(UInt8.ofNat (48+k % 10)::bs).length:=by simp; omega
   rw [hlen]
   refine fin _ p' c' h3 rfl ?_ (e2.st k3 (Nat.le_refl _))
   rw [← hlen]
   rw [hs5] at s3
   exact s3
 refine af (fun q=>?_) (fun q=>?_)
 ·have q:=of_decide_eq_true q
  exact step (.inl (by omega))
 ·refine af (fun w=>?_) (fun w=>?_)
  ·have w:bs.length=0:=eV w
   exact step (.inr (List.eq_nil_of_length_eq_zero w))
  ·have w:¬ bs.length=0:=fy w
   refine zV sl (fun e=>w (by rw [e]; rfl)) ?_
   have hsz:(⟨bs.toArray⟩:ByteArray).size=bs.length:=by show bs.toArray.size=_; simp
   refine aA (by rw [hsz]; omega) ?_
   refine ⟨_,rfl,?_,e1⟩
   rw [ByteArray.size_append,hsz]
   show 8+bs.length≤1000
   omega
end Go.Sx.Ob
set_option linter.unusedVariables false
set_option maxRecDepth 100000
namespace Go.Sx
open Go.Proofs
def fR (a:Value) (b:Int) (c:Int):T :=
 T.new [.int .i64 b,.int .i64 c] 33 fun (d:Addr) =>
 T.ae (d.add 1) [.int .i64] fun (e:Int) =>
 cond (e==(0:Int))
 (T.aY Tryz.prog (Sx.bM (BinOp.eql) 29 (Operand.tmp 10) (Operand.const Value.nilIface) a .nilIface) false [(false,[.bool])] fun (f:Bool) =>
 T.ret (.bool f))
 (T.aY Tryz.prog (Instr.typeAssert a 29 59 true) true [(false,[.pointer 63]),(false,[.bool])] fun (f:Option Addr) (g:Bool) =>
 cond g
  (cond (!(/-?Option.isSome.match_1-/ match f with
  | some val=>false
  | none=>true))
  (T.au f fun (h:Addr) =>
  T.ae h [.int .i64] fun (i:Int) =>
  T.ae d [.int .i64] fun (j:Int) =>
  cond (i==j)
   (T.au f fun (k:Addr) =>
   T.ae (k.add 1) [.int .i64] fun (l:Int) =>
   T.ae (d.add 1) [.int .i64] fun (m:Int) =>
   cond (l==m)
   (T.call Tryz.prog 37 [.pointer f] false [(false,[.string])] fun (n:ByteArray) =>
   T.aR [((d.add 1),[.int .i64 m]),((k.add 1),[.int .i64 l]),(d,[.int .i64 j]),(h,[.int .i64 i])] <|
   cond (!((ByteArray.toList n)==[]))
    (T.au f fun (o:Addr) =>
    T.ae (o.add 1) [.int .i64] fun (p:Int) =>
    T.call Tryz.prog 39 [.pointer f] false [(false, [.interface #[("Error", 85)]])] fun (q : Value) =>
    T.aR [((o.add 1),[.int .i64 p]),((d.add 1),[.int .i64 m]),((k.add 1),[.int .i64 l]),(d,[.int .i64 j]),(h,[.int .i64 i])] <|
    T.call Tryz.prog 38 [q,.iface 44 (.int .i64 p)] false [(false,[.bool])] fun (r:Bool) =>
    T.aR [((o.add 1),[.int .i64 p]),((d.add 1),[.int .i64 m]),((k.add 1),[.int .i64 l]),(d,[.int .i64 j]),(h,[.int .i64 i])] <|
    cond r
    (T.ae (d.add 1) [.int .i64] fun (s:Int) =>
    T.call Tryz.prog 40 [a,.iface 44 (.int .i64 s)] false [(false,[.bool])] fun (t:Bool) =>
    T.aR [((d.add 1),[.int .i64 s]),((o.add 1),[.int .i64 p]),((d.add 1),[.int .i64 m]),((k.add 1),[.int .i64 l]),(d,[.int .i64 j]),(h,[.int .i64 i])] <|
    T.ret (.bool t))
    (T.ret (.bool false)))
    (T.ret (.bool false)))
   (T.ret (.bool false)))
   (T.ret (.bool false)))
  (T.ret (.bool false)))
  (T.ret (.bool false)))
theorem jM (a:Value) (b:Int) (c:Int):aX Tryz.prog [] Tryz.f12 [a,.agg #[.int .i64 b,.int .i64 c]]=fR a b c:=by kernel_rfl
end Go.Sx
set_option linter.unusedVariables false
set_option linter.unusedSimpArgs false
set_option maxRecDepth 100000
namespace Go.Sx.Ob
open Go.Proofs
theorem xV {h:Hp} {a:Nat} {x n:Int} (b:aO h a 63 [.int .i64 x,.int .i64 n]):ur Tryz.prog 40 [.iface 59 (ptr a),.iface 44 (.int .i64 n)] h (.bool true):=by
 intro W hW
 subst hW
 refine (Go.Proofs.YtfkjiiapldkoeaaGreatDoor.Fv a n W ?_).mono ?_
 ·rw [dC,b.cell]
  rfl
 ·rintro e w' ⟨he,rfl⟩
  exact ⟨_,he,bR.refl _,rfl,rfl⟩
theorem Es {h:Hp} {a:Nat} {x n:Int} (b:aO h a 63 [.int .i64 x,.int .i64 n]):ur Tryz.prog 39 [ptr a] h (.iface 44 (.int .i64 n)):=by
 refine ec mixed Tryz.func39 (by kernel_rfl) (jK (some ⟨a,0,none⟩)) ?_
 unfold fM
 refine an rfl ?_
 rw [ao]
 refine ad b (n,()) rfl ?_
 exact ⟨rfl,rfl⟩
theorem GO {h:Hp} (p:nK h) {a x n:Nat} (hx:x≤2^60) (hn:n<10^18) (b:aO h a 63 [.int .i64 (x:Int),.int .i64 (n:Int)]):HC Tryz.prog 37 #[ptr a] h fun v h'=>∃ s:ByteArray,v=.string s∧s.data.toList≠[]∧Ext h h':=by
 refine aL (args:=[ptr a]) mixed Tryz.func37 (by kernel_rfl) (ke (some ⟨a,0,none⟩)) ?_
 unfold gl
 refine an rfl ?_
 refine ad b ((x:Int),()) rfl ?_
 dsimp only [flat,aB,ai,nA,cA]
 refine an rfl ?_
 rw [ao]
 refine ad b ((n:Int),()) rfl ?_
 dsimp only [flat,aB,ai,nA,cA]
 refine aC (H2 p x hx) ?_
 rintro _ h1 ⟨s,rfl,hs,e1⟩
 refine ⟨(s,()),rfl,?_⟩
 dsimp only [flat,aB,ai,nA,cA]
 have b1:=b.ah e1 (by simp)
 refine ⟨⟨b1.cells _ rfl,trivial⟩,?_⟩
 have z5:(⟨#[108,105,110,101,32]⟩:ByteArray).size=5:=rfl
 have z2:(⟨#[58,32]⟩:ByteArray).size=2:=rfl
 refine aA (by omega) (aA (by rw [ByteArray.size_append,z5]; omega) ?_)
 refine aC (Fw h1 n hn) ?_
 rintro _ h2 ⟨t,rfl,ht,e2⟩
 refine ⟨(t,()),rfl,?_⟩
 dsimp only [flat,aB,ai,nA,cA]
 refine ⟨⟨(b1.ah e2 (by simp)).cells _ rfl,trivial⟩,?_⟩
 refine aA (by rw [ByteArray.size_append,ByteArray.size_append,z5,z2]; omega) ?_
 refine ⟨_,rfl,?_,e1.trans e2⟩
 intro h0
 have:=congrArg List.length h0
 simp at this
theorem HK (o:Nat) (t:TypeId) (u:Value) (h:Hp) (K:Value→Hp→Prop):aD Tryz.prog (Sx.bM (BinOp.eql) 29 (Operand.tmp o) (Operand.const Value.nilIface) (.iface t u) .nilIface) h K=K (.bool false) h:=by kernel_rfl
theorem J1 (o:Nat) (h:Hp) (K:Value→Hp→Prop):aD Tryz.prog (Sx.bM (BinOp.eql) 29 (Operand.tmp o) (Operand.const Value.nilIface) .nilIface .nilIface) h K=K (.bool true) h:=by kernel_rfl
theorem MA (o:Nat) (t:TypeId) (u:Value) (h:Hp) (K:Value→Hp→Prop):aD Tryz.prog (Sx.bM (BinOp.neq) 29 (Operand.tmp o) (Operand.const Value.nilIface) (.iface t u) .nilIface) h K=K (.bool true) h:=by kernel_rfl
theorem Mq (o:Nat) (h:Hp) (K:Value→Hp→Prop):aD Tryz.prog (Sx.bM (BinOp.neq) 29 (Operand.tmp o) (Operand.const Value.nilIface) .nilIface .nilIface) h K=K (.bool false) h:=by kernel_rfl
theorem Mz (n:Int) (o u:Nat) (h:Hp) (K:Value→Hp→Prop):aD Tryz.prog (Sx.bM (BinOp.eql) 29 (Operand.tmp o) (Operand.tmp u) (.iface 44 (.int .i64 n)) (.iface 44 (.int .i64 n))) h K=K (.bool (n==n)) h:=by kernel_rfl
theorem MU (a:Addr) (h:Hp) (K:Value→Hp→Prop):aD Tryz.prog (Instr.typeAssert (.iface 59 (.pointer (some a))) 29 59 true) h K=K (.tuple #[.pointer (some a),.bool true]) h:=by kernel_rfl
theorem MO (h:Hp) (K:Value→Hp→Prop):aD Tryz.prog (Instr.typeAssert .nilIface 29 59 true) h K=K (.tuple #[.pointer none,.bool false]) h:=by kernel_rfl
theorem CB (h:Hp) (n:Int):ur Tryz.prog 38 [.iface 44 (.int .i64 n),.iface 44 (.int .i64 n)] h (.bool true):=by
 refine ec mixed Tryz.func38 (by kernel_rfl) (jL _ _) ?_
 unfold fT
 refine bw (fun K' hK=>by rw [HK]; exact hK) ?_
 refine bo rfl ?_
 refine bw (fun K' hK=>by rw [HK]; exact hK) ?_
 refine bo rfl ?_
 refine bw (b:=true) (fun K' hK=>by rw [Mz]; simpa using hK) ?_
 exact ⟨rfl,rfl⟩
def qP (a w:Nat) (e:Option (Nat × Nat)):Bool:=if w=0 then decide (e=none) else decide (e=some (a,w))
theorem Co {h:Hp} (p:nK h) {ev:Value} {e:Option (Nat × Nat)} (v:lX h ev e) (hs:∀ q,e=some q→q.1≤2^60∧q.2<10^18) (a w:Nat) :
  HC Tryz.prog 12 #[ev,.agg #[.int .i64 (a:Int),.int .i64 (w:Int)]] h fun r h'=>r=.bool (qP a w e)∧Ext h h':=by
 refine aL (args:=[ev,.agg #[.int .i64 (a:Int),.int .i64 (w:Int)]]) mixed Tryz.func12 (by kernel_rfl) (jM ev a w) ?_
 unfold fR
 refine aW ?_
 intro h1 b1 e1 z1
 rw [ao]
 refine ad b1 ((w:Int),()) rfl ?_
 dsimp only [flat,aB,ai,nA,cA]
 cases e with
 | none =>
  have v:ev=.nilIface:=v
  subst v
  refine af (fun q=>?_) (fun q=>?_)
  ·have q:w=0:=eV q
   refine bw (fun K' hK=>by rw [J1]; exact hK) ?_
   exact ⟨by unfold qP; rw [if_pos q]; rfl,e1⟩
  ·have q:¬ w=0:=fy q
   show aD _ _ _ _
   rw [MO]
   refine ⟨(none,false,()),rfl,?_⟩
   dsimp only [flat,aB,ai,nA,cA]
   refine bo rfl ?_
   exact ⟨by unfold qP; rw [if_neg q]; rfl,e1⟩
 | some er =>
  obtain ⟨ax,rfl,bx⟩:=v
  obtain ⟨hs1,hs2⟩:=hs er rfl
  have bx1:=bx.ah e1 (by simp)
  refine af (fun q=>?_) (fun q=>?_)
  ·have q:w=0:=eV q
   refine bw (fun K' hK=>by rw [HK]; exact hK) ?_
   exact ⟨by unfold qP; rw [if_pos q]; rfl,e1⟩
  have q:¬ w=0:=fy q
  have ww:qP a w (some er)=decide (er=(a,w)):=by
   unfold qP
   rw [if_neg q]
   simp
  show aD _ _ _ _
  rw [MU]
  refine ⟨(some ⟨ax,0,none⟩,true,()),rfl,?_⟩
  dsimp only [flat,aB,ai,nA,cA]
  refine bd rfl ?_
  refine bd rfl ?_
  refine an rfl ?_
  refine ad bx1 ((er.1:Int),()) rfl ?_
  dsimp only [flat,aB,ai,nA,cA]
  refine ad b1 ((a:Int),()) rfl ?_
  dsimp only [flat,aB,ai,nA,cA]
  refine iM (fun r=>?_) (fun r=>?_)
  ·have r:¬ er.1=a:=fy r
   exact ⟨by rw [ww,decide_eq_false (fun e=>r (by rw [e]))],e1⟩
  have r:er.1=a:=eV r
  refine an rfl ?_
  rw [ao]
  refine ad bx1 ((er.2:Int),()) rfl ?_
  dsimp only [flat,aB,ai,nA,cA]
  refine ad b1 ((w:Int),()) rfl ?_
  dsimp only [flat,aB,ai,nA,cA]
  refine iM (fun s=>?_) (fun s=>?_)
  ·have s:¬ er.2=w:=fy s
   exact ⟨by rw [ww,decide_eq_false (fun e=>s (by rw [e]))],e1⟩
  have s:er.2=w:=eV s
  have ok:qP a w (some er)=true:=by
   rw [ww]
   exact decide_eq_true (Prod.ext r s)
  rw [ok]
  have p1:=p.ah e1 (by simp)
  refine aC (GO p1 hs1 hs2 bx1) ?_
  rintro _ h2 ⟨t,rfl,ht,e2⟩
  refine ⟨(t,()),rfl,?_⟩
  dsimp only [flat,aB,ai,nA,cA]
  have b12:=b1.ah e2 (by simp)
  have bx2:=bx1.ah e2 (by simp)
  refine ⟨⟨b12.cells _ rfl,bx2.cells _ rfl,b12.cells _ rfl,bx2.cells _ rfl,trivial⟩,?_⟩
  refine bd (by rw [ByteArray.toList_eq]; simpa using ht) ?_
  refine an rfl ?_
  refine ad bx2 ((er.2:Int),()) rfl ?_
  dsimp only [flat,aB,ai,nA,cA]
  refine iZ (Es bx2) (.iface 44 (.int .i64 (er.2:Int)),()) rfl ?_
  dsimp only [flat,aB,ai,nA,cA]
  refine ⟨⟨bx2.cells _ rfl,b12.cells _ rfl,bx2.cells _ rfl,b12.cells _ rfl,bx2.cells _ rfl,trivial⟩,?_⟩
  refine aE (CB h2 er.2) ?_
  refine ⟨⟨bx2.cells _ rfl,b12.cells _ rfl,bx2.cells _ rfl,b12.cells _ rfl,bx2.cells _ rfl,trivial⟩,?_⟩
  refine bd rfl ?_
  refine ad b12 ((w:Int),()) rfl ?_
  dsimp only [flat,aB,ai,nA,cA]
  rw [s] at bx2
  refine aE (xV bx2) ?_
  refine ⟨⟨b12.cells _ rfl,bx2.cells _ (by rw [s]; rfl),b12.cells _ rfl,bx2.cells _ (by rw [s]; rfl),b12.cells _ rfl,bx2.cells _ rfl,trivial⟩,?_⟩
  exact ⟨rfl,e1.trans e2⟩
structure Fx (h:Hp):Prop where
 tb:nq h
 ld:Laid h
 pw:nK h
 mx:∃ m:Int,aH h ⟨2,0,none⟩ 0 [.int .i64 m]
theorem Fx.ah {h h':Hp} (f:Fx h) (e:Ext h h'):Fx h':=by
 obtain ⟨m,b⟩:=f.mx
 exact ⟨f.tb.ah e (by simp),f.ld.ext e,f.pw.ah e (by simp),m,bt e (by simp) _ _ b⟩
theorem Fx.Ma {h:Hp} (f:Fx h) (s:ByteArray):HC Tryz.prog 10 #[.string s] h (KT s h):=by
 obtain ⟨m,b⟩:=f.mx
 refine J0 s h f.ld f.tb m (fun W hW=>?_)
 subst hW
 rw [dC]
 exact b.1
def yR (s:ByteArray) (n:Nat):ByteArray:=if n<s.size then s.extract 0 n else s
theorem ya (s:ByteArray) (n:Nat):(yR s n).size≤n∧(yR s n).size≤s.size:=by
 unfold yR
 split
 ·rw [ByteArray.size_extract]; omega
 ·omega
theorem FH (s:ByteArray) (n:Nat) (h:Hp):HC Tryz.prog 9 #[.string s,.int .i64 (n:Int)] h fun v h'=>v=.string (yR s n)∧Ext h h':=by
 refine aL (args:=[.string s,.int .i64 (n:Int)]) mixed Tryz.func9 (by kernel_rfl) (mB s n) ?_
 unfold iS
 unfold yR
 refine af (fun q=>?_) (fun q=>?_)
 ·have q:=of_decide_eq_true q
  rw [if_pos (by omega)]
  refine aA ⟨by omega,by omega,by omega⟩ ?_
  exact ⟨by rw [show Int.toNat (n:Int)=n by omega],Ch.refl _ _⟩
 ·have q:=of_decide_eq_false q
  rw [if_neg (by omega)]
  exact ⟨rfl,Ch.refl _ _⟩
theorem lX.aT {h h':Hp} {v:Value} {e:Option (Nat × Nat)} (E:lX h v e) (k:Ext h h'):lX h' v e:=by
 cases e with
 | none=>exact E
 | some e =>
  obtain ⟨a,h1,h2⟩:=E
  exact ⟨a,h1,h2.ah k (by simp)⟩
theorem IM (s:ByteArray) (l w:Nat) (h:Hp) (f:Fx h):HC Tryz.prog 17 #[.string s,.int .i64 (l:Int),.int .i64 (w:Int)] h fun v h'=>v=.bool (qP l w (qZ (df s)))∧Ext h h':=by
 refine aL (args:=[.string s,.int .i64 (l:Int),.int .i64 (w:Int)]) mixed Tryz.func17 (by kernel_rfl) (kW s l w) ?_
 unfold iC
 refine aC (f.Ma s) ?_
 rintro _ h1 ⟨e1,a,b,c,d,ev,rfl,U,E⟩
 refine ⟨((a.p,a.l,a.c),(b.p,b.l,b.c),(c.p,c.l,c.c),(d.p,d.l,d.c),ev,()),rfl,?_⟩
 dsimp only [flat,aB,ai,nA,cA]
 refine aW ?_
 intro h2 b2 e2 z2
 refine ak b2 rfl (by simp) ?_
 intro h3 b3 k3 z3
 have e13:Ext h1 h3:=Ch.trans e2 k3 (fun i hi hl=>by simp at hi; omega)
 have e03:=e1.trans e13
 refine aC (Co (f.ah e03).pw (E.aT e13) (fun q hq=>DE hq) l w) ?_
 rintro _ h4 ⟨rfl,e4⟩
 refine ⟨(qP l w (qZ (df s)),()),rfl,?_⟩
 exact ⟨rfl,e03.trans e4⟩
/-! Spans. -/
def Km (x:bC):Bool:=decide (x.kind=2) && Cn x.inst.op
def mT (l:List bC):Nat:=(l.filter Km).length
theorem Cg (l:List bC) (i:Nat) (hi:i<l.length):mT (l.take (i+1))=mT (l.take i)+if Km l[i]=true then 1 else 0:=by
 unfold mT
 rw [List.take_succ_eq_append_getElem hi,List.filter_append,List.length_append]
 congr 1
 by_cases hk:Km l[i]=true <;> simp [hk]
theorem GS (l:List bC):mT l≤l.length:=List.length_filter_le _ _
theorem En {h:Hp} (t:zA h) {a b c d:bL} {u:ig} (v:fO h a b c d u):HC Tryz.prog 21 #[oD a b c d] h fun w h'=>w=.int .i64 ((if uY u=0 then mT u.text else 0:Nat):Int)∧Ext h h':=by
 refine aL (args:=[oD a b c d]) mixed Tryz.func21 (by kernel_rfl) (tY a.p a.l a.c b.p b.l b.c c.p c.l c.c d.p d.l d.c) ?_
 unfold rn
 refine aW ?_
 intro h1 b1 e1 z1
 have b1:aO h1 h.size 27 [a.v,b.v,c.v,d.v]:=b1
 refine ad b1 ((a.p,a.l,a.c),(b.p,b.l,b.c),(c.p,c.l,c.c),(d.p,d.l,d.c),()) rfl ?_
 dsimp only [flat,aB,ai,nA,cA]
 refine aC (lr (t.ah e1 (by simp)) (v.ah e1)) ?_
 rintro _ h2 ⟨rfl,e2⟩
 refine ⟨((uY u:Int),()),rfl,?_⟩
 dsimp only [flat,aB,ai,nA,cA]
 have e02:=e1.trans e2
 refine af (fun r=>?_) (fun r=>?_)
 ·have r:¬ uY u=0:=by simpa using r
  rw [if_neg r]
  exact ⟨rfl,e02⟩
 have r:uY u=0:=by simpa using r
 rw [if_pos r]
 have b2:=b1.ah e2 (by simp)
 refine ad b2 ((a.p,a.l,a.c),()) rfl ?_
 dsimp only [flat,aB,ai,nA,cA]
 have n:=v.text.len
 have m1:=v.text.many
 refine bm (cs:=[(false,[.int .i64]),(false,[.int .i64])]) (fun y m h'=>∃ i:Nat,y.2.1=(i:Int)∧y.1=(mT (u.text.take i):Int)∧m=u.text.length-i∧i≤u.text.length∧Ext h h') ((0:Int),(0:Int),()) u.text.length rfl
  ⟨0,rfl,rfl,rfl,by omega,e02⟩ ?_
 rintro ⟨n1,n2,⟨⟩⟩ m g ⟨i,hi,hn,rfl,hle,eg⟩
 simp only at hi hn
 subst hi hn
 dsimp only [flat,aB,ai,nA,cA]
 refine af (fun q=>?_) (fun q=>?_)
 ·have q:=of_decide_eq_true q
  have hil:i<u.text.length:=by omega
  obtain ⟨aa,pp,ll,cc,pD,hc,va⟩:=(v.text.ah eg).cells i hil
  have ht:=Cg u.text i hil
  have hsl:mT (u.text.take i)≤i:=by have:=GS (u.text.take i); rw [List.length_take] at this; omega
  generalize u.text[i]=x at hc va ht
  refine aA ⟨by omega,by omega⟩ (an pD ?_)
  rw [show Int.toNat (i:Int)=i by omega]
  refine aG (x.kind,x.name,x.inst.op,x.inst.a,x.inst.b,x.inst.n,x.inst.form,(pp,ll,cc),(x.e.num:Int),x.n,()) hc ?_
  dsimp only [flat,aB,ai,nA,cA]
  refine aW ?_
  intro g1 c1 f1 y1
  refine ak c1 rfl (by simp) ?_
  intro g2 c2 k2 y2
  have c2:aO g2 g.size 96 (encI pp ll cc x):=c2
  have f2:Ext g g2:=Ch.trans f1 k2 (fun i hi hl=>by simp at hi; omega)
  have eg2:=eg.trans f2
  refine ad c2 (x.kind,()) rfl ?_
  dsimp only [flat,aB,ai,nA,cA]
  refine af (fun r=>?_) (fun r=>?_)
  ·have r:x.kind=2:=by simpa using r
   rw [ao]
   refine ad c2 (x.inst.op,()) rfl ?_
   dsimp only [flat,aB,ai,nA,cA]
   refine aC (AG (t.ah eg2 (by simp)) x.inst.op va.op.1 va.op.2) ?_
   rintro _ g3 ⟨rfl,f3⟩
   refine ⟨(Cn x.inst.op,()),rfl,?_⟩
   dsimp only [flat,aB,ai,nA,cA]
   refine af (fun s=>?_) (fun s=>?_)
   ·rw [if_pos (by unfold Km; rw [decide_eq_true r,s]; rfl)] at ht
    refine aM (cs:=[(false,[.int .i64]),(false,[.int .i64])]) (((mT (u.text.take i)+1:Nat):Int),((i+1:Nat):Int),()) (u.text.length-(i+1)) rfl (by omega) (by rw [wrap_i64 (by omega) (by omega),wrap_i64 (by omega) (by omega)]; rfl) ?_
    exact ⟨i+1,rfl,by rw [ht],rfl,by omega,eg2.trans f3⟩
   ·rw [if_neg (by unfold Km; rw [decide_eq_true r,s]; decide)] at ht
    refine aM (cs:=[(false,[.int .i64]),(false,[.int .i64])]) ((mT (u.text.take i):Int),((i+1:Nat):Int),()) (u.text.length-(i+1)) rfl (by omega) (by rw [wrap_i64 (by omega) (by omega)]; rfl) ?_
    exact ⟨i+1,rfl,by rw [ht]; rfl,rfl,by omega,eg2.trans f3⟩
  ·have r:¬ x.kind=2:=by simpa using r
   rw [if_neg (by unfold Km; rw [decide_eq_false r]; simp)] at ht
   refine aM (cs:=[(false,[.int .i64]),(false,[.int .i64])]) ((mT (u.text.take i):Int),((i+1:Nat):Int),()) (u.text.length-(i+1)) rfl (by omega) (by rw [wrap_i64 (by omega) (by omega)]; rfl) ?_
   exact ⟨i+1,rfl,by rw [ht]; rfl,rfl,by omega,eg2⟩
 ·have q:=of_decide_eq_false q
  have:i=u.text.length:=by omega
  subst this
  rw [List.take_length]
  exact ⟨rfl,eg⟩
theorem MZ:qZ (df ⟨#[97,58,32,110,111,112,10,97,58,32,110,111,112]⟩)=some (2,22):=by kernel_rfl
theorem kc:qZ (df ⟨#[103,108,111,98,97,108,32,98,10,110,111,112,101]⟩)=some (2,20):=by kernel_rfl
def s1:ByteArray:=⟨#[97,58,32,106,109,112,32,97]⟩
def s2:ByteArray:=⟨#[115,101,99,116,105,111,110,32,100,97,116,97,10,120,58,32,119,111,114,100,32,121,44,32,51,10,103,108,111,98,97,108,32,120,10,103,108,111,98,97,108,32,120]⟩
def u1:ig:=(sj (df s1)).1
def u2:ig:=(sj (df s2)).1
theorem k1:qZ (df s1)=none:=by kernel_rfl
theorem MM:uY u1=0:=by kernel_rfl
theorem MW:u1.text.length=2:=by kernel_rfl
theorem MY:mT u1.text=1:=by kernel_rfl
theorem MR:(u1.text.map (·.name)).take 1=[⟨#[97]⟩]:=by kernel_rfl
theorem M1:(u1.text.map (·.inst.op)).drop 1=[40]:=by kernel_rfl
theorem k2:qZ (df s2)=none:=by kernel_rfl
theorem k3:df ⟨#[]⟩=.ok oK:=by kernel_rfl
theorem k4:uY ⟨[],[],[],[⟨#[97]⟩]⟩=31:=by kernel_rfl
theorem Hk (a:Addr):a.add 0=a:=by unfold Addr.add; simp
theorem Mo:∃ x y,u1.text=[x,y]∧x.name=⟨#[97]⟩∧y.inst.op=40:=by
 obtain ⟨x,y,h⟩:∃ x y,u1.text=[x,y]:=by
  have hl:=MW
  match hu:u1.text,hl with
  | [x,y],_=>exact ⟨x,y,rfl⟩
 have h1:=MR
 have h2:=M1
 rw [h] at h1 h2
 simp at h1 h2
 exact ⟨x,y,h,h1,h2⟩
theorem Hn (h:Hp) (f:Fx h):HC Tryz.prog 14 #[] h fun v h'=>v=.bool true∧Ext h h':=by
 refine aL (args:=[]) mixed Tryz.func14 (by kernel_rfl) kP ?_
 unfold gX
 refine aC (f.Ma s1) ?_
 rintro _ h1 ⟨e1,a,b,c,d,ev,rfl,U,E⟩
 rw [k1] at E
 have E:ev=.nilIface:=E
 subst E
 refine ⟨((a.p,a.l,a.c),(b.p,b.l,b.c),(c.p,c.l,c.c),(d.p,d.l,d.c),.nilIface,()),rfl,?_⟩
 dsimp only [flat,aB,ai,nA,cA]
 refine aW ?_
 intro h2 b2 e2 z2
 refine ak b2 rfl (by simp) ?_
 intro h3 b3 k3 z3
 have b3:aO h3 h1.size 27 [a.v,b.v,c.v,d.v]:=b3
 have e13:Ext h1 h3:=Ch.trans e2 k3 (fun i hi hl=>by simp at hi; omega)
 have e03:=e1.trans e13
 have v:fO h3 a b c d u1:=(U.at (FY (by decide))).ah e13
 obtain ⟨x,y,hxy,hx,hy⟩:=Mo
 have hl:=v.text.len
 have cx:=v.text.cells 0 (by rw [hxy]; simp)
 have cy:=v.text.cells 1 (by rw [hxy]; simp)
 obtain ⟨aa,q,m,cc,ha,hcx,-⟩:=cx
 obtain ⟨ab,q',m',cc',hb,hcy,-⟩:=cy
 rw [ha] at hb
 cases hb
 simp only [hxy,List.getElem_cons_zero,List.getElem_cons_succ,Nat.zero_mul,Nat.one_mul,Hk] at hcx hcy
 rw [hxy] at hl
 have hl:a.l=2:=hl
 refine bw (fun K' hK=>by rw [J1]; exact hK) ?_
 refine bd rfl ?_
 refine ad b3 ((a.p,a.l,a.c),()) rfl ?_
 dsimp only [flat,aB,ai,nA,cA]
 refine bd (by rw [hl]; rfl) ?_
 refine ad b3 ((a.p,a.l,a.c),()) rfl ?_
 dsimp only [flat,aB,ai,nA,cA]
 refine aA ⟨by omega,by omega⟩ (an ha ?_)
 refine aG (x.name,()) ⟨hcx.2.1,trivial⟩ ?_
 dsimp only [flat,aB,ai,nA,cA]
 refine bd (by rw [hx,ByteArray.toList_eq]; rfl) ?_
 refine ad b3 ((a.p,a.l,a.c),()) rfl ?_
 dsimp only [flat,aB,ai,nA,cA]
 refine aA ⟨by omega,by omega⟩ (an ha ?_)
 refine aG (y.inst.op,()) ⟨by rw [add_add]; exact hcy.2.2.1,trivial⟩ ?_
 dsimp only [flat,aB,ai,nA,cA]
 refine bd (by rw [hy]; rfl) ?_
 refine ad b3 ((a.p,a.l,a.c),(b.p,b.l,b.c),(c.p,c.l,c.c),(d.p,d.l,d.c),()) rfl ?_
 dsimp only [flat,aB,ai,nA,cA]
 refine aC (En (f.ah e03).tb.LG v) ?_
 rintro _ h4 ⟨rfl,e4⟩
 rw [MM,MY,if_pos rfl]
 refine ⟨(((1:Nat):Int),()),rfl,?_⟩
 dsimp only [flat,aB,ai,nA,cA]
 refine bd rfl ?_
 have b4:=b3.ah e4 (by simp)
 refine ad b4 ((a.p,a.l,a.c),(b.p,b.l,b.c),(c.p,c.l,c.c),(d.p,d.l,d.c),()) rfl ?_
 dsimp only [flat,aB,ai,nA,cA]
 refine aC (lr (f.ah (e03.trans e4)).tb.LG (v.ah e4)) ?_
 rintro _ h5 ⟨rfl,e5⟩
 rw [MM]
 refine ⟨(((0:Nat):Int),()),rfl,?_⟩
 dsimp only [flat,aB,ai,nA,cA]
 refine bd rfl ?_
 have e05:=(e03.trans e4).trans e5
 refine aC (IM _ 2 22 _ (f.ah e05)) ?_
 rintro _ h6 ⟨rfl,e6⟩
 rw [MZ]
 refine ⟨(true,()),rfl,?_⟩
 exact ⟨rfl,e05.trans e6⟩
end Go.Sx.Ob
