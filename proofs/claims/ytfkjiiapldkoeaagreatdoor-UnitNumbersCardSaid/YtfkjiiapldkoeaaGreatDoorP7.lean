/- Contracts over heaps, and plain laws, for the functions that the laws of chapter 9 call, part 7: A line is put into a unit that is being assembled, over heaps: the walk. A line  Condition: as each statement says. -/
import Derived.Test.YtfkjiiapldkoeaaGreatDoorP6
import Derived.Test.YtfkjiiapldkoeaaGreatDoorAtM
import Derived.Test.YtfkjiiapldkoeaaGreatDoorAtS
import Derived.RangeFuncWrites
import Derived.LaidEql
import Derived.Stop.Asserts
import Derived.RowKitTokens
set_option linter.unusedVariables false
set_option linter.unusedSimpArgs false
set_option maxRecDepth 100000
namespace Go.Sx.Ob
open Go.Proofs
def equN (t:Thg):ByteArray:=if t.kind=3 then t.name else nam0
theorem dup_1 {w:Wld} {lb:ByteArray} {t:Thg} (h:lb≠nam0) (hi:inN w.names lb=true):dupW w lb t:=.inl ⟨h,hi⟩
theorem dup_2 {w:Wld} {lb:ByteArray} {t:Thg} (h:lb≠nam0) (hi:lb=equN t):dupW w lb t:=by
 unfold equN at hi
 split at hi
 ·rename_i k
  exact .inr ⟨k,.inr hi.symm⟩
 ·exact absurd hi h
theorem dup_3 {w:Wld} (W:WOk w) {lb:ByteArray} {t:Thg} (ok:t.kind=3→legalL t.name.data.toList=true) (h:¬ (lb≠nam0∧(inN w.names lb=true∨lb=equN t))):inN w.names (equN t)=decide (dupW w lb t):=by
 by_cases k:t.kind=3
 ·have he:equN t=t.name:=if_pos k
  rw [he] at h ⊢
  cases hi:inN w.names t.name with
  | true=>exact (decide_eq_true (.inr ⟨k,.inl hi⟩)).symm
  | false =>
   refine (decide_eq_false ?_).symm
   rintro (⟨h1,h2⟩ | ⟨_,h1 | h1⟩)
   ·exact h ⟨h1,.inl h2⟩
   ·rw [hi] at h1; cases h1
   ·exact h ⟨fun e=>legal_ne (ok k) (h1.trans e),.inr h1.symm⟩
 ·have he:equN t=nam0:=if_neg k
  rw [he] at h ⊢
  rw [W.noz]
  refine (decide_eq_false ?_).symm
  rintro (⟨h1,h2⟩ | ⟨h1,_⟩)
  ·exact h ⟨h1,.inl h2⟩
  ·exact k h1
def labW (w:Wld) (lb:ByteArray):Wld:=if lb=nam0 then w else addW { w with names:=w.names++[lb] } [labI lb]
theorem labW_sec (w:Wld) (lb:ByteArray):(labW w lb).sec=w.sec:=by unfold labW addW; split <;> rfl
theorem labW_equs (w:Wld) (lb:ByteArray):(labW w lb).equs=w.equs:=by unfold labW addW; split <;> rfl
theorem labW_globs (w:Wld) (lb:ByteArray):(labW w lb).globs=w.globs:=by unfold labW addW; split <;> rfl
theorem labW_len (w:Wld) (lb:ByteArray):(labW w lb).text.length+(labW w lb).data.length≤w.text.length+w.data.length+1:=by
 unfold labW
 split
 ·omega
 ·rw [addW_len]; simp
theorem putW_eq (w:Wld) (n:Nat) (lb:ByteArray) (t:Thg):putW w n lb t={ text:=(addW (labW w lb) t.items).text,data:=(addW (labW w lb) t.items).data,equs:=if t.kind=3 then (labW w lb).equs++[(t.name,t.e)] else (labW w lb).equs,names:=if t.kind=3 then (labW w lb).names++[t.name] else (labW w lb).names,globs:=if t.kind=4 then (labW w lb).globs++[(t.name,n)] else (labW w lb).globs,sec:=if t.kind=5 then t.sec else (labW w lb).sec }:=by
 unfold putW labW addW itsW
 by_cases h:lb=nam0
 ·simp only [if_pos h,List.nil_append,List.append_nil]
 ·by_cases s:w.sec=0
  ·simp [if_neg h,s,List.append_assoc]
  ·simp [if_neg h,s,List.append_assoc]
theorem its_len (lb:ByteArray) (t:Thg):(itsW lb t).length=t.items.length+(if lb=nam0 then 0 else 1):=by
 unfold itsW
 rw [List.length_append]
 split <;> simp <;> omega
structure LnS (qq:Nat→Prop) (h0 h:Hp) (b A gm x y:Nat) (w:Wld) (lb opn:ByteArray) (pA:Option Addr) (lA cA:Nat) (tg:Thg) (t d e q sl se:Sli) (ut ud us:List (Sli × Itm)) (ue:List (Sli × Eqn)) (ow:Nat→Nat):Prop where
 a:AsmAt h b A gm w t d e q ut ud ue ow
 bx:Box h x 130 [.string lb,.string opn,.slice pA lA cA]
 by_:Box h y 134 (thgC tg.kind sl.p sl.l sl.c tg.name se.p se.l se.c tg.e.num tg.sec)
 o:ThgO h b tg sl us se ow
 ox:ow x=9
 oy:ow y=9
 ab:Ab b qq ow h0 h
theorem LnS.size {qq:Nat→Prop} {h0 h:Hp} {b A gm x y:Nat} {w:Wld} {lb opn:ByteArray} {pA:Option Addr} {lA cA:Nat} {tg:Thg} {t d e q sl se:Sli} {ut ud us:List (Sli × Itm)} {ue:List (Sli × Eqn)} {ow:Nat→Nat} (s:LnS qq h0 h b A gm x y w lb opn pA lA cA tg t d e q sl se ut ud us ue ow) (hb:b≤h0.size):b≤h.size:=Nat.le_trans hb s.ab.size
theorem bne_nam {s:ByteArray}:(!(ByteArray.toList s==[]))=true↔s≠nam0:=by
 rw [ByteArray.toList_eq]
 constructor
 ·intro h e
  subst e
  simp [nam0] at h
 ·intro h
  simp only [Bool.not_eq_true',beq_eq_false_iff_ne,ne_eq]
  intro e
  exact h (ba_ext e)
theorem beq_ba {s u:ByteArray}:(ByteArray.toList s==ByteArray.toList u)=true↔s=u:=by
 rw [ByteArray.toList_eq,ByteArray.toList_eq,beq_iff_eq]
 exact ⟨fun h=>ba_ext h,fun h=>by rw [h]⟩
set_option maxHeartbeats 4000000 in
theorem lineTail_of {qq:Nat→Prop} {h h1:Hp} {b A gm x y:Nat} {w:Wld} {t d e q sl se:Sli} {ut ud us:List (Sli × Itm)} {ue:List (Sli × Eqn)} {ow:Nat→Nat} {n:Nat} {lb opn:ByteArray} {pA:Option Addr} {lA cA:Nat} {tg:Thg}
  (hb:b≤h.size) (ext:Ext h h1) (W:WOk w) (hE:w.equs.length≤2^20) (hG:w.globs.length≤2^20) (hn:n≤2^20)
  (s:LnS qq h h1 b A gm x y w lb opn pA lA cA tg t d e q sl se ut ud us ue ow) (hlab:lb≠nam0→legalL lb.data.toList=true) (ok:ThgOk tg (decide (w.sec=1))) (sz:tg.items.length≤2^20) :
  lineTail (some ⟨A,0,none⟩) n ⟨x,0,none⟩ ⟨y,0,none⟩ 0 [] (lineQ b A gm qq h (tailR_ w n lb (.ok tg))) h1:=by
 unfold lineTail
 have hsec:=W.sec
 have hmany:=W.many
 have okn:tg.kind=3→legalL tg.name.data.toList=true:=fun k=>ok.name (.inl k)
 have hul:us.length=tg.items.length:=map_len s.o.eq
 have hsl:sl.l=tg.items.length:=by rw [s.o.its.1,List.length_map,hul]
 refine cond_f rfl ?_
 refine join_of (cs:=[(false,[.string])]) (fun z h'=>h'=h1∧z.1=equN tg) ?_ ?_
 ·refine loads_box s.by_ ((tg.kind:Int),()) rfl ?_
  dsimp only [flat,unc,unc1,List.nil_append,List.cons_append]
  refine cond_mk (fun r=>?_) (fun r=>?_)
  ·have r:tg.kind=3:=by have:=eq_of_beq r; omega
   rw [add_box]
   refine loads_box s.by_ (tg.name,()) rfl ?_
   dsimp only [flat,unc,unc1,List.nil_append,List.cons_append]
   exact meet_mk (cs:=[(false,[.string])]) (tg.name,()) rfl rfl ⟨rfl,(if_pos r).symm⟩
  ·have r:¬ tg.kind=3:=fun e=>by rw [e] at r; simp at r
   exact meet_mk (cs:=[(false,[.string])]) (nam0,()) rfl rfl ⟨rfl,(if_neg r).symm⟩
 rintro ⟨s31,⟨⟩⟩ h2 ⟨e2,hs31⟩
 simp only at hs31
 have e2:=e2.symm
 subst e2
 subst hs31
 dsimp only [flat,unc,unc1,List.nil_append,List.cons_append]
 refine join_of (cs:=[(false,[.bool])]) (fun z h'=>h'=h1∧z.1=decide (dupW w lb tg)) ?_ ?_
 ·refine loads_box s.bx (lb,()) rfl ?_
  dsimp only [flat,unc,unc1,List.nil_append,List.cons_append]
  refine cond_mk (fun r=>?_) (fun r=>?_)
  ·have r:=bne_nam.1 r
   refine osome_mk rfl ?_
   rw [add_box]
   refine loads_box s.a.box (some gm,()) rfl ?_
   dsimp only [flat,unc,unc1,List.nil_append,List.cons_append]
   refine loads_box s.bx (lb,()) rfl ?_
   dsimp only [flat,unc,unc1,List.nil_append,List.cons_append]
   refine lookS s.a.names lb ?_
   refine ⟨⟨s.bx.cells _ rfl,trivial⟩,?_⟩
   refine cond_mk (fun q1=>?_) (fun q1=>?_)
   ·exact meet_mk (cs:=[(false,[.bool])]) (true,()) rfl rfl ⟨rfl,(decide_eq_true (dup_1 r q1)).symm⟩
   refine loads_box s.bx (lb,()) rfl ?_
   dsimp only [flat,unc,unc1,List.nil_append,List.cons_append]
   refine cond_mk (fun q2=>?_) (fun q2=>?_)
   ·exact meet_mk (cs:=[(false,[.bool])]) (true,()) rfl rfl ⟨rfl,(decide_eq_true (dup_2 r (beq_ba.1 q2))).symm⟩
   refine osome_mk rfl ?_
   refine loads_box s.a.box (some gm,()) rfl ?_
   dsimp only [flat,unc,unc1,List.nil_append,List.cons_append]
   refine lookS s.a.names (equN tg) ?_
   refine ⟨⟨s.bx.cells _ rfl,s.bx.cells _ rfl,s.a.box.cells _ rfl,s.bx.cells _ rfl,trivial⟩,?_⟩
   refine meet_mk (cs:=[(false,[.bool])]) (inN w.names (equN tg),()) rfl rfl ⟨rfl,dup_3 W okn ?_⟩
   rintro ⟨_,k | k⟩
   ·rw [k] at q1; cases q1
   ·rw [beq_ba.2 k] at q2; cases q2
  ·have r:lb=nam0:=by
    by_cases e:lb=nam0
    ·exact e
    ·rw [bne_nam.2 e] at r; cases r
   refine osome_mk rfl ?_
   rw [add_box]
   refine loads_box s.a.box (some gm,()) rfl ?_
   dsimp only [flat,unc,unc1,List.nil_append,List.cons_append]
   refine lookS s.a.names (equN tg) ?_
   refine ⟨⟨s.bx.cells _ rfl,trivial⟩,?_⟩
   exact meet_mk (cs:=[(false,[.bool])]) (inN w.names (equN tg),()) rfl rfl ⟨rfl,dup_3 W okn fun k=>k.1 r⟩
 rintro ⟨b32,⟨⟩⟩ h2 ⟨e2,hb32⟩
 simp only at hb32
 have e2:=e2.symm
 subst e2
 subst hb32
 dsimp only [flat,unc,unc1,List.nil_append,List.cons_append]
 refine cond_mk (fun r=>?_) (fun r=>?_)
 ·have r:=of_decide_eq_true r
  unfold tailR_
  simp only
  rw [if_pos r]
  exact ⟨rfl,by decide,ext⟩
 have nd:=of_decide_eq_false r
 rw [add_box]
 refine loads_box s.by_ ((sl.p,sl.l,sl.c),()) rfl ?_
 dsimp only [flat,unc,unc1,List.nil_append,List.cons_append]
 have hil:=its_len lb tg
 refine join_of (cs:=[(false,[.int .i64])]) (fun z h'=>h'=h1∧z.1=((itsW lb tg).length:Int)) ?_ ?_
 ·refine loads_box s.bx (lb,()) rfl ?_
  dsimp only [flat,unc,unc1,List.nil_append,List.cons_append]
  refine cond_mk (fun r=>?_) (fun r=>?_)
  ·have r:=bne_nam.1 r
   rw [if_neg r] at hil
   exact meet_mk (cs:=[(false,[.int .i64])]) (((itsW lb tg).length:Int),()) rfl (by rw [wrap_i64 (by omega) (by omega),show ((sl.l:Int)+1)=((itsW lb tg).length:Int) by omega]; rfl) ⟨rfl,rfl⟩
  ·have r:lb=nam0:=by
    by_cases e:lb=nam0
    ·exact e
    ·rw [bne_nam.2 e] at r; cases r
   rw [if_pos r] at hil
   exact meet_mk (cs:=[(false,[.int .i64])]) (((itsW lb tg).length:Int),()) rfl (by rw [show (sl.l:Int)=((itsW lb tg).length:Int) by omega]; rfl) ⟨rfl,rfl⟩
 rintro ⟨n36,⟨⟩⟩ h2 ⟨e2,hn36⟩
 simp only at hn36
 have e2:=e2.symm
 subst e2
 subst hn36
 dsimp only [flat,unc,unc1,List.nil_append,List.cons_append]
 refine osome_mk rfl ?_
 rw [add_box]
 refine loads_box s.a.box (((w.text.length+w.data.length:Nat):Int),()) rfl ?_
 dsimp only [flat,unc,unc1,List.nil_append,List.cons_append]
 have hi1:(itsW lb tg).length≤2^20+1:=by rw [hil]; split <;> omega
 rw [wrap_i64 (by omega) (by omega)]
 refine cond_mk (fun r=>?_) (fun r=>?_)
 ·have r:=of_decide_eq_true r
  unfold tailR_
  simp only
  rw [if_neg nd,if_pos (by omega)]
  exact ⟨rfl,by decide,ext⟩
 have nm:=of_decide_eq_false r
 have hres:tailR_ w n lb (.ok tg)=.ok (putW w n lb tg):=by
  unfold tailR_
  simp only
  rw [if_neg nd,if_neg (by omega)]
 rw [hres]
 refine join_of (cs:=[]) (fun _ h'=>∃ t d ut ud ow,LnS qq h h' b A gm x y (labW w lb) lb opn pA lA cA tg t d e q sl se ut ud us ue ow) ?_ ?_
 ·refine loads_box s.bx (lb,()) rfl ?_
  dsimp only [flat,unc,unc1,List.nil_append,List.cons_append]
  refine cond_mk (fun r=>?_) (fun r=>?_)
  ·have r:=bne_nam.1 r
   have hlw:labW w lb=addW { w with names:=w.names++[lb] } [labI lb]:=if_neg r
   refine osome_mk rfl ?_
   rw [add_box]
   refine loads_box s.a.box (some gm,()) rfl ?_
   dsimp only [flat,unc,unc1,List.nil_append,List.cons_append]
   refine loads_box s.bx (lb,()) rfl ?_
   dsimp only [flat,unc,unc1,List.nil_append,List.cons_append]
   refine putS s.a.names (by have:=legal_len (hlab r); unfold maxLen; omega) ?_
   intro h3 m3 k3 z3
   have og:=s.a.og
   have w3:∀ i,i∈[gm]→i<h1.size→b≤i→ow i=7:=fun i hi _ _=>by have hi:=List.mem_singleton.1 hi; subst hi; exact og
   have nA:A∉[gm]:=fun hm=>by have hm:=List.mem_singleton.1 hm; have:=s.a.oA; rw [hm] at this; omega
   have nx:x∉[gm]:=fun hm=>by have hm:=List.mem_singleton.1 hm; have:=s.ox; rw [hm] at this; omega
   have ny:y∉[gm]:=fun hm=>by have hm:=List.mem_singleton.1 hm; have:=s.oy; rw [hm] at this; omega
   have a3:AsmAt h3 b A gm { w with names:=w.names++[lb] } t d e q ut ud ue ow :=
    ⟨s.a.core.keep k3 (fun i h1 h2 h3=>by have:=w3 i h1 h2 h3; omega),s.a.box.keep k3 nA,m3.congr (inN_snoc w.names lb),SL.keepL s.a.globs k3 s.a.oq (fun i h1 h2 h3=>by have:=w3 i h1 h2 h3; omega),s.a.oA,s.a.og,s.a.oq,s.a.bA,s.a.bg⟩
   have bx3:=s.bx.keep k3 nx
   have by3:=s.by_.keep k3 ny
   have o3:=s.o.keep k3 (fun i h1 h2 h3=>by have:=w3 i h1 h2 h3; omega)
   have ab3:Ab b qq ow h h3:=s.ab.step k3 (fun i hi _=>by have hi:=List.mem_singleton.1 hi; subst hi; exact ⟨s.a.bg,by omega⟩) (fun _ _=>rfl)
   refine osome_mk rfl ?_
   rw [add_box]
   refine loads_box a3.box ((w.sec:Int),()) rfl ?_
   dsimp only [flat,unc,unc1,List.nil_append,List.cons_append]
   refine loads_box bx3 (lb,()) rfl ?_
   dsimp only [flat,unc,unc1,List.nil_append,List.cons_append]
   refine lit1_of (p:=none) (l:=0) (c:=0) (x:=labI lb) ?_
   intro h4 s4 e4 z4
   have rl:∀ i,i<h3.size→lab h3.size 9 ow i=ow i:=fun i hi=>lab_old hi
   have a4:=(a3.relabel rl).keep e4 (by simp)
   have bx4:=bx3.keep e4 (by simp)
   have by4:=by3.keep e4 (by simp)
   have o4:=(o3.relabel rl).keep e4 (by simp)
   have ab4:=ab3.ext_step e4 rl
   have ox4:=(rl x bx3.lt).trans s.ox
   have oy4:=(rl y by3.lt).trans s.oy
   have sz4:=e4.size
   have zb3:=ab3.size
   refine ⟨⟨bx4.cells _ rfl,a4.box.cells _ rfl,trivial⟩,?_⟩
   refine call_of (put_hc a4 (by omega) hsec (s:=⟨some ⟨h3.size,0,none⟩,1,1⟩) (us:=[(⟨none,0,0⟩,labI lb)]) s4 (fun u hu=>by have hu:=List.mem_singleton.1 hu; subst hu; exact SL.nil _ _ _ _) (fun u hu i hi=>by have hu:=List.mem_singleton.1 hu; subst hu; simp [blkOf] at hi) (by show w.text.length+w.data.length+1≤_; omega)) ?_
   rintro _ h5 ⟨rfl,t',d',ut',ud',ow',a5,ho5,ws,k5,hw5⟩
   refine ⟨(),rfl,?_⟩
   dsimp only [flat,unc,unc1,List.nil_append,List.cons_append]
   have nx5:x∉ws:=fun hm=>by have:=(hw5 x hm bx4.lt).2; omega
   have ny5:y∉ws:=fun hm=>by have:=(hw5 y hm by4.lt).2; omega
   have bx5:=bx4.keep k5 nx5
   refine ⟨⟨bx5.cells _ rfl,trivial⟩,?_⟩
   refine meet_mk (cs:=[]) () rfl rfl ⟨t',d',ut',ud',ow',?_,bx5,by4.keep k5 ny5,o4.turn k5 (fun i h1 h2 _=>by have:=(hw5 i h1 h2).2; omega) ho5,(ho5 x bx4.lt).trans ox4,(ho5 y by4.lt).trans oy4,ab4.step k5 (fun i h1 h2=>⟨(hw5 i h1 h2).1,by have:=(hw5 i h1 h2).2; omega⟩) ho5⟩
   rw [hlw]
   exact a5
  ·have r:lb=nam0:=by
    by_cases e:lb=nam0
    ·exact e
    ·rw [bne_nam.2 e] at r; cases r
   have hlw:labW w lb=w:=if_pos r
   exact meet_mk (cs:=[]) () rfl rfl ⟨t,d,ut,ud,ow,by rw [hlw]; exact s⟩
 rintro ⟨⟩ h3 ⟨t,d,ut,ud,ow,s3⟩
 dsimp only [flat,unc,unc1,List.nil_append,List.cons_append]
 have hb3:=s3.size hb
 have hs3:=labW_sec w lb
 have hl3:=labW_len w lb
 have he3:=labW_equs w lb
 have hg3:=labW_globs w lb
 refine osome_mk rfl ?_
 rw [add_box]
 refine loads_box s3.a.box (((labW w lb).sec:Int),()) rfl ?_
 dsimp only [flat,unc,unc1,List.nil_append,List.cons_append]
 refine loads_box s3.by_ ((sl.p,sl.l,sl.c),()) rfl ?_
 dsimp only [flat,unc,unc1,List.nil_append,List.cons_append]
 refine call_of (put_hc s3.a hb3 (by omega) s3.o.its s3.o.own s3.o.ou (by omega)) ?_
 rintro _ h4 ⟨rfl,t',d',ut',ud',ow',a4,ho4,ws,k4,hw4⟩
 refine ⟨(),rfl,?_⟩
 dsimp only [flat,unc,unc1,List.nil_append,List.cons_append]
 rw [s3.o.eq] at a4
 have ny4:y∉ws:=fun hm=>by have:=(hw4 y hm s3.by_.lt).2; have:=s3.oy; omega
 have by4:=s3.by_.keep k4 ny4
 have oy4:ow' y=9:=(ho4 y s3.by_.lt).trans s3.oy
 have E4:SL h4 b 109 2 se.p se.l se.c (tg.e.terms.map encT):=SL.keepL s3.o.e k4 s3.o.oe (fun i h1 h2 _=>by have:=(hw4 i h1 h2).2; omega)
 have oe4:∀ i,i∈blkOf se.p→ow' i=0:=fun i hi=>(ho4 i (Sx.SL.blk s3.o.e hi).2).trans (s3.o.oe i hi)
 have ab4:=s3.ab.step k4 (fun i h1 h2=>⟨(hw4 i h1 h2).1,by have:=(hw4 i h1 h2).2; omega⟩) ho4
 have hb4:b≤h4.size:=Nat.le_trans hb ab4.size
 have el4:=a4.el
 have ql4:=a4.ql
 have ee4:(addW (labW w lb) tg.items).equs=w.equs:=he3
 have gg4:(addW (labW w lb) tg.items).globs=w.globs:=hg3
 rw [ee4] at el4
 rw [gg4] at ql4
 clear s3 k4 hw4 ho4 s
 refine join_of (cs:=[]) (fun _ h'=>∃ t d e q ut ud ue ow,AsmAt h' b A gm (putW w n lb tg) t d e q ut ud ue ow∧Ab b qq ow h h') ?_ ?_
 ·refine loads_box by4 ((tg.kind:Int),()) rfl ?_
  dsimp only [flat,unc,unc1,List.nil_append,List.cons_append]
  refine cond_mk (fun r=>?_) (fun r=>?_)
  ·have r:tg.kind=3:=by have:=eq_of_beq r; omega
   have heq:equN tg=tg.name:=if_pos r
   rw [heq]
   refine osome_mk rfl ?_
   rw [add_box]
   refine loads_box a4.box (some gm,()) rfl ?_
   dsimp only [flat,unc,unc1,List.nil_append,List.cons_append]
   refine putS a4.names (by have:=legal_len (okn r); unfold maxLen; omega) ?_
   intro h5 m5 k5 z5
   have og:=a4.og
   have w5:∀ i,i∈[gm]→i<h4.size→b≤i→ow' i=7:=fun i hi _ _=>by have hi:=List.mem_singleton.1 hi; subst hi; exact og
   have nA:A∉[gm]:=fun hm=>by have hm:=List.mem_singleton.1 hm; have:=a4.oA; rw [hm] at this; omega
   have ny:y∉[gm]:=fun hm=>by have hm:=List.mem_singleton.1 hm; rw [hm] at oy4; omega
   have C5:=a4.core.keep k5 (fun i h1 h2 h3=>by have:=w5 i h1 h2 h3; omega)
   have B5:=a4.box.keep k5 nA
   have M5:SetB h5 gm ((labW w lb).names++[tg.name]):=m5.congr (inN_snoc _ _)
   have G5:=SL.keepL a4.globs k5 a4.oq (fun i h1 h2 h3=>by have:=w5 i h1 h2 h3; omega)
   have by5:=by4.keep k5 ny
   have E5:=SL.keepL E4 k5 oe4 (fun i h1 h2 h3=>by have:=w5 i h1 h2 h3; omega)
   have ab5:Ab b qq ow' h h5:=ab4.step k5 (fun i hi _=>by have hi:=List.mem_singleton.1 hi; subst hi; exact ⟨a4.bg,by omega⟩) (fun _ _=>rfl)
   have hb5:b≤h5.size:=Nat.le_trans hb ab5.size
   refine osome_mk rfl ?_
   rw [add_box]
   refine loads_box B5 ((e.p,e.l,e.c),()) rfl ?_
   dsimp only [flat,unc,unc1,List.nil_append,List.cons_append]
   rw [add_box]
   refine loads_box by5 (tg.name,()) rfl ?_
   dsimp only [flat,unc,unc1,List.nil_append,List.cons_append]
   rw [add_box]
   refine loads_box by5 ((se.p,se.l,se.c),(tg.e.num:Int),()) rfl ?_
   dsimp only [flat,unc,unc1,List.nil_append,List.cons_append]
   refine C5.putE (s:=se) (x:=(tg.name,tg.e)) hb5 E5 oe4 (by omega) (fun h' x=>⟨(by5.keep x (by simp)).cells _ rfl,(by5.keep x (by simp)).cells _ rfl,(B5.keep x (by simp)).cells _ rfl,trivial⟩) ?_
   intro e' h6 C6 k6 l6
   have w6:∀ i,i∈blkOf e.p→ow' i=5:=C5.o5
   have nA6:A∉blkOf e.p:=fun hm=>by have:=w6 A hm; have:=a4.oA; omega
   have ny6:y∉blkOf e.p:=fun hm=>by have:=w6 y hm; omega
   have ng6:gm∉blkOf e.p:=fun hm=>by have:=w6 gm hm; omega
   have by6:=by5.keep k6 ny6
   have rl:∀ i,i<h5.size→lab h5.size 5 ow' i=ow' i:=fun i hi=>lab_old hi
   refine ⟨⟨by6.cells _ rfl,by6.cells _ rfl,trivial⟩,?_⟩
   refine osome_mk rfl ?_
   rw [add_box]
   refine stores_of (B5.keep k6 nA6) rfl (by simp [asmC]) ?_
   intro h7 b7 k7 z7
   have oA7:lab h5.size 5 ow' A=6:=(rl A B5.lt).trans a4.oA
   have og7:lab h5.size 5 ow' gm=7:=(rl gm M5.lt).trans og
   have oq7:∀ i,i∈blkOf q.p→lab h5.size 5 ow' i=8:=fun i hi=>(rl i (Sx.SL.blk G5 hi).2).trans (a4.oq i hi)
   have w7:∀ i,i∈[A]→lab h5.size 5 ow' i=6:=fun i hi=>by have hi:=List.mem_singleton.1 hi; subst hi; exact oA7
   have ng7:gm∉[A]:=fun hm=>by have:=w7 gm hm; omega
   refine meet_mk (cs:=[]) () rfl rfl ⟨t',d',e',q,ut',ud',ue++[(se,(tg.name,tg.e))],lab h5.size 5 ow',?_,(ab5.step k6 (fun i hi _=>⟨(Sx.SL.blk C5.e1 hi).1,by have:=w6 i hi; omega⟩) rl).step k7 (fun i hi _=>⟨by have hi:=List.mem_singleton.1 hi; subst hi; exact a4.bA,by have:=w7 i hi; omega⟩) (fun _ _=>rfl)⟩
   rw [putW_eq,if_pos r,if_pos r,if_neg (by omega),if_neg (by omega)]
   have b7:Box h7 A 73 (asmC t' d' ⟨e'.p,e'.l,e'.c⟩ ((labW w lb).sec:Int) (((addW (labW w lb) tg.items).text.length+(addW (labW w lb) tg.items).data.length:Nat):Int) gm q):=b7
   refine ⟨C6.keep k7 (fun i hi _ _=>by have:=w7 i hi; omega),b7,(M5.keep k6 ng6).keep k7 ng7,?_,oA7,og7,oq7,a4.bA,a4.bg⟩
   refine Sx.SL.keep' (Sx.SL.keep' G5 k6 (fun i hi hm=>?_)) k7 (fun i hi hm=>?_)
   ·have:=w6 i hm; have:=a4.oq i hi; omega
   ·have:=w7 i hm; have:=oq7 i hi; omega
  have r3:¬ tg.kind=3:=fun e=>by rw [e] at r; simp at r
  refine cond_mk (fun r=>?_) (fun r=>?_)
  ·have r:tg.kind=4:=by have:=eq_of_beq r; omega
   refine osome_mk rfl ?_
   rw [add_box]
   refine loads_box a4.box ((q.p,q.l,q.c),()) rfl ?_
   dsimp only [flat,unc,unc1,List.nil_append,List.cons_append]
   rw [add_box]
   refine loads_box by4 (tg.name,()) rfl ?_
   dsimp only [flat,unc,unc1,List.nil_append,List.cons_append]
   refine push_st (z:=.agg #[.string ⟨#[]⟩,.int .i64 (0:Int)]) undG infG rfl (by omega) (by omega) (fillG tg.name n) rfl rfl a4.globs hb4 (by omega) (by omega) (fun h' x=>⟨(by4.keep x (by simp)).cells _ rfl,(a4.box.keep x (by simp)).cells _ rfl,trivial⟩) ?_
   intro p' c' h5 s5 k5 hp5
   have w5:∀ i,i∈blkOf q.p→ow' i=8:=a4.oq
   have nA5:A∉blkOf q.p:=fun hm=>by have:=w5 A hm; have:=a4.oA; omega
   have ny5:y∉blkOf q.p:=fun hm=>by have:=w5 y hm; omega
   have ng5:gm∉blkOf q.p:=fun hm=>by have:=w5 gm hm; have:=a4.og; omega
   have by5:=by4.keep k5 ny5
   have rl:∀ i,i<h4.size→lab h4.size 8 ow' i=ow' i:=fun i hi=>lab_old hi
   refine ⟨⟨by5.cells _ rfl,trivial⟩,?_⟩
   refine osome_mk rfl ?_
   rw [add_box]
   refine stores_of (a4.box.keep k5 nA5) rfl (by simp [asmC]) ?_
   intro h6 b6 k6 z6
   have oA6:lab h4.size 8 ow' A=6:=(rl A a4.box.lt).trans a4.oA
   have og6:lab h4.size 8 ow' gm=7:=(rl gm a4.names.lt).trans a4.og
   have oq6:∀ i,i∈blkOf p'→lab h4.size 8 ow' i=8:=blk_new a4.oq (fun i hi=>(Sx.SL.blk a4.globs hi).2) hp5
   have w6:∀ i,i∈[A]→lab h4.size 8 ow' i=6:=fun i hi=>by have hi:=List.mem_singleton.1 hi; subst hi; exact oA6
   have ng6:gm∉[A]:=fun hm=>by have:=w6 gm hm; omega
   have C5:=(a4.core.relabel rl).keep k5 (fun i hi h1 _=>by rw [rl i h1]; have:=w5 i hi; omega)
   refine meet_mk (cs:=[]) () rfl rfl ⟨t',d',e,⟨p',q.l+1,c'⟩,ut',ud',ue,lab h4.size 8 ow',?_,(ab4.step k5 (fun i hi _=>⟨(Sx.SL.blk a4.globs hi).1,by have:=w5 i hi; omega⟩) rl).step k6 (fun i hi _=>⟨by have hi:=List.mem_singleton.1 hi; subst hi; exact a4.bA,by have:=w6 i hi; omega⟩) (fun _ _=>rfl)⟩
   rw [putW_eq,if_neg r3,if_neg r3,if_pos r,if_neg (by omega)]
   have b6:Box h6 A 73 (asmC t' d' e ((labW w lb).sec:Int) (((addW (labW w lb) tg.items).text.length+(addW (labW w lb) tg.items).data.length:Nat):Int) gm ⟨p',q.l+1,c'⟩):=b6
   refine ⟨C5.keep k6 (fun i hi _ _=>by have:=w6 i hi; omega),b6,(a4.names.keep k5 ng5).keep k6 ng6,?_,oA6,og6,oq6,a4.bA,a4.bg⟩
   refine Sx.SL.keep' (by rw [List.map_append]; exact s5) k6 (fun i hi hm=>?_)
   have:=w6 i hm; have:=oq6 i hi; omega
  have r4:¬ tg.kind=4:=fun e=>by rw [e] at r; simp at r
  refine cond_mk (fun r=>?_) (fun r=>?_)
  ·have r:tg.kind=5:=by have:=eq_of_beq r; omega
   rw [add_box]
   refine loads_box by4 ((tg.sec:Int),()) rfl ?_
   dsimp only [flat,unc,unc1,List.nil_append,List.cons_append]
   refine osome_mk rfl ?_
   rw [add_box]
   refine stores_of a4.box rfl (by simp [asmC]) ?_
   intro h5 b5 k5 z5
   have w5:∀ i,i∈[A]→ow' i=6:=fun i hi=>by have hi:=List.mem_singleton.1 hi; subst hi; exact a4.oA
   have ng5:gm∉[A]:=fun hm=>by have:=w5 gm hm; have:=a4.og; omega
   refine meet_mk (cs:=[]) () rfl rfl ⟨t',d',e,q,ut',ud',ue,ow',?_,ab4.step k5 (fun i hi _=>⟨by have hi:=List.mem_singleton.1 hi; subst hi; exact a4.bA,by have:=w5 i hi; omega⟩) (fun _ _=>rfl)⟩
   rw [putW_eq,if_neg r3,if_neg r3,if_neg r4,if_pos r]
   have b5:Box h5 A 73 (asmC t' d' e (tg.sec:Int) (((addW (labW w lb) tg.items).text.length+(addW (labW w lb) tg.items).data.length:Nat):Int) gm q):=b5
   exact ⟨a4.core.keep k5 (fun i hi _ _=>by have:=w5 i hi; omega),b5,a4.names.keep k5 ng5,SL.keepL a4.globs k5 a4.oq (fun i hi _ _=>by have:=w5 i hi; omega),a4.oA,a4.og,a4.oq,a4.bA,a4.bg⟩
  have r5:¬ tg.kind=5:=fun e=>by rw [e] at r; simp at r
  refine meet_mk (cs:=[]) () rfl rfl ⟨t',d',e,q,ut',ud',ue,ow',?_,ab4⟩
  rw [putW_eq,if_neg r3,if_neg r3,if_neg r4,if_neg r5]
  exact ⟨a4.core,a4.box,a4.names,a4.globs,a4.oA,a4.og,a4.oq,a4.bA,a4.bg⟩
 rintro ⟨⟩ h5 a5
 exact ⟨rfl,a5⟩
theorem lineW_eq (w:Wld) (n:Nat) (s:ByteArray):lineW w n s=if (parseS s).2.2≠0 then .error (parseS s).2.2 else if (parseS s).1.label≠nam0∧legalL (parseS s).1.label.data.toList=false then .error 21 else tailR_ w n (parseS s).1.label (readA (parseS s).1 (decide (w.sec=1))):=by
 unfold lineW tailR_
 split
 ·rfl
 split
 ·rfl
 all_goals (cases readA (parseS s).1 (decide (w.sec=1)) <;> rfl)
theorem parseT_label (n:Nat) (lb:ByteArray):∀ (ts:List Tok),(parseT n lb ts).1.label=lb∨(parseT n lb ts).1.label=nam0
 | []=>.inl rfl
 | t::ts=>by
  simp only [parseT]
  split
  ·exact .inr rfl
  ·cases argsA n ts with
   | error a=>exact .inr rfl
   | ok l=>exact .inl rfl
theorem label_size (s:ByteArray):(parseS s).1.label.size≤s.size:=by
 have z:nam0.size≤s.size:=Nat.zero_le _
 unfold parseS
 split
 ·exact z
 ·unfold parseL
  split
  ·rcases parseT_label s.size (((lexS s).1.head?.map (·.text)).getD ⟨#[]⟩) ((lexS s).1.drop 2) with e | e
   ·rw [e]
    cases hq:(lexS s).1 with
    | nil=>exact z
    | cons t r=>exact size_lexS s t (by rw [hq]; simp)
   ·rw [e]; exact z
  ·rcases parseT_label s.size ⟨#[]⟩ (lexS s).1 with e | e
   ·rw [e]; exact z
   ·rw [e]; exact z
theorem sec_int (n:Nat):decide ((n:Int)=1)=decide (n=1):=by
 by_cases h:n=1
 ·subst h; rfl
 ·rw [decide_eq_false h,decide_eq_false (by omega)]
theorem thgQ_err {h h':Hp} {e:Nat} {u:Value} (q:thgQ h (.error e) u h'):u=.tuple #[.agg zT.toArray,.int .i64 (e:Int)]∧e≠0:=q.2
theorem thgQ_ok {h h':Hp} {t:Thg} {u:Value} (q:thgQ h (.ok t) u h'):∃ sl us se,u=.tuple #[thgV t.kind sl t.name se t.e.num t.sec,.int .i64 0]∧ThgAt h' h.size t sl us se:=q.2
set_option maxHeartbeats 4000000 in
theorem line_hc {h:Hp} (tb:TabN h) (ld:Laid h) {b A gm:Nat} {w:Wld} {t d e q:Sli} {ut ud:List (Sli × Itm)} {ue:List (Sli × Eqn)} {ow:Nat→Nat} (a:AsmAt h b A gm w t d e q ut ud ue ow) (hb:b≤h.size) (W:WOk w) (hE:w.equs.length≤2^20) (hG:w.globs.length≤2^20) {n:Nat} (hn:n≤2^20) (s:ByteArray) (hs:s.size≤2^18) {qq:Nat→Prop} (qs:∀ i,qq i→i<h.size) (qo:∀ i,qq i→ow i=9) :
  HC Tryz.prog 33 #[.pointer (some ⟨A,0,none⟩),.int .i64 (n:Int),.string s] h (lineQ b A gm qq h (lineW w n s)):=by
 refine hcr_of (args:=[.pointer (some ⟨A,0,none⟩),.int .i64 (n:Int),.string s]) mixed Tryz.func33 (by kernel_rfl) (t_unit_assembler__line_eq (some ⟨A,0,none⟩) n s) ?_
 unfold t_unit_assembler__line
 refine call_of (parse_hc s h (by omega) ld) ?_
 rintro _ h1 ⟨e1,p,c,al,rfl,Ar,ha⟩
 refine ⟨((parseS s).1.label,(parseS s).1.op,(p,al.length,c),((parseS s).2.1:Int),((parseS s).2.2:Int),()),rfl,?_⟩
 dsimp only [flat,unc,unc1,nA,cA]
 refine newB ?_
 intro h2 b2 e2 z2
 refine stores_of b2 rfl (by simp) ?_
 intro h3 b3 k3 z3
 have b3:Box h3 h1.size 130 [.string (parseS s).1.label,.string (parseS s).1.op,.slice p al.length c]:=b3
 have e13:Ext h1 h3:=Ch.trans e2 k3 (fun i hi hl=>by simp at hi; omega)
 have e03:=e1.trans e13
 rw [lineW_eq]
 refine cond_mk (fun r=>?_) (fun r=>?_)
 ·have r:(parseS s).2.2≠0:=by simpa using r
  rw [if_pos r]
  exact ⟨rfl,r,e03⟩
 have r:¬ (parseS s).2.2≠0:=by simpa using r
 rw [if_neg r]
 refine join_of (cs:=[(false,[.bool])]) (fun z h'=>h'=h3∧z.1=decide ((parseS s).1.label≠nam0∧legalL (parseS s).1.label.data.toList=false)) ?_ ?_
 ·refine loads_box b3 ((parseS s).1.label,()) rfl ?_
  dsimp only [flat,unc,unc1,nA,cA]
  refine cond_mk (fun q=>?_) (fun q=>?_)
  ·have q:=bne_nam.1 q
   refine loads_box b3 ((parseS s).1.label,()) rfl ?_
   dsimp only [flat,unc,unc1,nA,cA]
   have hl:(parseS s).1.label.size≤9223372036854775807:=by
    have:=label_size s
    omega
   refine call_bool (legal_hc _ _ hl) ?_
   refine meet_mk (cs:=[(false,[.bool])]) (_,()) rfl rfl ⟨rfl,?_⟩
   cases hh:legalL (parseS s).1.label.data.toList with
   | true=>exact (decide_eq_false (by simp)).symm
   | false=>exact (decide_eq_true ⟨q,rfl⟩).symm
  ·refine meet_mk (cs:=[(false,[.bool])]) (false,()) rfl rfl ⟨rfl,(decide_eq_false ?_).symm⟩
   rintro ⟨q1,_⟩
   rw [bne_nam.2 q1] at q
   cases q
 rintro ⟨b11,⟨⟩⟩ h9 ⟨e9,hb11⟩
 simp only at hb11
 have e9:=e9.symm
 subst e9
 subst hb11
 dsimp only [flat,unc,unc1,nA,cA]
 refine cond_mk (fun q=>?_) (fun q=>?_)
 ·rw [if_pos (of_decide_eq_true q)]
  exact ⟨rfl,by decide,e03⟩
 have q:=of_decide_eq_false q
 rw [if_neg q]
 have hlab:(parseS s).1.label≠nam0→legalL (parseS s).1.label.data.toList=true:=fun g=>by
  cases hh:legalL (parseS s).1.label.data.toList with
  | true=>rfl
  | false=>exact absurd ⟨g,hh⟩ q
 clear q
 have z03:=e03.size
 have z01:=e1.size
 have a3:=(a.relabel (ow':=lab h.size 9 ow) (fun i hi=>lab_old hi)).keep e03 (by simp)
 have ox3:lab h.size 9 ow h1.size=9:=lab_new z01
 have Ar3:=(Ar.mono (Nat.le_refl _)).keep e13 (by simp) (by simp)
 obtain ⟨v,hal⟩:=VwA.parse s (by omega) Ar3 ha
 have tb3:=tb.keep e03 (by simp)
 have hln:(parseS s).1=⟨(parseS s).1.label,(parseS s).1.op,al.map In.ts⟩:=by rw [ha]
 have facts:=parse_facts s (by omega)
 have hok:∀ tg,readA (parseS s).1 (decide (w.sec=1))=.ok tg→ThgOk tg (decide (w.sec=1))∧tg.items.length≤2^20:=fun tg hr =>
  ⟨readA_right (fun a ha=>(facts a ha).1) hr,(readA_sz (n:=2^20) (by omega) (fun a ha=>⟨(facts a ha).1,by have:=(parseS_bound s).1 a ha; omega⟩) (by have:=(parseS_bound s).2; omega) hr).many⟩
 have hrd:readA ⟨(parseS s).1.label,(parseS s).1.op,al.map In.ts⟩ (decide ((w.sec:Int)=1))=readA (parseS s).1 (decide (w.sec=1)):=by rw [sec_int,← hln]
 refine loads_box b3 ((parseS s).1.label,(parseS s).1.op,(p,al.length,c),()) rfl ?_
 dsimp only [flat,unc,unc1,nA,cA]
 refine osome_mk rfl ?_
 rw [add_box]
 refine loads_box a3.box ((w.sec:Int),()) rfl ?_
 dsimp only [flat,unc,unc1,nA,cA]
 generalize hrr:readA (parseS s).1 (decide (w.sec=1))=rr at *
 have tail:∀ {h4 h6:Hp} {y:Nat} {u:Value},Ext h3 h4→h4.size=h4.size→True:=fun _ _=>trivial
 refine ⟨?_,?_,trivial⟩
 ·refine call_of (read_hc tb3 v hal (w.sec:Int)) ?_
  rintro u h4 qq
  rw [hrd] at qq
  have e4:=qq.1
  have e04:=e03.trans e4
  cases rr with
  | error er =>
   obtain ⟨rfl,hne⟩:=thgQ_err qq
   refine ⟨((0:Int),(none,0,0),nam0,(none,0,0),(0:Int),(0:Int),(er:Int),()),rfl,?_⟩
   dsimp only [flat,unc,unc1,nA,cA]
   refine newB ?_
   intro h5 b5 e5 z5
   have e35:=e4.trans e5
   refine ⟨⟨(a3.box.keep e35 (by simp)).cells _ rfl,(b3.keep e35 (by simp)).cells _ rfl,trivial⟩,?_⟩
   refine stores_of b5 rfl (by simp) ?_
   intro h6 b6 k6 z6
   refine cond_t (by simp; omega) ?_
   exact ⟨rfl,hne,Ch.trans (e04.trans e5) k6 (fun i hi hl=>by have:=e04.size; simp at hi; omega)⟩
  | ok tg =>
   obtain ⟨sl,us,se,rfl,At⟩:=thgQ_ok qq
   obtain ⟨ok,sz⟩:=hok tg rfl
   refine ⟨((tg.kind:Int),(sl.p,sl.l,sl.c),tg.name,(se.p,se.l,se.c),(tg.e.num:Int),(tg.sec:Int),(0:Int),()),rfl,?_⟩
   dsimp only [flat,unc,unc1,nA,cA]
   refine newB ?_
   intro h5 b5 e5 z5
   have e35:=e4.trans e5
   refine ⟨⟨(a3.box.keep e35 (by simp)).cells _ rfl,(b3.keep e35 (by simp)).cells _ rfl,trivial⟩,?_⟩
   refine stores_of b5 rfl (by simp) ?_
   intro h6 b6 k6 z6
   have b6:Box h6 h4.size 134 (thgC tg.kind sl.p sl.l sl.c tg.name se.p se.l se.c tg.e.num tg.sec):=b6
   have z34:=e4.size
   have e46:Ext h4 h6:=Ch.trans e5 k6 (fun i hi hl=>by simp at hi; omega)
   have e36:=e4.trans e46
   have At6:=At.keep e46 (by simp)
   obtain ⟨ow1,ho1,O⟩:=ThgO.of (b:=b) At6 (by omega) (lab h.size 9 ow)
   have rl:∀ i,i<h3.size→lab h4.size 9 ow1 i=lab h.size 9 ow i:=fun i hi=>(lab_old (by omega)).trans (ho1 i hi)
   have O6:ThgO h6 b tg sl us se (lab h4.size 9 ow1):=⟨O.its,O.own,O.eq,O.e,fun i hi=>(lab_old (Sx.SL.blk At.its.out hi).2).trans (O.o9 i hi),fun u hu i hi=>(lab_old (Sx.SL.blk (At.its.own u hu) hi).2).trans (O.ou u hu i hi),fun i hi=>(lab_old (Sx.SL.blk At.e hi).2).trans (O.oe i hi)⟩
   exact lineTail_of hb (e03.trans e36) W hE hG hn ⟨(a3.relabel rl).keep e36 (by simp),b3.keep e36 (by simp),b6,O6,(rl h1.size b3.lt).trans ox3,lab_new (Nat.le_refl _),Ab.of_ext (e03.trans e36) qs (fun i hi=>(rl i (by have:=qs i hi; omega)).trans ((lab_old (qs i hi)).trans (qo i hi)))⟩ hlab ok sz
 ·refine newB ?_
  intro h5 b5 e5 z5
  have e05:=e03.trans e5
  refine ⟨⟨(a3.box.keep e5 (by simp)).cells _ rfl,(b3.keep e5 (by simp)).cells _ rfl,trivial⟩,?_⟩
  refine call_of (read_hc (tb3.keep e5 (by simp)) (v.keep e5) hal (w.sec:Int)) ?_
  rintro u h4 qq
  rw [hrd] at qq
  have e4:=qq.1
  have e04:=e05.trans e4
  have b54:=b5.keep e4 (by simp)
  cases rr with
  | error er =>
   obtain ⟨rfl,hne⟩:=thgQ_err qq
   refine ⟨((0:Int),(none,0,0),nam0,(none,0,0),(0:Int),(0:Int),(er:Int),()),rfl,?_⟩
   dsimp only [flat,unc,unc1,nA,cA]
   refine stores_of b54 rfl (by simp) ?_
   intro h6 b6 k6 z6
   refine cond_t (by simp; omega) ?_
   exact ⟨rfl,hne,Ch.trans e04 k6 (fun i hi hl=>by simp at hi; omega)⟩
  | ok tg =>
   obtain ⟨sl,us,se,rfl,At⟩:=thgQ_ok qq
   obtain ⟨ok,sz⟩:=hok tg rfl
   refine ⟨((tg.kind:Int),(sl.p,sl.l,sl.c),tg.name,(se.p,se.l,se.c),(tg.e.num:Int),(tg.sec:Int),(0:Int),()),rfl,?_⟩
   dsimp only [flat,unc,unc1,nA,cA]
   refine stores_of b54 rfl (by simp) ?_
   intro h6 b6 k6 z6
   have b6:Box h6 h3.size 134 (thgC tg.kind sl.p sl.l sl.c tg.name se.p se.l se.c tg.e.num tg.sec):=b6
   have z54:=e4.size
   have e36:Ext h3 h6:=Ch.trans (e5.trans e4) k6 (fun i hi hl=>by simp at hi; omega)
   have At6:=At.keep k6 (fun i hi _=>by simp at hi; omega)
   obtain ⟨ow1,ho1,O6⟩:=ThgO.of (b:=b) At6 (by omega) (lab h.size 9 ow)
   exact lineTail_of hb (e03.trans e36) W hE hG hn ⟨(a3.relabel (ow':=ow1) (fun i hi=>ho1 i (by omega))).keep e36 (by simp),b3.keep e36 (by simp),b6,O6,(ho1 h1.size (by have:=b3.lt; omega)).trans ox3,(ho1 h3.size (by omega)).trans (lab_new (by omega)),Ab.of_ext (e03.trans e36) qs (fun i hi=>(ho1 i (by have:=qs i hi; omega)).trans ((lab_old (qs i hi)).trans (qo i hi)))⟩ hlab ok sz
def wldC (t d e:Sli) (sec:Int) (N G Li:Sli):List Value:=[t.v,d.v,e.v,.slice none 0 0,.int .i64 sec,N.v,G.v,Li.v]
def encI1 (n:Nat):List Value:=[.int .i64 (n:Int)]
structure WldAt (h:Hp) (b B:Nat) (w:Wld) (t d e N G Li:Sli) (ut ud:List (Sli × Itm)) (ue:List (Sli × Eqn)) (ow:Nat→Nat):Prop where
 core:Core h b w.text w.data w.equs t d e ut ud ue ow
 box:Box h B 142 (wldC t d e (w.sec:Int) N G Li)
 names:SN h b N.p N.l N.c w.names
 globs:SN h b G.p G.l G.c (w.globs.map (·.1))
 lines:SL h b 3 1 Li.p Li.l Li.c ((w.globs.map (·.2)).map encI1)
 oB:ow B=6
 oN:∀ i,i∈blkOf N.p→ow i=7
 oG:∀ i,i∈blkOf G.p→ow i=8
 oL:∀ i,i∈blkOf Li.p→ow i=12
 bB:b≤B
section
variable {h h':Hp} {b B:Nat} {w:Wld} {t d e N G Li:Sli} {ut ud:List (Sli × Itm)} {ue:List (Sli × Eqn)} {ow:Nat→Nat}
theorem WldAt.keep {ws:List Nat} (a:WldAt h b B w t d e N G Li ut ud ue ow) (k:Ch ws h h') (hw:∀ i,i∈ws→i<h.size→b≤i→ow i=9):WldAt h' b B w t d e N G Li ut ud ue ow:=by
 have n:∀ k0,k0≠9→∀ i,i∈ws→i<h.size→b≤i→ow i≠k0:=fun k0 hk i h1 h2 h3=>by have:=hw i h1 h2 h3; omega
 exact ⟨a.core.keep k (fun i h1 h2 h3=>by have:=hw i h1 h2 h3; omega),a.box.keep k (fun hm=>by have:=hw B hm a.box.lt a.bB; have:=a.oB; omega),SL.keepL a.names k a.oN (n 7 (by omega)),SL.keepL a.globs k a.oG (n 8 (by omega)),SL.keepL a.lines k a.oL (n 12 (by omega)),a.oB,a.oN,a.oG,a.oL,a.bB⟩
theorem WldAt.dl (a:WldAt h b B w t d e N G Li ut ud ue ow):d.l=w.data.length:=by rw [a.core.d1.1,List.length_map,map_len a.core.d3]
theorem WldAt.nl (a:WldAt h b B w t d e N G Li ut ud ue ow):N.l=w.names.length:=SN.len a.names
theorem WldAt.ll (a:WldAt h b B w t d e N G Li ut ud ue ow):Li.l=w.globs.length:=by rw [a.lines.1,List.length_map,List.length_map]
end
structure WnS (qq:Nat→Prop) (h0 h:Hp) (b B x y:Nat) (w:Wld) (lb opn:ByteArray) (pA:Option Addr) (lA cA:Nat) (tg:Thg) (t d e N G Li sl se:Sli) (ut ud us:List (Sli × Itm)) (ue:List (Sli × Eqn)) (ow:Nat→Nat):Prop where
 a:WldAt h b B w t d e N G Li ut ud ue ow
 bx:Box h x 191 [.string lb,.string opn,.slice pA lA cA]
 by_:Box h y 194 (thgC tg.kind sl.p sl.l sl.c tg.name se.p se.l se.c tg.e.num tg.sec)
 o:ThgO h b tg sl us se ow
 ox:ow x=9
 oy:ow y=9
 ab:Ab b qq ow h0 h
theorem WnS.ext {qq:Nat→Prop} {h0 h h':Hp} {b B x y:Nat} {w:Wld} {lb opn:ByteArray} {pA:Option Addr} {lA cA:Nat} {tg:Thg} {t d e N G Li sl se:Sli} {ut ud us:List (Sli × Itm)} {ue:List (Sli × Eqn)} {ow:Nat→Nat} (s:WnS qq h0 h b B x y w lb opn pA lA cA tg t d e N G Li sl se ut ud us ue ow) (k:Ext h h') :
  WnS qq h0 h' b B x y w lb opn pA lA cA tg t d e N G Li sl se ut ud us ue ow :=
 ⟨s.a.keep k (by simp),s.bx.keep k (by simp),s.by_.keep k (by simp),s.o.keep k (by simp),s.ox,s.oy,s.ab.ext_step k (fun _ _=>rfl)⟩
set_option maxHeartbeats 4000000 in
theorem linesB_run:∀ (l cur r:List UInt8),(∀ c,c∈l→nl c=true)→linesB cur (l++10::r)=(cur++l)::linesB [] r
 | [],cur,r,_=>by simp [linesB_cons]
 | c::l,cur,r,h=>by
  have hc:¬ c=10:=by simpa [nl] using h c (by simp)
  rw [List.cons_append,linesB_cons,if_neg hc,linesB_run l (cur++[c]) r (fun x hx=>h x (by simp [hx]))]
  simp
theorem linesB_last:∀ (l cur:List UInt8),(∀ c,c∈l→nl c=true)→linesB cur l=if cur++l=[] then [] else [cur++l]
 | [],cur,_=>by simp [linesB_end]
 | c::l,cur,h=>by
  have hc:¬ c=10:=by simpa [nl] using h c (by simp)
  rw [linesB_cons,if_neg hc,linesB_last l (cur++[c]) (fun x hx=>h x (by simp [hx]))]
  simp
theorem linesF_B:∀ (f:Nat) (s:List UInt8),s.length<f→linesF f s=linesB [] s
 | 0,s,h=>by omega
 | f+1,s,h=>by
  by_cases s0:s=[]
  ·subst s0; rfl
  rcases split10 s with hn | ⟨l,r,rfl,hl⟩
  ·rw [linesF_last f s hn s0,linesB_last s [] hn,List.nil_append,if_neg s0]
  ·simp only [List.length_append,List.length_cons] at h
   rw [linesF_first f l r hl,linesB_run l [] r hl,linesF_B f r (by omega)]
   rfl
theorem lnS_eq (s:ByteArray):lnS s=linesL s:=by
 refine (lnS_of ?_).symm
 unfold linesL
 rw [List.map_map,linesF_B _ _ (by simp)]
 have:∀ l:List (List UInt8),l.map ((fun x:ByteArray=>x.data.toList) ∘ fun l=>(⟨l.toArray⟩:ByteArray))=l:=fun l=>by
  induction l with
  | nil=>rfl
  | cons x l ih=>rw [List.map_cons,ih]; simp
 exact this _
/-! Faults,a line more. -/
theorem lineW_lens {w w':Wld} {n:Nat} {s:ByteArray} (h:lineW w n s=.ok w'):w'.equs.length≤w.equs.length+1∧w'.globs.length≤w.globs.length+1:=by
 unfold lineW at h
 split at h
 ·cases h
 split at h
 ·cases h
 split at h
 ·cases h
 split at h
 ·cases h
 split at h
 ·cases h
 injection h with h
 subst h
 unfold putW
 simp only
 constructor
 ·split
  ·simp
  ·omega
 ·split
  ·simp
  ·omega
/-! Sizes. -/
structure WSz (n:Nat) (w:Wld):Prop where
 text:∀ x,x∈w.text→Bd n x
 data:∀ x,x∈w.data→Bd n x
 equs:∀ x,x∈w.equs→x.2.terms.length≤n
theorem lineW_sz {w w':Wld} {n k:Nat} {s:ByteArray} (hs:s.size+1≤n) (hb:s.size≤2^20) (S:WSz n w) (h:lineW w k s=.ok w'):WSz n w':=by
 unfold lineW at h
 split at h
 ·cases h
 split at h
 ·cases h
 split at h
 ·cases h
 rename_i t ht
 split at h
 ·cases h
 split at h
 ·cases h
 injection h with h
 have f:=parse_facts s hb
 have z:=readA_sz (n:=n) (by omega) (fun a ha=>⟨(f a ha).1,by have:=(parseS_bound s).1 a ha; omega⟩) (by have:=(parseS_bound s).2; omega) ht
 generalize (parseS s).1.label=lb at *
 have hits:∀ x,x∈itsW lb t→Bd n x:=by
  intro x hx
  unfold itsW at hx
  rcases List.mem_append.1 hx with hx | hx
  ·split at hx
   ·simp at hx
   ·have:=List.mem_singleton.1 hx
    subst this
    simp [Bd,labI,itm,lin0]
  ·exact z.item x hx
 subst h
 refine ⟨?_,?_,?_⟩
 ·intro x hx
  unfold putW at hx
  simp only at hx
  split at hx
  ·rcases List.mem_append.1 hx with hx | hx
   ·exact S.text x hx
   ·exact hits x hx
  ·exact S.text x hx
 ·intro x hx
  unfold putW at hx
  simp only at hx
  split at hx
  ·exact S.data x hx
  ·rcases List.mem_append.1 hx with hx | hx
   ·exact S.data x hx
   ·exact hits x hx
 ·intro x hx
  unfold putW at hx
  simp only at hx
  split at hx
  ·rcases List.mem_append.1 hx with hx | hx
   ·exact S.equs x hx
   ·have:=List.mem_singleton.1 hx
    subst this
    exact z.e
  ·exact S.equs x hx
theorem runW_sz {n:Nat}:∀ (l:List ByteArray) (w w':Wld) (k:Nat),(∀ s,s∈l→s.size+1≤n∧s.size≤2^20)→WSz n w→runW w k l=.ok w'→WSz n w'
 | [],w,w',k,_,S,h=>by
  simp only [runW] at h
  injection h with h
  subst h
  exact S
 | s::l,w,w',k,hs,S,h=>by
  simp only [runW] at h
  split at h
  ·cases h
  ·rename_i w1 h1
   exact runW_sz l w1 w' (k+1) (fun x hx=>hs x (by simp [hx])) (lineW_sz (hs s (by simp)).1 (hs s (by simp)).2 S h1) h
def UntC (h:Hp) (b:Nat) (a b' c d:Sli) (u:Unt):Prop:=∃ ut ud ue ow,Core h b u.text u.data u.equs a b' c ut ud ue ow∧SN h b d.p d.l d.c u.globs
theorem UntC.zero (h:Hp) (b:Nat):UntC h b sl0 sl0 sl0 sl0 unt0:=⟨[],[],[],fun _=>0,Core.nil _ _ _,SL.nil _ _ _ _⟩
set_option maxHeartbeats 4000000 in
def outR:Except (Nat × Nat) Unt→Unt × (Nat × Nat)
 | .error q=>(unt0,q)
 | .ok u=>(u,(0,0))
theorem UntC.keep {h h':Hp} {b:Nat} {a b' c d:Sli} {u:Unt} {ws:List Nat} (U:UntC h b a b' c d u) (k:Ch ws h h') (hw:∀ i,i∈ws→i<h.size→i<b):UntC h' b a b' c d u:=by
 obtain ⟨ut,ud,ue,ow,C,S⟩:=U
 exact ⟨ut,ud,ue,ow,C.keep k (fun i h1 h2 h3=>by have:=hw i h1 h2; omega),SL.keepN S k hw⟩
theorem UntC.mono {h:Hp} {b b1:Nat} {a b' c d:Sli} {u:Unt} (U:UntC h b a b' c d u) (hb:b1≤b):UntC h b1 a b' c d u:=by
 obtain ⟨ut,ud,ue,ow,C,S⟩:=U
 exact ⟨ut,ud,ue,ow,⟨Sx.SL.mono C.t1 hb,fun u hu=>Sx.SL.mono (C.t2 u hu) hb,C.t3,Sx.SL.mono C.d1 hb,fun u hu=>Sx.SL.mono (C.d2 u hu) hb,C.d3,Sx.SL.mono C.e1 hb,fun u hu=>Sx.SL.mono (C.e2 u hu) hb,C.e3,C.o3,C.o4,C.o5,C.ot,C.od,C.oe⟩,Sx.SL.mono S hb⟩
end Go.Sx.Ob
set_option linter.unusedVariables false
set_option linter.unusedSimpArgs false
set_option maxRecDepth 100000
namespace Go.Proofs
open Go.RowKit Go.Shelf Go.Sx.Ob
attribute [local go_sem] Oper.semAt_some
theorem res10 {tmps:Array Value} {w:World} {p q:Nat} {va vb vc vd ev:Value} (h2:tmps.getD 2 undef=.pointer (some ⟨p,0,none⟩)) (h3:tmps.getD 3 undef=.pointer (some ⟨q,0,none⟩)) (bp:Sx.Box w.heap p 27 [va,vb,vc,vd]) (bq:Sx.Box w.heap q 29 [ev]) :
  (results Tryz.f10 tmps).run Tryz.prog w=.ok (.tuple #[.agg #[va,vb,vc,vd],ev]) w:=by
 have c0:w.cell? ⟨p,0,none⟩=some va:=by rw [Sx.cell_heap,bp.cell]; rfl
 have c1:w.cell? ⟨p,1,none⟩=some vb:=by rw [Sx.cell_heap,bp.cell]; rfl
 have c2:w.cell? ⟨p,2,none⟩=some vc:=by rw [Sx.cell_heap,bp.cell]; rfl
 have c3:w.cell? ⟨p,3,none⟩=some vd:=by rw [Sx.cell_heap,bp.cell]; rfl
 have c4:w.cell? ⟨q,0,none⟩=some ev:=by rw [Sx.cell_heap,bq.cell]; rfl
 rw [Array.getD_eq_getD_getElem?] at h2 h3
 simp [results,Tryz.f10,go_sem,h2,h3,c0,c1,c2,c3,c4]
theorem fin10 {R:Ending→World→Prop} {tmps:Array Value} {dl:List Deferred} {W':World} {b0 p q:Nat} {va vb vc vd ev:Value} (hm:Marks b0 dl W') (h2:tmps.getD 2 undef=.pointer (some ⟨p,0,none⟩)) (h3:tmps.getD 3 undef=.pointer (some ⟨q,0,none⟩)) (bp:Sx.Box W'.heap p 27 [va,vb,vc,vd]) (bq:Sx.Box W'.heap q 29 [ev])
  (hR:∀ w':World,Below b0 W' w'→(∀ B:Nat,W'.heap[B]?≠some (Obj.deferred (some []))→w'.heap[B]?=W'.heap[B]?)→R (.returned (.tuple #[.agg #[va,vb,vc,vd],ev])) w') :
  bodyPostM Fence.wide 7 Tryz.prog Tryz.f10 R Exit.ret { tmps:=tmps,defers:=dl } W':=by
 refine Marks.leaves hm fun w' hb hk=>?_
 have bp':Sx.Box w'.heap p 27 [va,vb,vc,vd]:=by
  unfold Sx.Box at bp ⊢
  rw [hk p (by rw [bp]; simp),bp]
 have bq':Sx.Box w'.heap q 29 [ev]:=by
  unfold Sx.Box at bq ⊢
  rw [hk q (by rw [bq]; simp),bq]
 exact ⟨_,res10 h2 h3 bp' bq',hR w' hb hk⟩
theorem calls_round2 {n f l:Nat} {args:Array Value} {W:World} {R:Value→Sx.Hp→Prop} {K:Ending→World→Prop} (h:Sx.HC Tryz.prog f args W.heap R) (hK:∀ v w',Sx.SameO W w'→R v w'.heap→K (.returned v) w'):(Fence.wide.inRound l).fn f∧CallsIn (Fence.wide.inRound l) n Tryz.prog f args W K :=
 ⟨trivial,(CallsIn.inRound l (callsIn_wide.2 (h W rfl))).mono fun e w' ⟨v,hv,hb,hr⟩=>by subst hv; exact hK v w' hb hr⟩
end Go.Proofs
set_option linter.unusedVariables false
set_option maxRecDepth 100000
namespace Go.Proofs
open Go.RowKit Go.Maps Go.Sort Go.Shelf
def Tryz.keysB_ren:Go.Shelf.Ren:=⟨fun | 7=>35 | 10=>68 | n=>n,fun | 23=>70 | 26=>9 | 3=>4 | 28=>79 | 0=>0 | 27=>78 | 33=>39 | 4=>4 | n=>n,fun | n=>n⟩
theorem Tryz.keysB:Go.Proofs.SlLaysZ.n7 Tryz.prog Tryz.keysB_ren:={
 mixed:=by kernel_rfl
 f7:=⟨Tryz.f35.name,by decide,Tryz.func35.trans (congrArg some (by kernel_rfl))⟩
 f10:=⟨Tryz.f68.name,by decide,Tryz.func68.trans (congrArg some (by kernel_rfl))⟩
 t0:=Tryz.underlying0
 a0:=Tryz.isAgg0
 z0:=Tryz.sizeOf0
 v0:=Tryz.zeroValue0
 t4:=Tryz.underlying4
 a4:=Tryz.isAgg4
 z4:=Tryz.sizeOf4
 v4:=Tryz.zeroValue4
 t23:=Tryz.underlying70
 a23:=Tryz.isAgg70
 z23:=Tryz.sizeOf70
 v23:=Tryz.zeroValue70
 t26:=Tryz.underlying9
 a26:=Tryz.isAgg9
 z26:=Tryz.sizeOf9
 v26:=Tryz.zeroValue9
 t27:=Tryz.underlying78
 a27:=Tryz.isAgg78
 z27:=Tryz.sizeOf78
 v27:=Tryz.zeroValue78
 t28:=Tryz.underlying79
 a28:=Tryz.isAgg79
 z28:=Tryz.sizeOf79
 v28:=Tryz.zeroValue79
 t33:=Tryz.underlying39
 a33:=Tryz.isAgg39
 z33:=Tryz.sizeOf39
 v33:=Tryz.zeroValue39 }
theorem Tryz.maps_Keys_B (mb:Option Nat) (W:World):CallsIn Fence.wide 5 Tryz.prog 35 #[.map mb] W fun e w'=>e=.returned (.func (.func 68) #[] #[.pointer (some ⟨W.heap.size,0,none⟩)])∧w'=W.alloc (.cells #[.map mb] 70) :=
 AnyZ.keys_in Tryz.keysB Fence.wide 5 trivial rfl mb W
theorem Tryz.slices_Sorted_keys_B {H:Type} (b nn:Nat) (D0:DataW H) (R:Value→Option (DataW H × List MemPlace)) (w:World) (hown:w.ownsMap Tryz.prog 9 R b nn D0) (hmax:Maps.size D0≤maxLen) (hbytes:Maps.size D0*16≤140737488355328) :
  CallsIn Fence.wide 5 Tryz.prog 34 #[.func (.func 68) #[] #[.pointer (some ⟨w.heap.size,0,none⟩)]] (w.alloc (.cells #[.map (some b)] 70)) fun e w'=>∃ (v:Value) (ss:List (List UInt8)),e=.returned v∧ss.Perm (strKeys D0) ∧
   w'.ownsRow (w.alloc (.cells #[.map (some b)] 70)).heap.size 9 1 v ss.length ((ss.mergeSort (fun x y=>decide (x≤y))).map encStr)∧(v=.slice none 0 0↔ss=[])∧Below (w.alloc (.cells #[.map (some b)] 70)).heap.size (w.alloc (.cells #[.map (some b)] 70)) w':=by
 have hbl:=hown.lt
 have hseq:SeqGives Fence.wide 2 Tryz.prog 68 #[.pointer (some ⟨w.heap.size,0,none⟩)] encStr (fun ss=>ss.Perm (strKeys D0)) (Maps.size D0) (w.alloc (.cells #[.map (some b)] 70)) :=
  AnyZ.keys_gives (ρ:=Tryz.keysB_ren) { Tryz.keysB with } Fence.wide _ trivial rfl (by omega) w.heap.size b nn D0 _ (by simp) (by simp) (by
   obtain ⟨es,clock,hb,Ft,hs,hD⟩:=hown
   exact ⟨es,clock,(Below.heap_alloc _ _ b hbl).trans hb,Ft,hs,hD⟩)
 exact AnyZ.sorted_in Tryz.sorted100 Fence.wide 5 trivial trivial trivial trivial rfl (by omega) (Tryz.sorts100 _) (enters_of Tryz.func43 (by kernel_rfl) rfl) 68 #[.pointer (some ⟨w.heap.size,0,none⟩)] trivial (enters_of Tryz.func68 (by kernel_rfl) rfl) _ _ hmax hbytes _ hseq
end Go.Proofs
namespace Go.Sx
open Go.Proofs
open Go.RowKit Go.Maps
theorem keysB_hc (r:Option Nat) (h:Hp):HC Tryz.prog 35 #[.map r] h fun v h'=>v=.func (.func 68) #[] #[.pointer (some ⟨h.size,0,none⟩)]∧h'=h.push (.cells #[.map r] 70):=by
 intro W hW
 subst hW
 exact (callsIn_wide.1 (Tryz.maps_Keys_B r W)).mono fun e w' ⟨he,hw⟩=>⟨_,he,by rw [hw]; exact SameO.alloc _ _,rfl,by rw [hw]; rfl⟩
theorem sortedB_hc {h:Hp} {g:Nat} {D:List (ByteArray × Value)} (m:MapB h g D) (hl:D.length≤2^40) :
  HC Tryz.prog 34 #[.func (.func 68) #[] #[.pointer (some ⟨h.size,0,none⟩)]] (h.push (.cells #[.map (some g)] 70)) fun v h'=>∃ p l c,v=.slice p l c∧SL h' (h.size+1) 9 1 p l c ((keysOf D).map fun k=>[encStr k]) ∧
   Ext (h.push (.cells #[.map (some g)] 70)) h':=by
 intro W hW
 obtain ⟨D0,hown,hperm,hsize⟩:=MapB.owns (W:={ W with heap:=h }) m (by unfold maxLen; omega)
 have hc:=callsIn_wide.1 (Tryz.slices_Sorted_keys_B g D.length D0 anyR { W with heap:=h } hown (by rw [hsize]; unfold maxLen; omega) (by rw [hsize]; omega))
 rw [World.alloc_of hW] at hc
 refine hc.mono fun e w' hr=>?_
 obtain ⟨v,ss,he,hp,hrow,_,hb⟩:=hr
 have hss:ss.mergeSort (fun x y=>decide (x≤y))=keysOf D:=mergeSort_of_perm (hp.trans hperm)
 have hlen:ss.length=((ss.mergeSort (fun x y=>decide (x≤y))).map encStr).length:=by rw [List.length_map,List.length_mergeSort]
 rw [hlen,hss] at hrow
 obtain ⟨p,l,c,hv,hsl⟩:=SL.of_row hrow
 refine ⟨v,he,⟨hb.os,hb.tape,hb.output⟩,p,l,c,hv,?_,?_⟩
 ·rw [List.map_map] at hsl
  have:W.heap.size=h.size+1:=by rw [hW]; simp
  rw [this] at hsl
  exact hsl
 ·rw [← hW]
  exact ⟨hb.size,fun i hi _=>hb.block i hi⟩
end Go.Sx
set_option linter.unusedVariables false
set_option linter.unusedSimpArgs false
set_option maxRecDepth 100000
namespace Go.Sx.Ob
open Go.Proofs Go.Maps
theorem keysOf_sort {D:List (ByteArray × Value)} {l:List ByteArray} (hn:(D.map (·.1)).Nodup) (hm:∀ s,s∈D.map (·.1)↔s∈l):keysOf D=(sortN l).map (fun s=>s.data.toList):=by
 have hr:=sortN_rise l
 have nd:(sortN l).Nodup:=hr.imp fun h=>ltN_ne h
 have hp:(D.map (·.1)).Perm (sortN l):=(List.perm_ext_iff_of_nodup hn nd).2 fun s=>by rw [hm,sortN_mem]
 have h2:((sortN l).map fun s=>s.data.toList).Perm (D.map fun p=>p.1.data.toList):=by
  have:=hp.symm.map (fun s:ByteArray=>s.data.toList)
  rw [List.map_map] at this
  exact this
 have h1:((sortN l).map fun s=>s.data.toList).mergeSort (fun x y=>decide (x≤y))=keysOf D:=mergeSort_of_perm h2
 rw [← h1]
 refine List.mergeSort_of_pairwise ?_
 rw [List.pairwise_map]
 refine hr.imp fun {a b} h=>?_
 simp only [decide_eq_true_eq]
 exact List.le_of_lt h
theorem insN_len (s:ByteArray):∀ (l:List ByteArray),(insN s l).length≤l.length+1
 | []=>by simp [insN]
 | x::l=>by
  have ih:=insN_len s l
  unfold insN
  split
  ·simp
  ·split
   ·simp
   ·simp only [List.length_cons]; omega
theorem sortF_len:∀ (l d:List ByteArray),(l.foldl (fun d s=>insN s d) d).length≤l.length+d.length
 | [],d=>by simp
 | x::l,d=>by
  rw [List.foldl_cons]
  have h1:=sortF_len l (insN x d)
  have h2:=insN_len x d
  simp only [List.length_cons]
  omega
theorem sortN_len (l:List ByteArray):(sortN l).length≤l.length:=by
 have:=sortF_len l []
 simpa [sortN] using this
theorem enc_back (l:List ByteArray):((l.map fun s=>s.data.toList).map fun k=>[encStr k])=l.map enN:=by
 rw [List.map_map]
 apply List.map_congr_left
 intro s _
 show [Value.string ⟨s.data.toList.toArray⟩]=[Value.string s]
 simp
def endR_ (w:Wld):Except (Nat × Nat) Unt:=match undW w with
 | some g=>.error (g.2,23)
 | none=>.ok ⟨w.text,w.data,w.equs,sortN (w.globs.map (·.1))⟩
def errO:Except (Nat × Nat) Unt→Option (Nat × Nat)
 | .error q=>some q
 | .ok _=>none
def restQ (b u e A:Nat) (w:Wld) (h:Hp) (v:Value) (h':Hp):Prop:=Ch [u,e,A] h h'∧∃ (a b' c d:Sli) (ev:Value),v=.tuple #[untV a b' c d,ev]∧UntC h' b a b' c d (outR (endR_ w)).1∧ErrAt h' ev (errO (endR_ w))∧Box h' u 27 [a.v,b'.v,c.v,d.v]∧Box h' e 29 [ev]
theorem undW_take {w:Wld}:∀ {l:List (ByteArray × Nat)} {i:Nat},(∀ g,g∈l.take i→inN w.names g.1=true)→(hi:i<l.length)→inN w.names l[i].1=false→l.find? (fun g=>!inN w.names g.1)=some l[i]
 | x::l,0,_,_,h=>by
  rw [List.find?_cons]
  simp only [List.getElem_cons_zero] at h
  rw [h]
  rfl
 | x::l,i+1,h1,hi,h=>by
  rw [List.find?_cons,h1 x (by simp)]
  simp only [Bool.not_true]
  exact undW_take (fun g hg=>h1 g (by simp [hg])) (by simpa using hi) h
set_option maxHeartbeats 4000000 in
theorem rest_of {h:Hp} {b A g u e v:Nat} {w:Wld} {t d e' q:Sli} {ut ud:List (Sli × Itm)} {ue:List (Sli × Eqn)} {ow:Nat→Nat} (a:AsmAt h b A g w t d e' q ut ud ue ow) (W:WOk w) (hG:w.globs.length≤2^20) (hu:u<b) (he:e<b) (hue:u≠e) (hb:b≤h.size) (hv:ow v=9)
  {xs:List Value} {x1:Value} (bu:Box h u 27 xs) (hxs:xs.length=4) (be:Box h e 29 [x1]) (bv:Box h v 69 [.pointer (some ⟨A,0,none⟩)]):t_unit_Assemble_rest u e v [] (restQ b u e A w h) h:=by
 unfold t_unit_Assemble_rest
 have bA:=a.bA
 have hql:=a.ql
 have nvA:v≠A:=fun hh=>by have:=a.oA; rw [hh] at hv; omega
 refine makeS ?_
 intro h1 m1 e1 z1
 refine loads_box (bv.keep e1 (by simp)) (some ⟨A,0,none⟩,()) rfl ?_
 dsimp only [flat,unc,unc1,nA,cA]
 refine osome_mk rfl ?_
 rw [add_box]
 refine loads_box (a.box.keep e1 (by simp)) ((q.p,q.l,q.c),()) rfl ?_
 dsimp only [flat,unc,unc1,nA,cA]
 refine loop_of (cs:=[(false,[.int .i64])]) (fun y m h'=>∃ i:Nat,y.1=(i:Int)∧m=w.globs.length-i∧i≤w.globs.length∧Ext h h'∧SetB h' h.size ((w.globs.take i).map (·.1)).reverse∧∀ x,x∈w.globs.take i→inN w.names x.1=true)
  ((0:Int),()) w.globs.length rfl ⟨0,rfl,rfl,by omega,e1,m1,by simp⟩ ?_
 rintro ⟨n7,⟨⟩⟩ m h2 ⟨i,hi,rfl,hil,e2,m2,hin⟩
 simp only at hi
 subst hi
 dsimp only [flat,unc,unc1,nA,cA]
 have a2:=a.keep e2 (by simp)
 have bu2:=bu.keep e2 (by simp)
 have be2:=be.keep e2 (by simp)
 have bv2:=bv.keep e2 (by simp)
 have z2:=e2.size
 refine cond_mk (fun r=>?_) (fun r=>?_)
 ·have r:=of_decide_eq_true r
  have hi':i<w.globs.length:=by omega
  have hleg:=W.globs w.globs[i] (List.getElem_mem hi')
  obtain ⟨aq,haq,hcq⟩:=SL.cells a2.globs (i:=i) (by rw [List.length_map]; exact hi')
  rw [List.getElem_map] at hcq
  refine need_of ⟨by omega,by omega⟩ (osome_mk haq ?_)
  rw [show Int.toNat (i:Int)=i by omega]
  refine loads_of (w.globs[i].1,(w.globs[i].2:Int),()) hcq ?_
  dsimp only [flat,unc,unc1,nA,cA]
  have htk:w.globs.take (i+1)=w.globs.take i++[w.globs[i]]:=List.take_succ_eq_append_getElem hi'
  have hund:inN w.names w.globs[i].1=false→endR_ w=.error (w.globs[i].2,23):=fun hf=>by
   unfold endR_ undW
   rw [undW_take hin hi' hf]
  generalize w.globs[i]=gi at *
  refine newB ?_
  intro h3 b3 e3 z3
  refine stores_of b3 rfl (by simp) ?_
  intro h4 b4 k4 z4
  have b4:Box h4 h2.size 76 [.string gi.1,.int .i64 (gi.2:Int)]:=b4
  have e24:Ext h2 h4:=Ch.trans e3 k4 (fun j hj hl=>by simp at hj; omega)
  have a4:=a2.keep e24 (by simp)
  have bv4:=bv2.keep e24 (by simp)
  refine loads_box bv4 (some ⟨A,0,none⟩,()) rfl ?_
  dsimp only [flat,unc,unc1,nA,cA]
  refine osome_mk rfl ?_
  rw [add_box]
  refine loads_box a4.box (some g,()) rfl ?_
  dsimp only [flat,unc,unc1,nA,cA]
  refine loads_box b4 (gi.1,()) rfl ?_
  dsimp only [flat,unc,unc1,nA,cA]
  refine lookS a4.names gi.1 ?_
  refine ⟨⟨bv4.cells _ rfl,trivial⟩,?_⟩
  refine cond_mk (fun r2=>?_) (fun r2=>?_)
  ·have r2:inN w.names gi.1=false:=by simpa using r2
   have hend:=hund r2
   have bu4:=bu2.keep e24 (by simp)
   have be4:=be2.keep e24 (by simp)
   have e04:=e2.trans e24
   rw [add_box]
   refine loads_box b4 ((gi.2:Int),()) rfl ?_
   dsimp only [flat,unc,unc1,nA,cA]
   have hl2:h2.size<h4.size:=b4.lt
   have hbu:=bu.lt
   have hbe:=be.lt
   have xl:∀ hh ys,Box hh u 27 ys→ys.length=4→∃ y1 y2 y3 y4,ys=[y1,y2,y3,y4]:=fun hh ys _ hl=>by
    match ys,hl with
    | [y1,y2,y3,y4],_=>exact ⟨y1,y2,y3,y4,rfl⟩
   obtain ⟨y1,y2,y3,y4,rfl⟩:=xl h4 xs bu4 hxs
   refine ⟨?_,?_,trivial⟩
   ·refine newB ?_
    intro h5 b5 e5 z5
    have b45:=b4.keep e5 (by simp)
    refine ⟨⟨b45.cells _ rfl,trivial⟩,?_⟩
    refine stores_of (bu4.keep e5 (by simp)) rfl (by simp) ?_
    intro h6 b6 k6 z6
    have b6:Box h6 u 27 zU:=b6
    refine ⟨⟨(b45.keep k6 (by simp; omega)).cells _ rfl,trivial⟩,?_⟩
    refine stores_of ((be4.keep e5 (by simp)).keep k6 (by simp; omega)) rfl (by simp) ?_
    intro h7 b7 k7 z7
    have b7:Box h7 e 29 [.iface 59 (ptr h4.size)]:=b7
    have b67:Box h7 u 27 zU:=b6.keep k7 (by simp; omega)
    have b57:=(b5.keep k6 (by simp; omega)).keep k7 (by simp; omega)
    refine loads_box b67 ((none,0,0),(none,0,0),(none,0,0),(none,0,0),()) rfl ?_
    dsimp only [flat,unc,unc1,nA,cA]
    refine loads_box b7 (Value.iface 59 (ptr h4.size),()) rfl ?_
    refine ⟨(((e04.trans e5).mono (by simp)).trans k6 (fun j hj _=>by have hj:=List.mem_singleton.1 hj; simp [hj])).trans k7 (fun j hj _=>by have hj:=List.mem_singleton.1 hj; simp [hj]),sl0,sl0,sl0,sl0,_,rfl,?_,?_,b67,b7⟩
    ·rw [hend]; exact UntC.zero _ _
    ·rw [hend]; exact ⟨_,rfl,b57⟩
   ·refine stores_of bu4 rfl (by simp) ?_
    intro h6 b6 k6 z6
    have b6:Box h6 u 27 zU:=b6
    have b46:=b4.keep k6 (by simp; omega)
    refine ⟨⟨b46.cells _ rfl,trivial⟩,?_⟩
    refine newB ?_
    intro h5 b5 e5 z5
    refine ⟨⟨(b46.keep e5 (by simp)).cells _ rfl,trivial⟩,?_⟩
    refine stores_of ((be4.keep k6 (by simp; omega)).keep e5 (by simp)) rfl (by simp) ?_
    intro h7 b7 k7 z7
    have b7:Box h7 e 29 [.iface 59 (ptr h6.size)]:=b7
    have b67:Box h7 u 27 zU:=(b6.keep e5 (by simp)).keep k7 (by simp; omega)
    have b57:=b5.keep k7 (by simp; omega)
    refine loads_box b67 ((none,0,0),(none,0,0),(none,0,0),(none,0,0),()) rfl ?_
    dsimp only [flat,unc,unc1,nA,cA]
    refine loads_box b7 (Value.iface 59 (ptr h6.size),()) rfl ?_
    refine ⟨(((e04.mono (by simp)).trans k6 (fun j hj _=>by have hj:=List.mem_singleton.1 hj; simp [hj])).trans e5 (by simp)).trans k7 (fun j hj _=>by have hj:=List.mem_singleton.1 hj; simp [hj]),sl0,sl0,sl0,sl0,_,rfl,?_,?_,b67,b7⟩
    ·rw [hend]; exact UntC.zero _ _
    ·rw [hend]; exact ⟨_,rfl,b57⟩
  ·have r2:inN w.names gi.1=true:=by simpa using r2
   refine loads_box b4 (gi.1,()) rfl ?_
   dsimp only [flat,unc,unc1,nA,cA]
   refine putS (m2.keep e24 (by simp)) (by have:=legal_len hleg; unfold maxLen; omega) ?_
   intro h5 m5 k5 z5
   refine again_mk (cs:=[(false,[.int .i64])]) (((i+1:Nat):Int),()) (w.globs.length-(i+1)) rfl (by omega) (by rw [wrap_i64 (by omega) (by omega)]; rfl) ?_
   refine ⟨i+1,rfl,rfl,by omega,Ch.trans (e2.trans e24) k5 (fun j hj hl=>by have hj:=List.mem_singleton.1 hj; omega),?_,?_⟩
   ·rw [htk,List.map_append,List.reverse_append]
    exact m5
   ·intro x hx
    rw [htk] at hx
    rcases List.mem_append.1 hx with hx | hx
    ·exact hin x hx
    ·rw [List.mem_singleton.1 hx]; exact r2
 ·have r:=of_decide_eq_false r
  have hie:i=w.globs.length:=by omega
  subst hie
  rw [List.take_length] at m2 hin
  have hend:endR_ w=.ok ⟨w.text,w.data,w.equs,sortN (w.globs.map (·.1))⟩:=by
   unfold endR_ undW
   rw [List.find?_eq_none.2 (fun x hx=>by rw [hin x hx]; simp)]
  obtain ⟨nn,D,mD,hD,hDl⟩:=m2
  have hnd:=MapB.nodup mD
  have hkeys:∀ s,s∈(vE eB D).map (·.1)↔s∈w.globs.map (·.1):=by
   intro s
   have h1:gE D s=(if inN ((w.globs.map (·.1)).reverse) s=true then some true else none):=hD s
   have hv1:(vE eB D).map (·.1)=D.map (·.1):=by unfold vE; rw [List.map_map]; rfl
   rw [hv1]
   by_cases hs:s∈w.globs.map (·.1)
   ·refine ⟨fun _=>hs,fun _=>?_⟩
    rw [if_pos (inN_iff.2 (List.mem_reverse.2 hs))] at h1
    unfold gE at h1
    obtain ⟨x,hx,_⟩:=Option.map_eq_some_iff.1 h1
    have h3:=List.find?_some hx
    have h4:=List.mem_of_find?_eq_some hx
    rw [of_decide_eq_true h3]
    exact List.mem_map_of_mem h4
   ·refine ⟨fun hm=>?_,fun hm=>absurd hm hs⟩
    have hnin:inN ((w.globs.map (·.1)).reverse) s=false:=by
     cases hh:inN ((w.globs.map (·.1)).reverse) s with
     | false=>rfl
     | true=>exact absurd (List.mem_reverse.1 (inN_iff.1 hh)) hs
    rw [hnin] at h1
    unfold gE at h1
    simp only [Bool.false_eq_true,if_false,Option.map_eq_none_iff,List.find?_eq_none] at h1
    obtain ⟨x,hx,hxs⟩:=List.mem_map.1 hm
    exact absurd (decide_eq_true hxs.symm) (h1 x hx)
  have hks:=keysOf_sort hnd hkeys
  have hDn:(vE eB D).length≤2^40:=by
   have h1:((vE eB D).map (·.1)).Perm (sortN (w.globs.map (·.1))):=(List.perm_ext_iff_of_nodup hnd ((sortN_rise _).imp fun h=>ltN_ne h)).2 fun s=>by rw [hkeys,sortN_mem]
   have h2:=h1.length_eq
   rw [List.length_map] at h2
   have h3:=sortN_len (w.globs.map (·.1))
   rw [List.length_map] at h3
   omega
  refine loads_box bv2 (some ⟨A,0,none⟩,()) rfl ?_
  dsimp only [flat,unc,unc1,nA,cA]
  refine call_of (keysB_hc (some h.size) h2) ?_
  rintro _ h3 ⟨rfl,rfl⟩
  refine ⟨(Value.func (.func 68) #[] #[.pointer (some ⟨h2.size,0,none⟩)],()),rfl,?_⟩
  dsimp only [flat,unc,unc1,nA,cA]
  have e23:Ext h2 (h2.push (.cells #[.map (some h.size)] 70)):=Ext.push _ _
  refine ⟨⟨(bv2.keep e23 (by simp)).cells _ rfl,trivial⟩,?_⟩
  refine call_of (sortedB_hc mD hDn) ?_
  rintro _ h4 ⟨ps,ls,cs,rfl,sS,e34⟩
  refine ⟨((ps,ls,cs),()),rfl,?_⟩
  dsimp only [flat,unc,unc1,nA,cA]
  rw [hks,enc_back] at sS
  have e24:=e23.trans e34
  have bv4:=bv2.keep e24 (by simp)
  have a4:=a2.keep e24 (by simp)
  refine ⟨⟨bv4.cells _ rfl,trivial⟩,?_⟩
  refine osome_mk rfl ?_
  rw [add_box]
  refine stores_of a4.box rfl (by simp [asmC]) ?_
  intro h5 b5 k5 z5
  have b5:Box h5 A 73 [t.v,d.v,e'.v,.slice ps ls cs,.int .i64 (w.sec:Int),.int .i64 ((w.text.length+w.data.length:Nat):Int),.map (some g),q.v]:=b5
  have bv5:=bv4.keep k5 (by simp; exact nvA)
  refine loads_box bv5 (some ⟨A,0,none⟩,()) rfl ?_
  dsimp only [flat,unc,unc1,nA,cA]
  refine osome_mk rfl ?_
  refine loads_box b5 ((t.p,t.l,t.c),(d.p,d.l,d.c),(e'.p,e'.l,e'.c),(ps,ls,cs),()) rfl ?_
  dsimp only [flat,unc,unc1,nA,cA]
  have bu5:=(bu2.keep e24 (by simp)).keep k5 (by simp; omega)
  have be5:=(be2.keep e24 (by simp)).keep k5 (by simp; omega)
  obtain ⟨y1,y2,y3,y4,rfl⟩:∃ y1 y2 y3 y4,xs=[y1,y2,y3,y4]:=by
   match xs,hxs with
   | [y1,y2,y3,y4],_=>exact ⟨y1,y2,y3,y4,rfl⟩
  refine stores_of bu5 rfl (by simp) ?_
  intro h6 b6 k6 z6
  have b6:Box h6 u 27 [t.v,d.v,e'.v,.slice ps ls cs]:=b6
  refine stores_of (be5.keep k6 (by simp; omega)) rfl (by simp) ?_
  intro h7 b7 k7 z7
  have b7:Box h7 e 29 [.nilIface]:=b7
  have b67:=b6.keep k7 (by simp; omega)
  refine loads_box b67 ((t.p,t.l,t.c),(d.p,d.l,d.c),(e'.p,e'.l,e'.c),(ps,ls,cs),()) rfl ?_
  dsimp only [flat,unc,unc1,nA,cA]
  refine loads_box b7 (Value.nilIface,()) rfl ?_
  refine ⟨((((e2.trans e24).mono (by simp)).trans k5 (fun j hj _=>by have hj:=List.mem_singleton.1 hj; simp [hj])).trans k6 (fun j hj _=>by have hj:=List.mem_singleton.1 hj; simp [hj])).trans k7 (fun j hj _=>by have hj:=List.mem_singleton.1 hj; simp [hj]),t,d,e',⟨ps,ls,cs⟩,_,rfl,?_,?_,b67,b7⟩
  ·rw [hend]
   have C5:=a4.core.keep k5 (fun j hj _ _=>by have hj:=List.mem_singleton.1 hj; subst hj; have:=a4.oA; omega)
   have C7:=(C5.keep k6 (fun j hj _ hbj=>by have hj:=List.mem_singleton.1 hj; omega)).keep k7 (fun j hj _ hbj=>by have hj:=List.mem_singleton.1 hj; omega)
   have hsz2:h2.size<(h2.push (.cells #[.map (some h.size)] 70)).size:=by simp
   refine ⟨ut,ud,ue,ow,C7,Sx.SL.mono (Sx.SL.keep' (Sx.SL.keep' (Sx.SL.keep' sS k5 (fun j hj hm=>?_)) k6 (fun j hj hm=>?_)) k7 (fun j hj hm=>?_)) (by omega)⟩
   ·have:=(Sx.SL.blk sS hj).1; have hm:=List.mem_singleton.1 hm; have:=a.box.lt; omega
   ·have:=(Sx.SL.blk sS hj).1; have hm:=List.mem_singleton.1 hm; omega
   ·have:=(Sx.SL.blk sS hj).1; have hm:=List.mem_singleton.1 hm; omega
  ·rw [hend]; rfl
open Go.Proofs
def runN:Wld→List (Nat × ByteArray)→Except (Nat × Nat) Wld
 | w,[]=>.ok w
 | w,x::l=>match lineW w x.1 x.2 with
  | .error e=>.error (x.1,e)
  | .ok w'=>runN w' l
theorem runN_app:∀ (a b:List (Nat × ByteArray)) (w:Wld),runN w (a++b)=match runN w a with
  | .error e=>.error e
  | .ok w'=>runN w' b
 | [],b,w=>rfl
 | x::a,b,w=>by
  simp only [List.cons_append,runN]
  cases lineW w x.1 x.2 with
  | error e=>rfl
  | ok w1=>exact runN_app a b w1
theorem runN_run:∀ (f n:Nat) (s:ByteArray) (w:Wld),runN w (Go.Proofs.linesF f n s)=runW w n ((Go.Proofs.linesF f n s).map (·.2))
 | 0,n,s,w=>rfl
 | f+1,n,s,w=>by
  unfold Go.Proofs.linesF
  split
  ·rfl
  ·simp only [List.map_cons,runN,runW]
   cases lineW w n (cutA s) with
   | error e=>rfl
   | ok w1=>exact runN_run f (n+1) (cutB s) w1
theorem runN_all (src:ByteArray):runN wld0 (Go.Proofs.linesF (src.size+1) 1 src)=runW wld0 1 (linesL src):=by
 rw [runN_run,← lnS_eq]
 rfl
theorem runN_pre {a l:List (Nat × ByteArray)} {w:Wld} {q:Nat × Nat} (h:a <+: l) (he:runN w a=.error q):runN w l=.error q:=by
 obtain ⟨t,rfl⟩:=h
 rw [runN_app,he]
theorem line_in {src:ByteArray} {x:Nat × ByteArray} (h:x∈Go.Proofs.linesF (src.size+1) 1 src):x.1≤src.size+1∧x.2.size≤src.size:=by
 obtain ⟨k,hk,rfl⟩:=List.getElem_of_mem h
 have h1:=linesF_num _ _ _ _ _ (List.getElem?_eq_getElem hk)
 have h2:=Go.Proofs.linesF_len (src.size+1) 1 src
 refine ⟨by omega,?_⟩
 have h3:(Go.Proofs.linesF (src.size+1) 1 src)[k].2∈lnS src:=by
  unfold lnS
  exact List.mem_map_of_mem h
 rw [lnS_eq] at h3
 exact linesL_size src _ h3
def isCl (h:Hp) (i:Nat):Prop:=∃ c e f,h[i]?=some (.cells c e f)
theorem SL.isCl {h:Hp} {b:Nat} {e:TypeId} {sz:Nat} {p:Option Addr} {l c:Nat} {xs:List (List Value)} (s:SL h b e sz p l c xs) {i:Nat} (hi:i∈blkOf p):isCl h i:=by
 cases p with
 | none=>simp [blkOf] at hi
 | some a =>
  obtain ⟨g,pre,rest,rfl,hbg,hlc,hbox,hr⟩:=s.2.2
  simp [blkOf] at hi
  subst hi
  exact ⟨_,_,_,hbox⟩
section
variable {h h':Hp} {b A g:Nat} {w:Wld} {t d e q:Sli} {ut ud:List (Sli × Itm)} {ue:List (Sli × Eqn)} {ow:Nat→Nat}
open Classical in
theorem AsmAt.nine (a:AsmAt h b A g w t d e q ut ud ue ow):∃ ow',AsmAt h b A g w t d e q ut ud ue ow'∧(∀ i,ow i=9→ow' i=9)∧∀ i o,h[i]?=some o→o.isCells=false→i≠g→ow' i=9:=by
 obtain ⟨ow',how⟩:∃ ow':Nat→Nat,ow'=fun i=>if (∃ o,h[i]?=some o∧o.isCells=false)∧i≠g then 9 else ow i:=⟨_,rfl⟩
 have hc:∀ i,isCl h i→ow' i=ow i:=by
  rintro i ⟨c,e,f,hi⟩
  rw [how]
  refine if_neg ?_
  rintro ⟨⟨o,ho,hn⟩,_⟩
  rw [hi] at ho
  cases ho
  cases hn
 have C:=a.core
 refine ⟨ow',⟨⟨C.t1,C.t2,C.t3,C.d1,C.d2,C.d3,C.e1,C.e2,C.e3,fun i hi=>(hc i (SL.isCl C.t1 hi)).trans (C.o3 i hi),fun i hi=>(hc i (SL.isCl C.d1 hi)).trans (C.o4 i hi),fun i hi=>(hc i (SL.isCl C.e1 hi)).trans (C.o5 i hi),
  fun u hu i hi=>(hc i (SL.isCl (C.t2 u hu) hi)).trans (C.ot u hu i hi),fun u hu i hi=>(hc i (SL.isCl (C.d2 u hu) hi)).trans (C.od u hu i hi),fun u hu i hi=>(hc i (SL.isCl (C.e2 u hu) hi)).trans (C.oe u hu i hi)⟩,
  a.box,a.names,a.globs,(hc A ⟨_,_,_,a.box⟩).trans a.oA,?_,fun i hi=>(hc i (SL.isCl a.globs hi)).trans (a.oq i hi),a.bA,a.bg⟩,?_,?_⟩
 ·rw [how]
  exact (if_neg (fun x=>x.2 rfl)).trans a.og
 ·intro i hi
  rw [how]
  simp only
  split
  ·rfl
  ·exact hi
 ·intro i o ho hn hg
  rw [how]
  exact if_pos ⟨⟨o,ho,hn⟩,hg⟩
theorem AsmAt.grown {W W':World} {row:Option Nat} {v:Nat} (a:AsmAt W.heap b A g w t d e q ut ud ue ow) (hv:ow v=9) (hg:W.grownBy W' row) (hr:∀ r,row=some r→g<r∧∃ o:Obj,W.heap[r]?=some o∧o.isCells=false) :
  ∃ ow',AsmAt W'.heap b A g w t d e q ut ud ue ow'∧ow' v=9:=by
 obtain ⟨ow',a',h9,hn⟩:=a.nine
 have k:Ch row.toList W.heap W'.heap:=⟨hg.size,fun i hi hw=>hg.block i hi (fun e=>hw (by rw [← e]; simp))⟩
 refine ⟨ow',a'.keep k (fun i hi hl _=>?_),h9 v hv⟩
 have hrow:row=some i:=by simpa using hi
 obtain ⟨h1,o,h2,h3⟩:=hr i hrow
 rw [hn i o h2 h3 (by omega)]
 omega
end
end Go.Sx.Ob
set_option linter.unusedVariables false
set_option linter.unusedSimpArgs false
set_option maxRecDepth 100000
namespace Go.Sx
theorem part_keeps {P:Program} {fn:Func} {cuts:List Nat} {c:Code} {env:Env} {a:Act} {h:Hp} {K:Value→Hp→Prop} {dl:List Deferred} {t:T} (hm:P.follows .mixedOrders=true) (he:xrest P cuts fn c env=t) (ht:t [] K h) (g:Agr ⟨fn.ntmps,dl⟩ env a) :
  cW P c (fun x a h=>(x=.normal∨x=.ret)∧a.defers=dl∧(∀ s v,s∉mods c→eget env s=some v→a.tmps.getD s undef=v)∧∃ v,K v h) a h:=by
 subst he
 unfold xrest at ht
 refine xcode_of (n:=⟨fn.ntmps,dl⟩) (rok hm) 100000 c env _ [] K _ a h ?_ ht g
 intro x e a h L' hp hx g' fr
 cases x <;> simp only at hx <;> first | exact hx.elim | skip
 ·obtain ⟨vs,hk,hres⟩:=xres_of g' hx
  exact ⟨.inl rfl,g'.defers,fun s v hs hv=>g'.get s v ((fr s hs).trans hv),_,hk⟩
 ·obtain ⟨vs,hk,hres⟩:=xres_of g' hx
  exact ⟨.inr rfl,g'.defers,fun s v hs hv=>g'.get s v ((fr s hs).trans hv),_,hk⟩
end Go.Sx
namespace Go.Proofs
open Go.Sx Go.Sx.Ob
theorem mods10:2∉mods (tailOf 7 Tryz.f10)∧3∉mods (tailOf 7 Tryz.f10):=by
 have h:(mods (tailOf 7 Tryz.f10)).contains 2=false:=by kernel_rfl
 have h':(mods (tailOf 7 Tryz.f10)).contains 3=false:=by kernel_rfl
 exact ⟨fun x=>Bool.noConfusion ((List.contains_iff_mem.2 x).symm.trans h),fun x=>Bool.noConfusion ((List.contains_iff_mem.2 x).symm.trans h')⟩
theorem tail10 {h:Hp} {u e v:Nat} {K:Value→Hp→Prop} (ht:t_unit_Assemble_rest u e v [] K h) {a:Act} {dl:List Deferred} {w:World} (hw:w.heap=h) (hs:a.tmps.size=Tryz.f10.ntmps) (hd:a.defers=dl) (g2:a.tmps.getD 2 undef=.pointer (some ⟨u,0,none⟩)) (g3:a.tmps.getD 3 undef=.pointer (some ⟨e,0,none⟩)) (g5:a.tmps.getD 5 undef=.pointer (some ⟨v,0,none⟩))
  {Q:Exit→Act→World→Prop} (hQ:∀ x a' w',(x=.normal∨x=.ret)→a'.defers=dl→a'.tmps.getD 2 undef=.pointer (some ⟨u,0,none⟩)→a'.tmps.getD 3 undef=.pointer (some ⟨e,0,none⟩)→SameO w w'→(∃ v,K v w'.heap)→Q x a' w') :
  (tailOf 7 Tryz.f10).wp Tryz.prog Q a w:=by
 have hr:∀ (s:Nat) (x:Value),eget [(2,some (.pointer (some (⟨u,0,none⟩:Addr)))),(3,some (.pointer (some (⟨e,0,none⟩:Addr)))),(5,some (.pointer (some (⟨v,0,none⟩:Addr))))] s=some x→a.tmps.getD s undef=x:=by
  intro s x hx
  by_cases h2:s=2
  ·subst h2
   exact g2.trans (Option.some.inj hx)
  by_cases h3:s=3
  ·subst h3
   exact g3.trans (Option.some.inj hx)
  by_cases h5:s=5
  ·subst h5
   exact g5.trans (Option.some.inj hx)
  ·exfalso
   have b2:Nat.beq 2 s=false:=by rw [Bool.eq_false_iff]; intro hh; exact h2 (Nat.eq_of_beq_eq_true hh).symm
   have b3:Nat.beq 3 s=false:=by rw [Bool.eq_false_iff]; intro hh; exact h3 (Nat.eq_of_beq_eq_true hh).symm
   have b5:Nat.beq 5 s=false:=by rw [Bool.eq_false_iff]; intro hh; exact h5 (Nat.eq_of_beq_eq_true hh).symm
   have b2':Nat.beq s 2=false:=by rw [Bool.eq_false_iff]; intro hh; exact h2 (Nat.eq_of_beq_eq_true hh)
   have b3':Nat.beq s 3=false:=by rw [Bool.eq_false_iff]; intro hh; exact h3 (Nat.eq_of_beq_eq_true hh)
   have b5':Nat.beq s 5=false:=by rw [Bool.eq_false_iff]; intro hh; exact h5 (Nat.eq_of_beq_eq_true hh)
   simp [eget,b2,b3,b5,b2',b3',b5'] at hx
 have hc:=part_keeps (P:=Tryz.prog) (dl:=dl) mixed (t_unit_Assemble_rest_eq u e v) ht ⟨hs,hd,hr⟩
 refine Code.wp_mono (fun x a' w' ⟨so,hx,hd',hk,hv⟩=>hQ x a' w' hx hd' (hk 2 _ mods10.1 rfl) (hk 3 _ mods10.2 rfl) so hv) (hc w w (SameO.refl _) hw)
end Go.Proofs
set_option linter.unusedVariables false
set_option linter.unusedSimpArgs false
set_option maxRecDepth 100000
namespace Go.Proofs
open Go.RowKit Go.Shelf Go.Sx.Ob
attribute [local go_sem] Oper.semAt_some
theorem SaveFor.set2 {n x:Nat} {w w':World} (h:SaveFor n x w w') (hn:n≤w.heap.size) (v:Value):SaveFor n x w (w'.setCell ⟨x,0,none⟩ v) :=
 ⟨by simpa using h.1,fun k hk hx=>((grownBy_setCell' w' x v).block k (by have:=h.1; omega) (fun e=>hx (by cases e; rfl))).trans (h.2 k hk hx)⟩
theorem SaveFor.alloc {n x:Nat} {w w':World} (h:SaveFor n x w w') (hn:n≤w.heap.size) (o:Obj):SaveFor n x w (w'.alloc o) :=
 ⟨by have:=h.1; simp; omega,fun k hk hx=>(Below.heap_alloc w' o k (by have:=h.1; omega)).trans (h.2 k hk hx)⟩
theorem SaveFor.box {n x:Nat} {w w':World} (h:SaveFor n x w w') {g:Nat} {e:TypeId} {xs:List Value} (b:Sx.Box w.heap g e xs) (hg:g<n) (hx:g≠x):Sx.Box w'.heap g e xs:=(h.2 g hg hx).trans b
theorem box_set {w:World} {g off:Nat} {e:TypeId} {xs:List Value} (b:Sx.Box w.heap g e xs) (v:Value):Sx.Box (w.setCell ⟨g,off,none⟩ v).heap g e (xs.set off v):=(Sx.hset_box b v).1
theorem box_other {w:World} {g g' off:Nat} {e:TypeId} {xs:List Value} (b:Sx.Box w.heap g e xs) (hne:g≠g') (v:Value):Sx.Box (w.setCell ⟨g',off,none⟩ v).heap g e xs :=
 (Below.heap_setCell w ⟨g',off,none⟩ v g hne).trans b
theorem run_makeMap70 (w:World):(Instr.makeMap 70 none).run Tryz.prog w=.ok (.map (some w.heap.size)) (w.alloc (.map #[] 0)):=rfl
attribute [local go_sem] run_makeMap70
theorem asm_end {src:ByteArray} {w:Wld} (h1:¬ 65536<src.size) (h2:¬ 4096<(linesL src).length) (hr:runW wld0 1 (linesL src)=.ok w):asmS src=endR_ w:=by
 unfold asmS endR_
 rw [if_neg h1,if_neg h2,hr]
 rfl
theorem asm_err {src:ByteArray} {q:Nat × Nat} (h1:¬ 65536<src.size) (h2:¬ 4096<(linesL src).length) (hr:runW wld0 1 (linesL src)=.error q):asmS src=.error q:=by
 unfold asmS
 rw [if_neg h1,if_neg h2,hr]
open Classical in
theorem untC_cells {h h':Sx.Hp} {b:Nat} {a b' c d:Sli} {u:Unt} (U:UntC h b a b' c d u) (hs:h.size≤h'.size) (hc:∀ i,isCl h i→h'[i]?=h[i]?):UntC h' b a b' c d u:=by
 have k:Sx.Ch ((List.range h.size).filter (fun i=>decide (¬ isCl h i))) h h':=⟨hs,fun i hi hn=>hc i (Classical.byContradiction fun hh=>hn (List.mem_filter.2 ⟨List.mem_range.2 hi,decide_eq_true hh⟩))⟩
 obtain ⟨ut,ud,ue,ow,C,S⟩:=U
 have f:∀ {e:TypeId} {sz:Nat} {p:Option Addr} {l c:Nat} {xs:List (List Value)},Sx.SL h b e sz p l c xs→Sx.SL h' b e sz p l c xs:=fun s=>Sx.SL.keep' s k (fun i hi hm=>of_decide_eq_true (List.mem_filter.1 hm).2 (SL.isCl s hi))
 exact ⟨ut,ud,ue,ow,⟨f C.t1,fun u hu=>f (C.t2 u hu),C.t3,f C.d1,fun u hu=>f (C.d2 u hu),C.d3,f C.e1,fun u hu=>f (C.e2 u hu),C.e3,C.o3,C.o4,C.o5,C.ot,C.od,C.oe⟩,f S⟩
theorem errAt_cells {h h':Sx.Hp} {v:Value} {e:Option (Nat × Nat)} (E:ErrAt h v e) (hc:∀ i,isCl h i→h'[i]?=h[i]?):ErrAt h' v e:=by
 cases e with
 | none=>exact E
 | some e =>
  obtain ⟨a,h1,h2⟩:=E
  exact ⟨a,h1,(hc a ⟨_,_,_,h2⟩).trans h2⟩
def AsmR (src:ByteArray) (W:World) (e:Ending) (w':World):Prop :=
 ∃ (a b' c d:Sli) (ev:Value),e=.returned (.tuple #[untV a b' c d,ev])∧UntC w'.heap W.heap.size a b' c d (outR (asmS src)).1∧ErrAt w'.heap ev (errO (asmS src))∧Below W.heap.size W w'
theorem asmR_err {src:ByteArray} {W w':World} {q:Nat × Nat} {ax:Nat} (h:asmS src=.error q) (b:Sx.Box w'.heap ax 63 [.int .i64 (q.1:Int),.int .i64 (q.2:Int)]) (hb:Below W.heap.size W w') :
  AsmR src W (.returned (.tuple #[.agg #[.slice none 0 0,.slice none 0 0,.slice none 0 0,.slice none 0 0],.iface 59 (.pointer (some ⟨ax,0,none⟩))])) w' :=
 ⟨sl0,sl0,sl0,sl0,_,rfl,by rw [h]; exact UntC.zero _ _,by rw [h]; exact ⟨ax,rfl,b⟩,hb⟩
set_option maxHeartbeats 4000000 in
theorem asm_in (W:World) (src:ByteArray) (hl:Sx.Laid W.heap) (tb:TabN W.heap) (m:Int) (hm:W.cell? ⟨2,0,none⟩=some (.int .i64 m)) :
  CallsIn Fence.wide 7 Tryz.prog 10 #[.string src] W (AsmR src W):=by
 have hW3:2<W.heap.size:=cell_lt hm
 refine callsIn_of_wp_marks Tryz.func10 rfl trivial ?_ rfl
 simp only [Tryz.ntmps10,List.size_toArray,List.length_cons,List.length_nil,Nat.reduceAdd,Nat.reduceSub,Array.replicate_succ,Array.replicate_zero,List.push_toArray,List.append_toArray,List.nil_append,List.cons_append]
 gi_wp2
 ·rename_i hbig
  refine fin10 (b0:=W.heap.size) (p:=W.heap.size) (q:=W.heap.size+1) (ev:=.iface 59 (.pointer (some ⟨W.heap.size+1+1,0,none⟩))) ⟨[],rfl,by simp,by simp⟩ rfl rfl (((Sx.Box.new W.heap 27 [.slice none 0 0,.slice none 0 0,.slice none 0 0,.slice none 0 0]).keep (Sx.Ext.push _ _) (by simp)).keep (Sx.Ext.push _ _) (by simp)) ?_ ?_
  ·have h1:=Sx.Box.new (W.heap.push (.cells #[.slice none 0 0,.slice none 0 0,.slice none 0 0,.slice none 0 0] 27)) 29 [.iface 59 (.pointer (some ⟨W.heap.size+1+1,0,none⟩))]
   simp only [Array.size_push] at h1
   exact h1.keep (Sx.Ext.push _ _) (by simp)
  ·intro w' hb hk
   have h2:=Sx.Box.new ((W.heap.push (.cells #[.slice none 0 0,.slice none 0 0,.slice none 0 0,.slice none 0 0] 27)).push (.cells #[.iface 59 (.pointer (some ⟨W.heap.size+1+1,0,none⟩))] 29)) 63 [.int .i64 (0:Int),.int .i64 (3:Int)]
   simp only [Array.size_push] at h2
   refine asmR_err (q:=(0,3)) (by unfold asmS; rw [if_pos (by omega)]) ((hk _ (by unfold Sx.Box at h2; erw [h2]; simp)).trans h2) ?_
   exact (((Below.refl _ W).alloc (Nat.le_refl _) _).alloc (by simp) _ |>.alloc (by simp; omega) _).trans hb
 have hsz:src.size≤65536:=by omega
 refine calls_wide (Sx.all_hc src _) (fun v h' h=>h.2.2.1) ?_
 rintro _ w2 B2 ⟨rfl,b2,-,z2⟩
 have hu0:Sx.Box w2.heap W.heap.size 27 [.slice none 0 0,.slice none 0 0,.slice none 0 0,.slice none 0 0] :=
  (B2.block _ (by simp; omega)).trans (((Sx.Box.new W.heap 27 [.slice none 0 0,.slice none 0 0,.slice none 0 0,.slice none 0 0]).keep (Sx.Ext.push _ _) (by simp)).keep (Sx.Ext.push _ _) (by simp))
 have he0:Sx.Box w2.heap (W.heap.size+1) 29 [.nilIface]:=by
  have h1:=Sx.Box.new (W.heap.push (.cells #[.slice none 0 0,.slice none 0 0,.slice none 0 0,.slice none 0 0] 27)) 29 [.nilIface]
  simp only [Array.size_push] at h1
  exact (B2.block _ (by simp)).trans (h1.keep (Sx.Ext.push _ _) (by simp))
 have hl0:Boxed w2 (W.heap.size+1+1) 3 (.int .i64 (0:Int)):=by
  have h1:=Boxed.new ((W.alloc (.cells #[.slice none 0 0,.slice none 0 0,.slice none 0 0,.slice none 0 0] 27)).alloc (.cells #[.nilIface] 29)) 3 (.int .i64 (0:Int))
  have h2:=box_below h1 B2 (by simp)
  simpa using h2
 have hb2:Boxed w2 (W.heap.size+1+1+1) 9 (.string src):=by
  have:Sx.Box w2.heap (W.heap.size+1+1+1) 9 [.string src]:=by simpa using b2
  exact this
 have BW:Below W.heap.size W w2:=((((Below.refl _ W).alloc (Nat.le_refl _) _).alloc (by simp) _).alloc (by simp; omega) _).trans (B2.mono (by simp; omega))
 have z2:w2.heap.size=W.heap.size+4:=by rw [z2]; simp
 clear B2 b2
 gi_wp2
 refine wpIn_rangeFunc_ownG (F:=Fence.wide) rfl (by omega) (gf:=62) (lb:=#[.pointer (some ⟨W.heap.size+1+1+1,0,none⟩)]) rfl trivial (enters_of Tryz.func62 (by kernel_rfl) rfl)
   (all76_stops (W.heap.size+1+1+1) 3 src (by omega) Sx.cutB_lt m _ ((BW.cell (p:=⟨2,0,none⟩) hW3).trans hm) (by omega) (by omega) hb2.cell) belowK_t (belowK_b (by omega)) (Below.refl _ _) (fun _=>rfl)
   (fun pre W'=>Boxed W' (W.heap.size+1+1) 3 (.int .i64 (pre.length:Int))∧SaveFor w2.heap.size (W.heap.size+1+1) w2 W'∧Sx.SameO w2 W')
   (fun c pre W'=>False)
   (fun s A B row hs hg hr=>⟨boxed_own (β:=List (Nat × ByteArray)) _ 3 (fun pre=>.int .i64 (pre.length:Int)) s A B row hs.1 hg (fun r e=>(hr r e).2),saveFor_own (β:=Unit) (by simp) (Nat.le_refl _) () A B row hs.2.1 hg hr,⟨hg.os.trans hs.2.2.os,hg.tape.trans hs.2.2.tape,hg.output.trans hs.2.2.output⟩⟩)
   (fun c s A B row hs hg hr=>hs)
   ⟨hl0,⟨Nat.le_refl _,fun _ _ _=>rfl⟩,Sx.SameO.refl _⟩
   (fun x=>{ tmps:=#[.string src,undef,.pointer (some ⟨W.heap.size,0,none⟩),.pointer (some ⟨W.heap.size+1,0,none⟩),.pointer (some ⟨W.heap.size+1+1,0,none⟩),undef,undef,undef,undef,undef,undef,undef,.string src,.int .i64 (src.size:Int),.bool (decide (65536<(src.size:Int))),undef,undef,undef,undef,.string src,.func (.func 62) #[] #[.pointer (some ⟨W.heap.size+1+1+1,0,none⟩)],.int .i64 (x.1:Int),.string x.2,undef,undef,undef,undef,undef,undef,undef,undef,undef,undef,undef,undef,undef,undef,undef,undef,undef,undef,undef,undef,undef,undef,undef,undef,undef,undef,undef,undef,undef,undef,undef,undef,undef,undef,undef,undef,undef,undef,undef,undef,undef,undef,undef,undef,undef,undef,undef,undef,undef,undef,undef,undef,undef,undef,undef,undef,undef,undef,undef,undef,undef,undef,undef,undef,undef,undef],defers:=[] }) ?assign ?body ?done ?stop
 case assign =>
  intro l x W' K hK
  unfold encL
  gi_wp2
  exact hK
 case stop =>
  intro D c pre W' hD hS hx
  exact hx.elim
 case body =>
  rintro l pre x W' ⟨bn,hsv,hso⟩ hlen
  have e1:=bn.cell
  have f1:=bn.frozen
  have hll:=linesF_len (src.size+1) 1 src
  have hwr:wrap64 ((pre.length:Int)+1)=((pre.length+1:Nat):Int):=by
   rw [Go.IntWalk.wrap64_in _ ⟨by omega,by omega⟩]
   omega
  gi_wp2
  refine ⟨(KeepsOthers.setCell _ _ _).from _,(Below.refl _ W').setCell (p:=⟨W.heap.size+1+1,0,none⟩) (by show 3≤_+1+1; omega) _,?_,hsv.set2 (Nat.le_refl _) _,⟨hso.os,hso.tape,hso.output⟩⟩
  rw [show (((pre++[x]).length:Nat):Int)=(pre.length:Int)+1 by simp]
  exact bn.set _
 case done =>
  rintro D1 ys w3 hD1 rfl ⟨bn,hsv,hso⟩ hK1
  have e1:=bn.cell
  have hll:=linesF_len (src.size+1) 1 src
  have hu3:=hsv.box hu0 (by omega) (by omega)
  have he3:=hsv.box he0 (by omega) (by omega)
  have hu4:=hu3.keep (Sx.Ext.push w3.heap (.cells #[.int .i64 4097,.int .i64 4] 63)) (by simp)
  have he4:=he3.keep (Sx.Ext.push w3.heap (.cells #[.int .i64 4097,.int .i64 4] 63)) (by simp)
  have c0:(w3.alloc (.cells #[.int .i64 4097,.int .i64 4] 63)).cell? ⟨W.heap.size,0,none⟩=some (.slice none 0 0):=hu4.cell.trans rfl
  have c1:(w3.alloc (.cells #[.int .i64 4097,.int .i64 4] 63)).cell? ⟨W.heap.size,1,none⟩=some (.slice none 0 0):=hu4.cell.trans rfl
  have c2:(w3.alloc (.cells #[.int .i64 4097,.int .i64 4] 63)).cell? ⟨W.heap.size,2,none⟩=some (.slice none 0 0):=hu4.cell.trans rfl
  have c3:(w3.alloc (.cells #[.int .i64 4097,.int .i64 4] 63)).cell? ⟨W.heap.size,3,none⟩=some (.slice none 0 0):=hu4.cell.trans rfl
  have c4:(w3.alloc (.cells #[.int .i64 4097,.int .i64 4] 63)).cell? ⟨W.heap.size+1,0,none⟩=some .nilIface:=he4.cell.trans rfl
  have f0:(w3.alloc (.cells #[.int .i64 4097,.int .i64 4] 63)).frozen? ⟨W.heap.size,0,none⟩=false:=hu4.frozen
  have f1:(w3.alloc (.cells #[.int .i64 4097,.int .i64 4] 63)).frozen? ⟨W.heap.size,1,none⟩=false:=hu4.frozen
  have f2:(w3.alloc (.cells #[.int .i64 4097,.int .i64 4] 63)).frozen? ⟨W.heap.size,2,none⟩=false:=hu4.frozen
  have f3:(w3.alloc (.cells #[.int .i64 4097,.int .i64 4] 63)).frozen? ⟨W.heap.size,3,none⟩=false:=hu4.frozen
  have f4:(w3.alloc (.cells #[.int .i64 4097,.int .i64 4] 63)).frozen? ⟨W.heap.size+1,0,none⟩=false:=he4.frozen
  have BW3:Below W.heap.size W w3:=⟨hso.os.trans BW.os,hso.tape.trans BW.tape,hso.output.trans BW.output,by have:=hsv.1; omega,fun k hk=>(hsv.2 k (by omega) (by omega)).trans (BW.block k hk)⟩
  have hD1l:D1<w3.heap.size:=(Array.getElem?_eq_some_iff.1 hK1).1
  gi_wp2
  ·rename_i hmany
   have hu5:=box_other (g':=W.heap.size+1) (off:=0) (box_set (off:=3) (box_set (off:=2) (box_set (off:=1) (box_set (off:=0) (w:=w3.alloc (.cells #[.int .i64 4097,.int .i64 4] 63)) hu4 (.slice none 0 0)) (.slice none 0 0)) (.slice none 0 0)) (.slice none 0 0)) (by omega) (.iface 59 (.pointer (some ⟨w3.heap.size,0,none⟩)))
   have he5:=box_set (off:=0) (box_other (g':=W.heap.size) (off:=3) (box_other (g':=W.heap.size) (off:=2) (box_other (g':=W.heap.size) (off:=1) (box_other (g':=W.heap.size) (off:=0) (w:=w3.alloc (.cells #[.int .i64 4097,.int .i64 4] 63)) he4 (by omega) (.slice none 0 0)) (by omega) (.slice none 0 0)) (by omega) (.slice none 0 0)) (by omega) (.slice none 0 0)) (.iface 59 (.pointer (some ⟨w3.heap.size,0,none⟩)))
   have hx5:=box_other (g':=W.heap.size+1) (off:=0) (box_other (g':=W.heap.size) (off:=3) (box_other (g':=W.heap.size) (off:=2) (box_other (g':=W.heap.size) (off:=1) (box_other (g':=W.heap.size) (off:=0) (w:=w3.alloc (.cells #[.int .i64 4097,.int .i64 4] 63)) (Sx.Box.new w3.heap 63 [.int .i64 4097,.int .i64 4]) (by have:=hsv.1; omega) (.slice none 0 0)) (by have:=hsv.1; omega) (.slice none 0 0)) (by have:=hsv.1; omega) (.slice none 0 0)) (by have:=hsv.1; omega) (.slice none 0 0)) (by have:=hsv.1; omega) (.iface 59 (.pointer (some ⟨w3.heap.size,0,none⟩)))
   refine fin10 (b0:=W.heap.size) (p:=W.heap.size) (q:=W.heap.size+1) (ev:=.iface 59 (.pointer (some ⟨w3.heap.size,0,none⟩))) ⟨[D1],rfl,by simp,?_⟩ rfl rfl hu5 he5 ?_
   ·intro D hD
    have hD:=List.mem_singleton.1 hD
    subst hD
    have da:D≠W.heap.size:=by omega
    have db:D≠W.heap.size+1:=by omega
    refine ⟨by omega,?_⟩
    refine (Below.heap_setCell _ _ _ _ db).trans ?_
    refine (Below.heap_setCell _ _ _ _ da).trans ?_
    refine (Below.heap_setCell _ _ _ _ da).trans ?_
    refine (Below.heap_setCell _ _ _ _ da).trans ?_
    refine (Below.heap_setCell _ _ _ _ da).trans ?_
    exact (Below.heap_alloc w3 _ D hD1l).trans hK1
   ·intro w' hb hk
    refine asmR_err (q:=(4097,4)) (by unfold asmS; rw [if_neg (by omega),if_pos (by rw [← Sx.Ob.lnS_eq]; unfold Sx.lnS; rw [List.length_map]; omega)]) ((hk _ (by unfold Sx.Box at hx5; erw [hx5]; simp)).trans hx5) ?_
    exact ((((((BW3.alloc BW3.size _).setCell (p:=⟨W.heap.size,0,none⟩) (Nat.le_refl _) _).setCell (p:=⟨W.heap.size,1,none⟩) (Nat.le_refl _) _).setCell (p:=⟨W.heap.size,2,none⟩) (Nat.le_refl _) _).setCell (p:=⟨W.heap.size,3,none⟩) (Nat.le_refl _) _).setCell (p:=⟨W.heap.size+1,0,none⟩) (by show _≤_+1; omega) _).trans hb
  clear c0 c1 c2 c3 c4 f0 f1 f2 f3 f4 hu4 he4 e1
  refine calls_wide (Sx.all_hc src _) (fun v h' h=>h.2.2.1) ?_
  rintro _ w5 B5 ⟨rfl,b5,-,z5⟩
  have z35:w5.heap.size=w3.heap.size+4:=by rw [z5]; simp
  have hold:∀ k,k<w3.heap.size→w5.heap[k]?=w3.heap[k]?:=fun k hk=>(B5.block k (by simp; omega)).trans ((Below.heap_alloc _ _ k (by simp; omega)).trans ((Below.heap_alloc _ _ k (by simp; omega)).trans (Below.heap_alloc _ _ k hk)))
  have hso5:Sx.SameO W w5:=⟨B5.os.trans BW3.os,B5.tape.trans BW3.tape,B5.output.trans BW3.output⟩
  have hgm:w5.heap[w3.heap.size]?=some (.map #[] 0):=(B5.block _ (by simp; omega)).trans ((Below.heap_alloc _ _ _ (by simp; omega)).trans ((Below.heap_alloc _ _ _ (by simp)).trans (World.alloc_heap_new w3 _)))
  have hA5:Sx.Box w5.heap (w3.heap.size+1) 73 (asmC sl0 sl0 sl0 0 0 w3.heap.size sl0):=by
   refine (B5.block _ (by simp)).trans ((Below.heap_alloc _ _ _ (by simp)).trans ?_)
   have:=World.alloc_heap_new (w3.alloc (.map #[] 0)) (.cells (asmC sl0 sl0 sl0 0 0 w3.heap.size sl0).toArray 73)
   rwa [show (w3.alloc (.map #[] 0)).heap.size=w3.heap.size+1 by simp] at this
  have hv5:Sx.Box w5.heap (w3.heap.size+2) 69 [.pointer (some ⟨w3.heap.size+1,0,none⟩)]:=by
   refine (B5.block _ (by simp)).trans ?_
   have:=World.alloc_heap_new ((w3.alloc (.map #[] 0)).alloc (.cells (asmC sl0 sl0 sl0 0 0 w3.heap.size sl0).toArray 73)) (.cells #[.pointer (some ⟨w3.heap.size+1,0,none⟩)] 69)
   rwa [show ((w3.alloc (.map #[] 0)).alloc (.cells (asmC sl0 sl0 sl0 0 0 w3.heap.size sl0).toArray 73)).heap.size=w3.heap.size+2 by simp] at this
  have hs5:Boxed w5 (w3.heap.size+3) 9 (.string src):=by
   have h1:Sx.Box w5.heap (w3.heap.size+3) 9 [.string src]:=by simpa using b5
   exact h1
  clear B5 b5 z5
  have ha5:AsmAt w5.heap w3.heap.size (w3.heap.size+1) w3.heap.size wld0 sl0 sl0 sl0 sl0 [] [] [] (fun i=>if i=w3.heap.size+1 then 6 else if i=w3.heap.size then 7 else 9) :=
   ⟨Core.nil _ _ _,hA5,⟨0,Sx.Ob.MapF.new ⟨#[],0,hgm,rfl,⟨by simp,by simp,by simp⟩,by simp⟩⟩,Sx.SL.nil _ _ _ _,if_pos rfl,by simp,by simp [sl0,Sx.blkOf],by omega,Nat.le_refl _⟩
  have hnum:((linesF (src.size+1) 1 src).length:Int)≤4096:=by omega
  gi_wp2
  refine wpIn_rangeFunc_ownG (F:=Fence.wide) rfl (by omega) (gf:=62) (lb:=#[.pointer (some ⟨w3.heap.size+3,0,none⟩)]) rfl trivial (enters_of Tryz.func62 (by kernel_rfl) rfl)
   (all76_sub (w3.heap.size+3) 3 src (by omega) Sx.cutB_lt m _ (by
    have h1:w5.heap[2]?=W.heap[2]?:=(hold 2 (by have:=BW3.size; omega)).trans (BW3.block 2 hW3)
    exact (World.cell?_of_block (a:=⟨2,0,none⟩) h1).trans hm) (by omega) (by omega) hs5.cell) belowK_t (belowK_b (by omega)) (Below.refl _ _) (fun _=>rfl)
   (fun pre W'=>Sx.SameO W W'∧w5.heap.size≤W'.heap.size∧(∀ k,k<w3.heap.size→W'.heap[k]?=w3.heap[k]?)∧Sx.Box W'.heap (w3.heap.size+2) 69 [.pointer (some ⟨w3.heap.size+1,0,none⟩)] ∧
    ∃ w t d e q ut ud ue ow,Sx.Ob.runN wld0 (pre.map (·.1))=.ok w∧AsmAt W'.heap w3.heap.size (w3.heap.size+1) w3.heap.size w t d e q ut ud ue ow∧ow (w3.heap.size+2)=9∧WOk w∧w.equs.length≤pre.length∧w.globs.length≤pre.length)
   (fun c pre W'=>c=.ret∧Sx.SameO W W'∧w5.heap.size≤W'.heap.size∧(∀ k,k<w3.heap.size→k≠W.heap.size→k≠W.heap.size+1→W'.heap[k]?=w3.heap[k]?)∧∃ q ax,Sx.Ob.runN wld0 (pre.map (·.1))=.error q∧Sx.Box W'.heap W.heap.size 27 [.slice none 0 0,.slice none 0 0,.slice none 0 0,.slice none 0 0]∧Sx.Box W'.heap (W.heap.size+1) 29 [.iface 59 (.pointer (some ⟨ax,0,none⟩))]∧Sx.Box W'.heap ax 63 [.int .i64 (q.1:Int),.int .i64 (q.2:Int)])
   ?own1 ?own2 ?start
   (fun y=>(fun (x:Nat × ByteArray)=>{ tmps:=#[.string src,undef,.pointer (some ⟨W.heap.size,0,none⟩),.pointer (some ⟨W.heap.size+1,0,none⟩),.pointer (some ⟨W.heap.size+1+1,0,none⟩),.pointer (some ⟨(w3.heap.size+2),0,none⟩),.int .i64 (x.1:Int),.string x.2,undef,undef,undef,undef,.string src,.int .i64 (src.size:Int),.bool (decide (65536<(src.size:Int))),undef,undef,undef,undef,.string src,.func (.func 62) #[] #[.pointer (some ⟨W.heap.size+1+1+1,0,none⟩)],undef,undef,undef,undef,.int .i64 ((linesF (src.size+1) 1 src).length:Int),.bool (decide (4096<((linesF (src.size+1) 1 src).length:Int))),undef,undef,undef,undef,.map (some w3.heap.size),.agg #[.slice none 0 0,.slice none 0 0,.slice none 0 0,.slice none 0 0,.int .i64 0,.int .i64 0,.map (some w3.heap.size),.slice none 0 0],.pointer (some ⟨(w3.heap.size+1),0,none⟩),.string src,.func (.func 62) #[] #[.pointer (some ⟨w3.heap.size+3,0,none⟩)],.int .i64 (x.1:Int),.string x.2,undef,undef,undef,undef,undef,undef,undef,undef,undef,undef,undef,undef,undef,undef,undef,undef,undef,undef,undef,undef,undef,undef,undef,undef,undef,undef,undef,undef,undef,undef,undef,undef,undef,undef,undef,undef,undef,undef,undef,undef,undef,undef,undef,undef,undef,undef,undef,undef,undef,undef,undef],defers:=[] }) y.1) ?assign ?body ?done ?stop
  case own1 =>
   rintro s A B row ⟨so,sz,ho,hb,w,t,d,e,q,ut,ud,ue,ow,hr,ha,h9,hW,hE,hG⟩ hg hrow
   refine ⟨⟨hg.os.trans so.os,hg.tape.trans so.tape,hg.output.trans so.output⟩,Nat.le_trans sz hg.size,fun k hk=>(hg.block k (by omega) (fun e=>by have:=(hrow k e.symm).1; omega)).trans (ho k hk),?_,?_⟩
   ·exact (hg.block _ (by omega) (fun e=>by have:=(hrow _ e.symm).1; omega)).trans hb
   ·obtain ⟨ow',a',h9'⟩:=ha.grown h9 hg (fun r e=>⟨by have:=(hrow r e).1; omega,(hrow r e).2⟩)
    exact ⟨w,t,d,e,q,ut,ud,ue,ow',hr,a',h9',hW,hE,hG⟩
  case own2 =>
   rintro c s A B row ⟨hc,so,sz,ho,q,ax,hq,h1,h2,h3⟩ hg hrow
   refine ⟨hc,⟨hg.os.trans so.os,hg.tape.trans so.tape,hg.output.trans so.output⟩,Nat.le_trans sz hg.size,fun k hk n1 n2=>(hg.block k (by omega) (fun e=>by have:=(hrow k e.symm).1; omega)).trans (ho k hk n1 n2),q,ax,hq,?_,?_,?_⟩
   ·exact (hg.block _ h1.lt (fun e=>by have:=(hrow _ e.symm).1; omega)).trans h1
   ·exact (hg.block _ h2.lt (fun e=>by have:=(hrow _ e.symm).1; omega)).trans h2
   ·refine (hg.block _ h3.lt (fun e=>?_)).trans h3
    obtain ⟨_,o,ho,hn⟩:=hrow _ e.symm
    rw [show A.heap[ax]?=_ from h3] at ho
    cases ho
    cases hn
  case start =>
   exact ⟨hso5,Nat.le_refl _,hold,hv5,wld0,sl0,sl0,sl0,sl0,[],[],[],_,rfl,ha5,by rw [if_neg (by omega),if_neg (by omega)],WOk.z,by simp [wld0],by simp [wld0]⟩
  case assign =>
   intro l x W' K hK
   unfold encL
   gi_wp2
   exact hK
  case body =>
   rintro l pre x W' ⟨so,sz,ho,hb,w,t,d,e,q,ut,ud,ue,ow,hr,ha,h9,hW,hE,hG⟩ hlen
   have c0:W'.cell? ⟨w3.heap.size+2,0,none⟩=some (.pointer (some ⟨w3.heap.size+1,0,none⟩)):=hb.cell.trans rfl
   have E0:Sx.Ext W.heap W'.heap:=⟨by omega,fun k hk _=>(ho k (by omega)).trans (BW3.block k hk)⟩
   have tb':=tb.keep E0 (by simp)
   have ld':=hl.ext E0
   obtain ⟨ow1,ha1,h91,hn1⟩:=ha.nine
   have hx:=line_in x.2
   gi_wp2
   have z3:w3.heap.size≤W'.heap.size:=by omega
   refine calls_round2 (line_hc tb' ld' ha1 z3 hW (by omega) (by omega) (n:=x.1.1) (by omega) x.1.2 (by omega) (qq:=fun i=>i<W'.heap.size∧(i=w3.heap.size+2∨((∃ o,W'.heap[i]?=some o∧o.isCells=false)∧i≠w3.heap.size))) (fun i h=>h.1) ?_) ?_
   ·rintro i ⟨hi,rfl | ⟨⟨o,h1,h2⟩,h3⟩⟩
    ·exact h91 _ h9
    ·exact hn1 i o h1 h2 h3
   intro v w7 so7 hR
   cases hlw:lineW w x.1.1 x.1.2 with
   | error e0 =>
    rw [hlw] at hR
    obtain ⟨rfl,he0,ext⟩:=hR
    have z7:=ext.size
    have hu6:Sx.Box W'.heap W.heap.size 27 [.slice none 0 0,.slice none 0 0,.slice none 0 0,.slice none 0 0]:=(ho _ (by omega)).trans hu3
    have he6:Sx.Box W'.heap (W.heap.size+1) 29 [.nilIface]:=(ho _ (by omega)).trans he3
    have hu7:=hu6.keep ext (by simp)
    have he7:=he6.keep ext (by simp)
    have hu8:=hu7.keep (Sx.Ext.push w7.heap (.cells #[.int .i64 (x.1.1:Int),.int .i64 (e0:Int)] 63)) (by simp)
    have he8:=he7.keep (Sx.Ext.push w7.heap (.cells #[.int .i64 (x.1.1:Int),.int .i64 (e0:Int)] 63)) (by simp)
    have d0:(w7.alloc (.cells #[.int .i64 (x.1.1:Int),.int .i64 (e0:Int)] 63)).cell? ⟨W.heap.size,0,none⟩=some (.slice none 0 0):=hu8.cell.trans rfl
    have d1:(w7.alloc (.cells #[.int .i64 (x.1.1:Int),.int .i64 (e0:Int)] 63)).cell? ⟨W.heap.size,1,none⟩=some (.slice none 0 0):=hu8.cell.trans rfl
    have d2:(w7.alloc (.cells #[.int .i64 (x.1.1:Int),.int .i64 (e0:Int)] 63)).cell? ⟨W.heap.size,2,none⟩=some (.slice none 0 0):=hu8.cell.trans rfl
    have d3:(w7.alloc (.cells #[.int .i64 (x.1.1:Int),.int .i64 (e0:Int)] 63)).cell? ⟨W.heap.size,3,none⟩=some (.slice none 0 0):=hu8.cell.trans rfl
    have d4:(w7.alloc (.cells #[.int .i64 (x.1.1:Int),.int .i64 (e0:Int)] 63)).cell? ⟨W.heap.size+1,0,none⟩=some .nilIface:=he8.cell.trans rfl
    have f0:(w7.alloc (.cells #[.int .i64 (x.1.1:Int),.int .i64 (e0:Int)] 63)).frozen? ⟨W.heap.size,0,none⟩=false:=hu8.frozen
    have f1:(w7.alloc (.cells #[.int .i64 (x.1.1:Int),.int .i64 (e0:Int)] 63)).frozen? ⟨W.heap.size,1,none⟩=false:=hu8.frozen
    have f2:(w7.alloc (.cells #[.int .i64 (x.1.1:Int),.int .i64 (e0:Int)] 63)).frozen? ⟨W.heap.size,2,none⟩=false:=hu8.frozen
    have f3:(w7.alloc (.cells #[.int .i64 (x.1.1:Int),.int .i64 (e0:Int)] 63)).frozen? ⟨W.heap.size,3,none⟩=false:=hu8.frozen
    have f4:(w7.alloc (.cells #[.int .i64 (x.1.1:Int),.int .i64 (e0:Int)] 63)).frozen? ⟨W.heap.size+1,0,none⟩=false:=he8.frozen
    gi_wp2
    ·rename_i hne
     have hg5:w5.heap.size≤w7.heap.size:=by omega
     have hx8:=Sx.Box.new w7.heap 63 [.int .i64 (x.1.1:Int),.int .i64 (e0:Int)]
     have hu9:=box_other (g':=W.heap.size+1) (off:=0) (box_set (off:=3) (box_set (off:=2) (box_set (off:=1) (box_set (off:=0) (w:=w7.alloc (.cells #[.int .i64 (x.1.1:Int),.int .i64 (e0:Int)] 63)) hu8 (.slice none 0 0)) (.slice none 0 0)) (.slice none 0 0)) (.slice none 0 0)) (by omega) (.iface 59 (.pointer (some ⟨w7.heap.size,0,none⟩)))
     have he9:=box_set (off:=0) (box_other (g':=W.heap.size) (off:=3) (box_other (g':=W.heap.size) (off:=2) (box_other (g':=W.heap.size) (off:=1) (box_other (g':=W.heap.size) (off:=0) (w:=w7.alloc (.cells #[.int .i64 (x.1.1:Int),.int .i64 (e0:Int)] 63)) he8 (by omega) (.slice none 0 0)) (by omega) (.slice none 0 0)) (by omega) (.slice none 0 0)) (by omega) (.slice none 0 0)) (.iface 59 (.pointer (some ⟨w7.heap.size,0,none⟩)))
     have hx9:=box_other (g':=W.heap.size+1) (off:=0) (box_other (g':=W.heap.size) (off:=3) (box_other (g':=W.heap.size) (off:=2) (box_other (g':=W.heap.size) (off:=1) (box_other (g':=W.heap.size) (off:=0) (w:=w7.alloc (.cells #[.int .i64 (x.1.1:Int),.int .i64 (e0:Int)] 63)) hx8 (by omega) (.slice none 0 0)) (by omega) (.slice none 0 0)) (by omega) (.slice none 0 0)) (by omega) (.slice none 0 0)) (by omega) (.iface 59 (.pointer (some ⟨w7.heap.size,0,none⟩)))
     have kk:∀ k,k<W'.heap.size→k≠W.heap.size→k≠W.heap.size+1→((((((w7.alloc (.cells #[.int .i64 (x.1.1:Int),.int .i64 (e0:Int)] 63)).setCell ⟨W.heap.size,0,none⟩ (.slice none 0 0)).setCell ⟨W.heap.size,1,none⟩ (.slice none 0 0)).setCell ⟨W.heap.size,2,none⟩ (.slice none 0 0)).setCell ⟨W.heap.size,3,none⟩ (.slice none 0 0)).setCell ⟨W.heap.size+1,0,none⟩ (.iface 59 (.pointer (some ⟨w7.heap.size,0,none⟩)))).heap[k]?=W'.heap[k]?:=by
      intro k hk n1 n2
      refine (Below.heap_setCell _ _ _ _ n2).trans ?_
      refine (Below.heap_setCell _ _ _ _ n1).trans ?_
      refine (Below.heap_setCell _ _ _ _ n1).trans ?_
      refine (Below.heap_setCell _ _ _ _ n1).trans ?_
      refine (Below.heap_setCell _ _ _ _ n1).trans ?_
      exact (Below.heap_alloc w7 _ k (by omega)).trans (ext.same k hk (by simp))
     refine ⟨⟨by simp; omega,fun k o hk h1 h2=>(kk k (Array.getElem?_eq_some_iff.1 h1).1 (by omega) (by omega)).trans h1⟩,rfl,⟨so7.os.trans so.os,so7.tape.trans so.tape,so7.output.trans so.output⟩,by simp; omega,fun k hk n1 n2=>(kk k (by omega) n1 n2).trans (ho k hk),(x.1.1,e0),w7.heap.size,?_,hu9,he9,hx9⟩
     rw [List.map_append,Sx.Ob.runN_app,hr]
     simp only [List.map_cons,List.map_nil,Sx.Ob.runN,hlw]
   | ok w1 =>
    rw [hlw] at hR
    obtain ⟨rfl,t',d',e',q',ut',ud',ue',ow2,a2,A2⟩:=hR
    have hsame:=A2.same
    have z7:=A2.size
    have hl2:=lineW_lens hlw
    gi_wp2
    refine ⟨⟨z7,fun k o hk h1 h2=>(hsame k (Array.getElem?_eq_some_iff.1 h1).1 (.inr ⟨(Array.getElem?_eq_some_iff.1 h1).1,.inr ⟨⟨o,h1,h2⟩,by omega⟩⟩)).trans h1⟩,⟨so7.os,so7.tape,so7.output,z7,fun k hk=>hsame k (by omega) (.inl (by omega))⟩,⟨so7.os.trans so.os,so7.tape.trans so.tape,so7.output.trans so.output⟩,Nat.le_trans sz z7,fun k hk=>(hsame k (by omega) (.inl hk)).trans (ho k hk),?_,?_⟩
    ·exact (hsame _ (by omega) (.inr ⟨by omega,.inl rfl⟩)).trans hb
    ·refine ⟨w1,t',d',e',q',ut',ud',ue',ow2,?_,a2,A2.qo _ ⟨by omega,.inl rfl⟩,lineW_ok (by omega) hW hlw,?_,?_⟩
     ·rw [List.map_append,Sx.Ob.runN_app,hr]
      simp only [List.map_cons,List.map_nil,Sx.Ob.runN,hlw]
     ·rw [List.length_append]; simp only [List.length_cons,List.length_nil]; omega
     ·rw [List.length_append]; simp only [List.length_cons,List.length_nil]; omega
  case done =>
   rintro D2 ys w6 hD2 hys ⟨so,sz,ho,hb,w,t,d,e,q,ut,ud,ue,ow,hr,ha,h9,hW,hE,hG⟩ hK2
   have hrun:runW wld0 1 (linesL src)=.ok w:=by rw [← runN_all,← hys]; exact hr
   have hyl:ys.length=(linesF (src.size+1) 1 src).length:=by have h0:=congrArg List.length hys; rwa [List.length_map] at h0
   have hasm:asmS src=endR_ w:=asm_end (by omega) (by rw [← Sx.Ob.lnS_eq]; unfold Sx.lnS; rw [List.length_map]; omega) hrun
   have hu6:Sx.Box w6.heap W.heap.size 27 [.slice none 0 0,.slice none 0 0,.slice none 0 0,.slice none 0 0]:=(ho _ (by omega)).trans hu3
   have he6:Sx.Box w6.heap (W.heap.size+1) 29 [.nilIface]:=(ho _ (by omega)).trans he3
   have hrest:=rest_of ha hW (by omega) (u:=W.heap.size) (e:=W.heap.size+1) (v:=w3.heap.size+2) (by omega) (by omega) (by omega) (by omega) h9 hu6 rfl he6 hb
   rename_i K hK
   refine hK _ _ ?_
   refine wpIn_wide.2 (tail10 hrest (w:=w6) rfl rfl rfl rfl rfl rfl ?_)
   rintro x a' w7 hx hd' g2 g3 so7 ⟨v,k7,a,b',c,dd,ev,rfl,hU,hEr,hb1,hb2'⟩
   have D2l:D2<w6.heap.size:=(Array.getElem?_eq_some_iff.1 hK2).1
   have hm:Marks W.heap.size a'.defers w7:=by
    refine ⟨[D2,D1],hd',?_,?_⟩
    ·simp only [List.nodup_cons,List.mem_singleton,List.not_mem_nil,not_false_eq_true,List.nodup_nil,and_true]
     omega
    ·intro D hD
     rcases List.mem_cons.1 hD with rfl | hD
     ·refine ⟨by omega,(k7.same D D2l ?_).trans hK2⟩
      simp only [List.mem_cons,List.not_mem_nil,or_false]
      omega
     ·have hD:=List.mem_singleton.1 hD
      subst hD
      refine ⟨by omega,(k7.same D (by omega) ?_).trans ((ho D (by omega)).trans hK1)⟩
      simp only [List.mem_cons,List.not_mem_nil,or_false]
      omega
   have hfin:∀ w':World,Below W.heap.size w7 w'→(∀ B:Nat,w7.heap[B]?≠some (Obj.deferred (some []))→w'.heap[B]?=w7.heap[B]?)→AsmR src W (.returned (.tuple #[untV a b' c dd,ev])) w':=by
    intro w' hb8 hk8
    have hcl:∀ i,isCl w7.heap i→w'.heap[i]?=w7.heap[i]?:=by
     rintro i ⟨c,e,f,hi⟩
     exact hk8 i (by rw [hi]; simp)
    refine ⟨a,b',c,dd,ev,rfl,?_,?_,?_⟩
    ·rw [hasm]
     exact untC_cells (hU.mono (by omega)) hb8.size hcl
    ·rw [hasm]
     exact errAt_cells hEr hcl
    ·refine Below.trans ⟨so7.os.trans so.os,so7.tape.trans so.tape,so7.output.trans so.output,by have:=k7.size; omega,fun k hk'=>?_⟩ hb8
     refine (k7.same k (by omega) ?_).trans ((ho k (by omega)).trans (BW3.block k hk'))
     simp only [List.mem_cons,List.not_mem_nil,or_false]
     omega
   rcases hx with rfl | rfl
   ·exact fin10 (b0:=W.heap.size) hm g2 g3 hb1 hb2' hfin
   ·exact fin10 (b0:=W.heap.size) hm g2 g3 hb1 hb2' hfin
  case stop =>
   rintro D2 c pre w6 hD2 hpre ⟨rfl,so,sz,ho,q,ax,hq,h1,h2,h3⟩ hK2
   have D2l:D2<w6.heap.size:=(Array.getElem?_eq_some_iff.1 hK2).1
   have hasm:asmS src=.error q:=asm_err (by omega) (by rw [← Sx.Ob.lnS_eq]; unfold Sx.lnS; rw [List.length_map]; omega) (by rw [← runN_all]; exact runN_pre hpre hq)
   gi_wp2
   refine fin10 (b0:=W.heap.size) (p:=W.heap.size) (q:=W.heap.size+1) (ev:=.iface 59 (.pointer (some ⟨ax,0,none⟩))) ⟨[D2,D1],rfl,?_,?_⟩ rfl rfl h1 h2 ?_
   ·simp only [List.nodup_cons,List.mem_singleton,List.not_mem_nil,not_false_eq_true,List.nodup_nil,and_true]
    omega
   ·intro D hD
    rcases List.mem_cons.1 hD with rfl | hD
    ·exact ⟨by omega,hK2⟩
    ·have hD:=List.mem_singleton.1 hD
     subst hD
     exact ⟨by omega,(ho D (by omega) (by omega) (by omega)).trans hK1⟩
   ·intro w' hb hk
    refine asmR_err (q:=q) hasm ((hk _ (by unfold Sx.Box at h3; erw [h3]; simp)).trans h3) ?_
    exact Below.trans ⟨so.os,so.tape,so.output,by omega,fun k hk'=>(ho k (by omega) (by omega) (by omega)).trans (BW3.block k hk')⟩ hb
end Go.Proofs
set_option linter.unusedVariables false
set_option linter.unusedSimpArgs false
set_option maxRecDepth 100000
namespace Go.Sx.Ob
open Go.Proofs
def asmQ (s:ByteArray) (h:Hp) (v:Value) (h':Hp):Prop:=Ext h h'∧∃ (a b c d:Sli) (ev:Value),v=.tuple #[untV a b c d,ev]∧UntC h' h.size a b c d (outR (asmS s)).1∧ErrAt h' ev (errO (asmS s))
theorem asm_hc (s:ByteArray) (h:Hp) (hl:Laid h) (tb:TabN h) (m:Int) (hm:∀ W:World,W.heap=h→W.cell? ⟨2,0,none⟩=some (.int .i64 m)):HC Tryz.prog 10 #[.string s] h (asmQ s h):=by
 intro W hW
 subst hW
 refine callsIn_wide.1 ((asm_in W s hl tb m (hm W rfl)).mono ?_)
 rintro e w' ⟨a,b,c,d,ev,rfl,hU,hE,hB⟩
 exact ⟨_,rfl,⟨hB.os,hB.tape,hB.output⟩,⟨hB.size,fun i hi _=>hB.block i hi⟩,a,b,c,d,ev,rfl,hU,hE⟩
structure UntSz (u:Unt):Prop where
 text:∀ x,x∈u.text→ItmRd x
 data:∀ x,x∈u.data→ItmRd x
 equs:∀ x,x∈u.equs→LinRd x.2∧x.1.size<65536
 globs:∀ x,x∈u.globs→x.size<65536
 m1:u.text.length+u.data.length≤8192
 m2:u.equs.length≤4096
 m3:u.globs.length≤4096
theorem UntSz.z:UntSz unt0:=⟨by simp [unt0],by simp [unt0],by simp [unt0],by simp [unt0],by simp [unt0],by simp [unt0],by simp [unt0]⟩
theorem lin_rd {x:Lin} {n:Nat} (hn:n≤65535) (g:Good x) (hx:x.terms.length≤n):LinRd x :=
 ⟨by omega,fun t ht=>⟨by have:=legal_size (g.legal t ht); omega,(g.nf.coef t ht).2⟩,g.num⟩
theorem itm_rd {x:Itm} {k n:Nat} (hn:n≤65535) (hr:itmR x k=true) (g:Good x.e) (hx:Bd n x):ItmRd x:=by
 refine ⟨lin_rd hn g hx,?_,?_⟩
 ·have z:z1 x=true→x.name.size<65536:=fun e=>by
   have e:x.name=nam0:=of_decide_eq_true e
   rw [e]; decide
  unfold itmR at hr
  repeat' split at hr
  all_goals try simp only [Bool.and_eq_true] at hr
  ·have:=legal_size hr.1.1.1
   omega
  all_goals first | exact z hr.1.1.1 | exact z hr.1.1 | exact z hr.1.2 | exact z hr.1.1.1.2 | exact z hr.1.1.2 | (cases hr; done)
 ·have z:z2 x=true→Sm x.inst.op:=fun e=>by
   have e:x.inst=ins0:=of_decide_eq_true e
   rw [e]; unfold Sm ins0; simp
  unfold itmR at hr
  repeat' split at hr
  all_goals try simp only [Bool.and_eq_true] at hr
  ·exact z hr.1.1.2
  ·have h1:=hr.1.1.2
   unfold insR at h1
   simp only [Bool.and_eq_true] at h1
   exact shp_sm (of_decide_eq_true h1.1.1)
  all_goals first | exact z hr.1.1.1.2 | exact z hr.1.1.2 | exact z hr.1.2 | exact z hr.2 | (cases hr; done)
theorem foldl_ins_len:∀ (l d:List ByteArray),(l.foldl (fun d s=>insN s d) d).length≤d.length+l.length
 | [],d=>by simp
 | s::l,d=>by
  have h:=foldl_ins_len l (insN s d)
  have h2:(insN s d).length≤d.length+1:=insN_len s d
  simp only [List.foldl_cons,List.length_cons]
  omega
theorem runW_lens:∀ (l:List ByteArray) (w w':Wld) (n:Nat),runW w n l=.ok w'→w'.equs.length≤w.equs.length+l.length∧w'.globs.length≤w.globs.length+l.length
 | [],w,w',n,h=>by
  simp only [runW] at h
  injection h with h
  subst h
  exact ⟨by simp,by simp⟩
 | s::l,w,w',n,h=>by
  simp only [runW] at h
  split at h
  ·cases h
  ·rename_i w1 h1
   have ih:=runW_lens l w1 w' (n+1) h
   have h2:=lineW_lens h1
   simp only [List.length_cons]
   omega
theorem asm_sz {src:ByteArray} (hs:src.size≤60000) {u:Unt} (h:asmS src=.ok u):UntSz u:=by
 unfold asmS at h
 split at h
 ·cases h
 rename_i hsz
 split at h
 ·cases h
 rename_i hl
 split at h
 ·cases h
 rename_i w hw
 have W:=runW_ok _ _ _ _ (fun s hs=>by have:=linesL_size src s hs; omega) WOk.z hw
 have S:=runW_sz (n:=60001) (linesL src) wld0 w 1 (fun s hs'=>by have:=linesL_size src s hs'; omega) ⟨by simp [wld0],by simp [wld0],by simp [wld0]⟩ hw
 have L:=runW_lens _ _ _ _ hw
 have hm:=W.many
 split at h
 ·cases h
 injection h with h
 subst h
 refine ⟨fun x hx=>itm_rd (by omega) (W.text x hx).1 (W.text x hx).2 (S.text x hx),fun x hx=>itm_rd (by omega) (W.data x hx).1 (W.data x hx).2 (S.data x hx),fun x hx=>⟨lin_rd (by omega) (W.equs x hx).2 (S.equs x hx),by have:=legal_size (W.equs x hx).1; omega⟩,fun x hx=>?_,by simp only; omega,?_,?_⟩
 ·simp only at hx
  rw [sortN_mem] at hx
  obtain ⟨g,hg1,rfl⟩:=List.mem_map.1 hx
  have:=legal_size (W.globs g hg1)
  omega
 ·have:wld0.equs.length=0:=rfl
  simp only
  omega
 ·have h0:wld0.globs.length=0:=rfl
  have:=foldl_ins_len (w.globs.map (·.1)) []
  simp only [List.length_map,List.length_nil] at this
  simp only
  unfold sortN
  omega
theorem out_sz {src:ByteArray} (hs:src.size≤60000):UntSz (outR (asmS src)).1:=by
 cases h:asmS src with
 | error q=>exact UntSz.z
 | ok u=>exact asm_sz hs h
theorem UntC.own {h:Hp} {b:Nat} {a b' c d:Sli} {u:Unt} (U:UntC h b a b' c d u) (z:UntSz u):UntOwn h b a b' c d u∧Apt a b':=by
 obtain ⟨ut,ud,ue,ow,C,S⟩:=U
 have l1:=congrArg List.length C.t3
 have l2:=congrArg List.length C.d3
 have l3:=congrArg List.length C.e3
 rw [List.length_map] at l1 l2 l3
 have m1:=z.m1
 have m2:=z.m2
 have m3:=z.m3
 refine ⟨⟨⟨ut,C.t3,by omega,C.t1,C.t2,fun x hx=>z.text _ (by rw [← C.t3]; exact List.mem_map_of_mem hx)⟩,⟨ud,C.d3,by omega,C.d1,C.d2,fun x hx=>z.data _ (by rw [← C.d3]; exact List.mem_map_of_mem hx)⟩,⟨ue,C.e3,by omega,C.e1,C.e2,fun x hx=>z.equs _ (by rw [← C.e3]; exact List.mem_map_of_mem hx)⟩,⟨u.globs.map (fun x=>(sl0,x)),by rw [List.map_map]; exact List.map_id _,by rw [List.length_map]; omega,?_,?_,?_⟩⟩,?_⟩
 ·have h1:(u.globs.map (fun x=>(sl0,x))).map (fun (u:Sli × ByteArray)=>[Value.string u.2])=u.globs.map enN:=by rw [List.map_map]; rfl
  show SL h b 9 1 d.p d.l d.c ((u.globs.map (fun x=>(sl0,x))).map (fun (u:Sli × ByteArray)=>[Value.string u.2]))
  rw [h1]
  exact S
 ·intro x hx
  obtain ⟨y,hy,rfl⟩:=List.mem_map.1 hx
  exact SL.nil _ _ _ _
 ·intro x hx
  obtain ⟨y,hy,rfl⟩:=List.mem_map.1 hx
  exact z.globs y hy
 ·intro i hi hj
  have h1:=C.o3 i hi
  have h2:=C.o4 i hj
  omega
theorem UntC.at {h:Hp} {b:Nat} {a b' c d:Sli} {u:Unt} (U:UntC h b a b' c d u) (z:UntSz u):UntAt h a b' c d u:=(U.own z).1.at
theorem itemA_err {k:Nat} {ts:List Tok} {e:Nat} (w:Wf ts) (h:itemA k ts=.error e):e=20∨e=21:=by
 unfold itemA at h
 split at h
 ·split at h
  ·rename_i he
   injection h with h
   subst h
   exact numA_err w he
  ·cases h
 ·split at h
  ·rename_i he
   injection h with h
   subst h
   exact parseX_err w he
  ·cases h
theorem itemsA_err {k:Nat} {e:Nat}:∀ (l:List (List Tok)),(∀ a,a∈l→Wf a)→itemsA k l=.error e→e=20∨e=21
 | [],w,h=>by cases h
 | t::ts,w,h=>by
  simp only [itemsA] at h
  split at h
  ·rename_i he
   injection h with h
   subst h
   exact itemA_err (w t (by simp)) he
  ·split at h
   ·rename_i he
    injection h with h
    subst h
    exact itemsA_err ts (fun a ha=>w a (by simp [ha])) he
   ·cases h
theorem ag_wf {args:List (List Tok)} (hw:∀ a,a∈args→Wf a) (wn:Wf []) (i:Nat):Wf (ag args i):=by
 unfold ag
 rw [List.getD_eq_getElem?_getD]
 cases h:args[i]? with
 | none=>exact wn
 | some a=>exact hw a (List.mem_of_getElem? h)
theorem dirA_err {op:ByteArray} {args:List (List Tok)} {e:Nat} (hw:∀ a,a∈args→Wf a) (wn:Wf []) (h:dirA op args=.error e):e=20∨e=21:=by
 unfold dirA at h
 simp only at h
 have g:=ag_wf hw wn
 split at h
 ·injection h with h; exact .inl h.symm
 split at h
 ·cases h
 split at h
 ·split at h
  ·rename_i he
   injection h with h
   subst h
   exact numA_err (g 0) he
  ·split at h
   ·cases h
   ·injection h with h; exact .inr h.symm
 split at h
 ·split at h
  ·rename_i he
   injection h with h
   subst h
   exact numA_err (g 0) he
  ·cases h
 split at h
 ·split at h
  ·injection h with h; exact .inl h.symm
  ·split at h
   ·rename_i he
    injection h with h
    subst h
    exact itemsA_err _ hw he
   ·cases h
 split at h
 ·split at h
  ·injection h with h; exact .inl h.symm
  ·split at h
   ·rename_i he
    injection h with h
    subst h
    exact itemsA_err _ hw he
   ·cases h
 split at h
 ·split at h
  ·rename_i he
   injection h with h
   subst h
   exact .inl (namA_err he)
  ·split at h
   ·rename_i he
    injection h with h
    subst h
    exact parseX_err (g 1) he
   ·cases h
 split at h
 ·split at h
  ·rename_i he
   injection h with h
   subst h
   exact .inl (namA_err he)
  ·cases h
 ·split at h
  ·split at h
   ·cases h
   ·split at h
    ·cases h
    ·injection h with h; exact .inl h.symm
  ·injection h with h; exact .inl h.symm
theorem readA_err {l:Ln} {d:Bool} {e:Nat} (hw:∀ a,a∈l.args→Wf a) (wn:Wf []) (h:readA l d=.error e):e=20∨e=21:=by
 unfold readA at h
 split at h
 ·cases h
 split at h
 ·split at h
  ·rename_i he
   injection h with h
   subst h
   exact codeA_err hw he
  ·split at h
   ·injection h with h; exact .inr h.symm
   ·cases h
 ·split at h
  ·rename_i he
   injection h with h
   subst h
   exact dirA_err hw wn he
  ·rename_i t w he
   by_cases hc:w=2∨w=(if d then 1 else 0)
   ·rw [if_pos hc] at h; cases h
   ·rw [if_neg hc] at h; injection h with h; exact .inr h.symm
theorem lexF_why (s:ByteArray):∀ (f k:Nat) (acc:List Tok),(lexF s f k acc).2.2≤20
 | 0,k,acc=>by simp [lexF]
 | f+1,k,acc=>by
  simp only [lexF]
  split
  ·simp
  ·simp
  ·exact lexF_why s f _ _
theorem parseS_why (s:ByteArray):(parseS s).2.2≤20:=by
 have ht:∀ (n:Nat) (lb:ByteArray) (us:List Tok),(parseT n lb us).2.2≤20:=by
  intro n lb us
  unfold parseT
  split
  ·simp
  ·split
   ·simp
   ·split <;> simp
 unfold parseS parseL
 split
 ·exact lexF_why s _ _ _
 ·split
  ·exact ht _ _ _
  ·exact ht _ _ _
theorem lineW_why {w:Wld} {n e:Nat} {s:ByteArray} (hs:s.size≤2^20) (h:lineW w n s=.error e):e<100:=by
 unfold lineW at h
 have p:=parseS_why s
 split at h
 ·injection h with h; omega
 split at h
 ·injection h with h; omega
 split at h
 ·rename_i he
  injection h with h
  subst h
  have f:=parse_facts s hs
  have:=readA_err (fun a ha=>(f a ha).1) (fun t ht=>by cases ht) he
  omega
 split at h
 ·injection h with h; omega
 split at h
 ·injection h with h; omega
 ·cases h
theorem runW_why:∀ (l:List ByteArray) (w:Wld) (n:Nat) (q:Nat × Nat),(∀ s,s∈l→s.size≤2^20)→runW w n l=.error q→q.2<100
 | [],w,n,q,_,h=>by cases h
 | s::l,w,n,q,hs,h=>by
  simp only [runW] at h
  split at h
  ·rename_i e he
   injection h with h
   subst h
   exact lineW_why (hs s (by simp)) he
  ·exact runW_why l _ _ q (fun x hx=>hs x (by simp [hx])) h
theorem asm_bound0 {s:ByteArray} {q:Nat × Nat} (h:asmS s=.error q):q.1≤2^60∧q.2<10^18:=by
 unfold asmS at h
 split at h
 ·injection h with h
  subst h
  exact ⟨by decide,by decide⟩
 rename_i hsz
 split at h
 ·injection h with h
  subst h
  exact ⟨by decide,by decide⟩
 rename_i hl
 have hls:∀ x,x∈linesL s→x.size≤2^20:=fun x hx=>by have:=linesL_size s x hx; omega
 split at h
 ·rename_i he
  injection h with h
  subst h
  have h1:=runW_why _ _ _ _ hls he
  have h2:=runW_err _ _ _ _ he
  exact ⟨by omega,by omega⟩
 ·rename_i w hw
  split at h
  ·rename_i g hg
   injection h with h
   subst h
   have hm:=List.mem_of_find?_eq_some hg
   rcases runW_globs _ _ _ _ hw g hm with h3 | h3
   ·simp [wld0] at h3
   ·exact ⟨by simp only; omega,show 23<10^18 by decide⟩
  ·cases h
theorem asm_bound {s:ByteArray} {q:Nat × Nat} (h:errO (asmS s)=some q):q.1≤2^60∧q.2<10^18:=by
 cases hh:asmS s with
 | error e =>
  rw [hh] at h
  injection h with h
  subst h
  exact asm_bound0 hh
 | ok u=>rw [hh] at h; cases h
end Go.Sx.Ob
set_option linter.unusedVariables false
set_option maxRecDepth 100000
namespace Go.Proofs.YtfkjiiapldkoeaaGreatDoor
open Go.RowKit Go.Extern.Stop Go.Stop Go.Extern
theorem isTypeOf (v:Value) (w:World):(Extern.ReflectliteType.typeOf #[.iface 44 v]).run Tryz.prog w=.ok (.iface 163 (.agg #[.pointer (some ⟨8,44,none⟩)])) w:=by kernel_rfl
theorem isComparable (w : World) : ((Extern.ReflectliteType.method fun t => do Extern.Rtype.noPackHeld "Comparable" t; (fun a => Value.bool a.comparable) <$> typeInfo t) #[.agg #[.pointer (some ⟨8, 44, none⟩)]]).run Tryz.prog w = .ok (.bool true) w := by kernel_rfl
theorem isMethodComparable (v : Value) (w : World) : (Go.method 442 163 v "Comparable").run Tryz.prog w = .ok (226, v) w := by kernel_rfl
theorem noIsR (v:Value) (xT:TypeId) (w:World):(Instr.typeAssert (.iface 59 v) xT 197 true).run Tryz.prog w=.ok (.tuple #[.nilIface,.bool false]) w:=run_typeAssert_lacksB Tryz.underlying197 (by kernel_rfl) (by kernel_rfl) v xT w
theorem noIsN (v:Value) (xT:TypeId) (w:World):(Instr.typeAssert (.iface 44 v) xT 197 true).run Tryz.prog w=.ok (.tuple #[.nilIface,.bool false]) w:=run_typeAssert_lacksB Tryz.underlying197 (by kernel_rfl) (by kernel_rfl) v xT w
theorem hasUnwrapR (v:Value) (xT:TypeId) (w:World):(Instr.typeAssert (.iface 59 v) xT 170 true).run Tryz.prog w=.ok (.tuple #[.iface 59 v,.bool true]) w:=run_typeAssert_hasB Tryz.underlying170 (by kernel_rfl) v xT w
theorem methodUnwrap (v : Value) (w : World) : (Go.method 442 59 v "Unwrap").run Tryz.prog w = .ok (39, v) w := by kernel_rfl
theorem eqN' (n m:Int) (w:World):(binOp .eql 29 (.iface 44 (.int .i64 n)) (.iface 44 (.int .i64 m))).run Tryz.prog w=.ok (.bool (n==m)) w:=by kernel_rfl
theorem eqN (n:Int) (w:World):(binOp .eql 29 (.iface 44 (.int .i64 n)) (.iface 44 (.int .i64 n))).run Tryz.prog w=.ok (.bool true) w:=by rw [eqN']; simp
theorem errorsIs (a:Nat) (n:Int) (w:World) (h1:w.cell? ⟨a,0+1,none⟩=some (.int .i64 n)) :
  Calls Tryz.prog 40 #[.iface 59 (.pointer (some ⟨a,0,none⟩)),.iface 44 (.int .i64 n)] w fun e w'=>e=.returned (.bool true)∧w'=w:=by
 have h8:=@run_callFunc_extern Tryz.prog 73 _ Extern.ReflectliteType.typeOf Tryz.func73 (by kernel_rfl) (by kernel_rfl) (by kernel_rfl) (by kernel_rfl)
 have h32 := @run_callFunc_extern Tryz.prog 226 _ (Extern.ReflectliteType.method fun t => do Extern.Rtype.noPackHeld "Comparable" t; pure (.bool (← typeInfo t).comparable)) Tryz.func226 (by kernel_rfl) (by kernel_rfl) (by kernel_rfl) (by kernel_rfl)
 have tT:=isTypeOf
 have cT:=isComparable
 have mR:=isMethodComparable
 have nE:=noIsR
 have nW:=noIsN
 have uW:=hasUnwrapR
 have mU:=methodUnwrap
 have heq:=eqN n w
 have hty:=run_eql_iface_types (P:=Tryz.prog) 59 44 (.pointer (some ⟨a,0,none⟩)) (.int .i64 n) Tryz.underlying29 (by decide) w
 go_enter Tryz.func40,Tryz.ntmps40
 go_wp2
 refine wp_loop_rounds 2 ?_
 rw [rounds_succ]
 go_wp2
 rw [rounds_succ]
 go_wp2
 go_ret
 exact ⟨rfl,rfl⟩
end Go.Proofs.YtfkjiiapldkoeaaGreatDoor
