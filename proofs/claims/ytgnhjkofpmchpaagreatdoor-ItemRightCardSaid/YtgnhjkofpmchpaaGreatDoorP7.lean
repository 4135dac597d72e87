/- Contracts over heaps, and plain laws, for the functions that the laws of chapter 8 call, part 7: The document's Add over heaps. The document's reader of expressions over heaps:  Condition: as each statement says. -/
import Derived.Test.YtgnhjkofpmchpaaGreatDoorP6
import Derived.Test.YtgnhjkofpmchpaaGreatDoorItC
set_option linter.unusedVariables false
set_option linter.unusedSimpArgs false
set_option maxRecDepth 100000
namespace Go.Sx
open Go.Proofs
theorem ltB (a b:ByteArray):Op.bytesLess (ByteArray.toList a) (ByteArray.toList b)=decide (ltN a b):=by
 rw [ByteArray.toList_eq,ByteArray.toList_eq,Proofs.bytesLess_eq]
 rfl
def AddI (h:Hp) (g7:Nat) (x y:Tms) (N:Int) (i j:Nat) (h':Hp):Prop :=
 i≤x.length∧j≤y.length∧Ch [g7] h h'∧∃ O p l c f,Box h' g7 26 [.slice p l c,.int .u32 N]∧SL h' h.size 50 2 p l c (O.map encT)∧addM x y=O++addF f (x.drop i) (y.drop j)∧(x.length-i)+(y.length-j)≤f∧O.length≤i+j
theorem addF_nil (f:Nat):addF f [] []=[]:=by cases f <;> rfl
theorem addF_x {f:Nat} {p:ByteArray × Nat} {x y:Tms} (h:y=[]∨∃ q r,y=q::r∧ltN p.1 q.1):addF (f+1) (p::x) y=p::addF f x y:=by
 rcases h with rfl | ⟨q,r,rfl,h⟩
 ·rfl
 ·show (if ltN p.1 q.1 then _ else _)=_
  rw [if_pos h]
theorem addF_y {f:Nat} {q:ByteArray × Nat} {x y:Tms} (h:x=[]∨∃ p r,x=p::r∧ltN q.1 p.1):addF (f+1) x (q::y)=q::addF f x y:=by
 rcases h with rfl | ⟨p,r,rfl,h⟩
 ·rfl
 ·show (if ltN p.1 q.1 then _ else if ltN q.1 p.1 then _ else _)=_
  rw [if_neg (ltN_asymm h),if_pos h]
theorem addF_xy {f:Nat} {p q:ByteArray × Nat} {x y:Tms} (h1:¬ ltN p.1 q.1) (h2:¬ ltN q.1 p.1):addF (f+1) (p::x) (q::y)=if (p.2+q.2) % 4294967296=0 then addF f x y else (p.1,(p.2+q.2) % 4294967296)::addF f x y:=by
 show (if ltN p.1 q.1 then _ else if ltN q.1 p.1 then _ else _)=_
 rw [if_neg h1,if_neg h2]
def goX:Tms→Tms→Bool
 | [],_=>false
 | _::_,[]=>true
 | p::_,q::_=>decide (ltN p.1 q.1)
theorem goX_true {x y:Tms} (h:goX x y=true):∃ p r,x=p::r∧(y=[]∨∃ q s,y=q::s∧ltN p.1 q.1):=by
 cases x with
 | nil=>cases h
 | cons p r =>
  cases y with
  | nil=>exact ⟨p,r,rfl,.inl rfl⟩
  | cons q s=>exact ⟨p,r,rfl,.inr ⟨q,s,rfl,of_decide_eq_true h⟩⟩
theorem goX_false {x y:Tms} (h:goX x y=false):x=[]∨∃ p r q s,x=p::r∧y=q::s∧¬ ltN p.1 q.1:=by
 cases x with
 | nil=>exact .inl rfl
 | cons p r =>
  cases y with
  | nil=>cases h
  | cons q s=>exact .inr ⟨p,r,q,s,rfl,rfl,of_decide_eq_false h⟩
theorem drop_lt {α:Type} {l r:List α} {p:α} {i:Nat} (h:l.drop i=p::r):i<l.length:=by
 rcases Nat.lt_or_ge i l.length with h1 | h1
 ·exact h1
 ·rw [List.drop_eq_nil_of_le h1] at h; cases h
theorem add99_hc {h:Hp} {p q:Option Addr} {l c m d:Nat} {x y:Lin} (v:VwT h p l x.terms) (u:VwT h q m y.terms) (hp:∀ i,i∈blkOf p→i<h.size) (hq:∀ i,i∈blkOf q→i<h.size)
  (hl:x.terms.length+y.terms.length≤2^40) :
  HC Tryz.prog 108 #[linV p l c x,linV q m d y] h fun w h'=>Ext h h'∧∃ p' l' c',w=linV p' l' c' (linA x y)∧SL h' h.size 50 2 p' l' c' ((linA x y).terms.map encT):=by
 refine hcr_of (args:=[.agg #[.slice p l c,.int .u32 x.num],.agg #[.slice q m d,.int .u32 y.num]]) mixed Tryz.func108 (by kernel_rfl) (t_spandrelref4_Add_eq p l c x.num q m d y.num) ?_
 unfold t_spandrelref4_Add
 have hll:=v.len
 have hmm:=u.len
 refine newB ?_
 intro h1 b1 e1 z1
 refine newB ?_
 intro h2 b2 e2 z2
 refine newB ?_
 intro h3 b3 e3 z3
 have b1:=(b1.keep e2 (by simp)).keep e3 (by simp)
 have b2:=b2.keep e3 (by simp)
 rw [add_box,add_box]
 refine loads_box b1 ((x.num:Int),()) rfl ?_
 dsimp only [flat,unc,unc1,nA,cA]
 refine loads_box b2 ((y.num:Int),()) rfl ?_
 dsimp only [flat,unc,unc1,nA,cA]
 refine newB ?_
 intro h4 b4 e4 z4
 refine stores_of b4 rfl (by simp) ?_
 intro h5 b5 k5 z5
 rw [u32_add] at b5
 have b5:Box h5 h3.size 26 [.slice none 0 0,.int .u32 (((x.num+y.num) % 4294967296:Nat):Int)]:=b5
 have e35:Ext h3 h5:=Ch.trans e4 k5 (fun j hj hl=>by simp at hj; omega)
 have b1:=b1.keep e35 (by simp)
 have b2:=b2.keep e35 (by simp)
 have b3:=b3.keep e35 (by simp)
 have e05:=((e1.trans e2).trans e3).trans e35
 have hz5:=e05.size
 refine loop_of (cs:=[(false,[.int .i64]),(false,[.int .i64])]) (fun z w h'=>∃ i j:Nat,z.1=(i:Int)∧z.2.1=(j:Int)∧w=(x.terms.length-i)+(y.terms.length-j)∧AddI h5 h3.size x.terms y.terms (((x.num+y.num) % 4294967296:Nat):Int) i j h')
  ((0:Int),(0:Int),()) (x.terms.length+y.terms.length) rfl ⟨0,0,rfl,rfl,rfl,Nat.zero_le _,Nat.zero_le _,Ch.refl _ _,[],none,0,0,x.terms.length+y.terms.length,b5,SL.nil _ _ _ _,rfl,by omega,by simp⟩ ?_
 rintro ⟨n1,n2,⟨⟩⟩ w h6 ⟨i,j,hi,hj,rfl,hil,hjl,k6,O,po,lo,co,f,b6,s6,hO,hf,hOl⟩
 simp only at hi hj
 subst hi hj
 dsimp only [flat,unc,unc1,nA,cA]
 have hb5:=b5.lt
 have hz6:=k6.size
 have b1:=b1.keep k6 (by simp; omega)
 have b2:=b2.keep k6 (by simp; omega)
 have b3:=b3.keep k6 (by simp; omega)
 have e06:Ext h h6:=Ch.trans e05 k6 (fun j hj hl=>by simp at hj; omega)
 have v6:=v.keep e06 (by simp)
 have u6:=u.keep e06 (by simp)
 have hlo:lo=O.length:=by rw [s6.1,List.length_map]
 have hwi:IntKind.wrap .i64 ((i:Int)+1)=((i+1:Nat):Int):=by rw [wrap_i64 (by omega) (by omega)]; omega
 have hwj:IntKind.wrap .i64 ((j:Int)+1)=((j+1:Nat):Int):=by rw [wrap_i64 (by omega) (by omega)]; omega
 have hsb:∀ i,i∈blkOf po→h5.size≤i:=fun i hi=>(s6.blk hi).1
 have hpm:∀ (k:Nat) (a:Addr) (w:Tms) (vs:List Value),(some a=p∨some a=q)→cellsAt h6 (a.add (k*2)) 0 vs→∀ h',Ch (blkOf po) h6 h'→cellsAt h' (a.add (k*2)) 0 vs:=fun k a w vs ha hc h' kk=>cellsAt_keep kk (by
  rw [add_block]
  intro hm
  have h1:=hsb _ hm
  rcases ha with ha | ha
  ·have:=hp a.block (by rw [← ha]; simp [blkOf]); omega
  ·have:=hq a.block (by rw [← ha]; simp [blkOf]); omega) _ _ hc
 have push:∀ (t:ByteArray × Nat) (i' j':Nat) (h7:Hp) (p7:Option Addr) (c7:Nat),i'≤x.terms.length→j'≤y.terms.length→i+j+1≤i'+j'→addF f (x.terms.drop i) (y.terms.drop j)=t::addF (f-1) (x.terms.drop i') (y.terms.drop j')→(x.terms.length-i')+(y.terms.length-j')≤f-1 →
   SL h7 h5.size 50 2 p7 (lo+1) c7 (O.map encT++[encT t])→Ch (blkOf po) h6 h7→∀ h8,Box h8 h3.size 26 [.slice p7 (lo+1) c7,.int .u32 (((x.num+y.num) % 4294967296:Nat):Int)]→Ch [h3.size] h7 h8→AddI h5 h3.size x.terms y.terms (((x.num+y.num) % 4294967296:Nat):Int) i' j' h8:=by
  intro t i' j' h7 p7 c7 hi' hj' hij hF hf' s7 k7 h8 b8 k8
  refine ⟨hi',hj',Ch.trans (Ch.trans k6 k7 (fun j hj hl=>by have:=hsb j hj; omega)) k8 (fun j hj _=>hj),O++[t],p7,lo+1,c7,f-1,b8,?_,?_,hf',by simp; omega⟩
  ·rw [List.map_append]
   exact s7.keep' k8 (fun j hj=>by have:=(s7.blk hj).1; simp; omega)
  ·rw [hO,hF]; simp
 refine join_of (cs:=[(false,[.bool])]) (fun z h'=>z.1=(decide (i<x.terms.length) || decide (j<y.terms.length))∧h6=h') ?_ ?_
 ·refine loads_box b1 ((p,l,c),()) rfl ?_
  dsimp only [flat,unc,unc1,nA,cA]
  refine cond_mk (fun g1=>?_) (fun g1=>?_)
  ·have g1:=of_decide_eq_true g1
   refine meet_mk (cs:=[(false,[.bool])]) (true,()) rfl rfl ⟨?_,rfl⟩
   rw [decide_eq_true (show i<x.terms.length by omega)]
   rfl
  ·have g1:=of_decide_eq_false g1
   refine loads_box b2 ((q,m,d),()) rfl ?_
   dsimp only [flat,unc,unc1,nA,cA]
   refine meet_mk (cs:=[(false,[.bool])]) (decide ((j:Int)<(m:Int)),()) rfl rfl ⟨?_,rfl⟩
   rw [decide_eq_false (show ¬ i<x.terms.length by omega),Bool.false_or]
   show decide ((j:Int)<(m:Int))=decide (j<y.terms.length)
   rw [decide_eq_decide]
   omega
 rintro ⟨b10,⟨⟩⟩ h6' ⟨hb10,rfl⟩
 simp only at hb10
 subst hb10
 dsimp only [flat,unc,unc1,nA,cA]
 refine cond_mk (fun g1=>?_) (fun g1=>?_)
 ·simp only [Bool.or_eq_true,decide_eq_true_eq] at g1
  obtain ⟨f',rfl⟩:∃ f',f=f'+1:=⟨f-1,by omega⟩
  refine join_of (cs:=[(false,[.bool])]) (fun z h'=>z.1=goX (x.terms.drop i) (y.terms.drop j)∧h6=h') ?_ ?_
  ·refine loads_box b2 ((q,m,d),()) rfl ?_
   dsimp only [flat,unc,unc1,nA,cA]
   refine cond_mk (fun g2=>?_) (fun g2=>?_)
   ·have g2:(j:Int)=(m:Int):=by simpa using g2
    refine meet_mk (cs:=[(false,[.bool])]) (true,()) rfl rfl ⟨?_,rfl⟩
    rw [show y.terms.drop j=[] from List.drop_eq_nil_of_le (by omega),List.drop_eq_getElem_cons (l:=x.terms) (i:=i) (by omega)]
    rfl
   ·have g2:¬ (j:Int)=(m:Int):=by simpa using g2
    have hjlt:j<y.terms.length:=by omega
    refine loads_box b1 ((p,l,c),()) rfl ?_
    dsimp only [flat,unc,unc1,nA,cA]
    refine cond_mk (fun g3=>?_) (fun g3=>?_)
    ·have g3:=of_decide_eq_true g3
     have hilt:i<x.terms.length:=by omega
     have hdx:x.terms.drop i=x.terms[i]::x.terms.drop (i+1):=List.drop_eq_getElem_cons hilt
     have hdy:y.terms.drop j=y.terms[j]::y.terms.drop (j+1):=List.drop_eq_getElem_cons hjlt
     obtain ⟨a,ha,hc⟩:=v6.cells i hilt
     obtain ⟨a',ha',hc'⟩:=u6.cells j hjlt
     subst ha ha'
     refine loads_box b1 ((some a,l,c),()) rfl ?_
     dsimp only [flat,unc,unc1,nA,cA]
     refine need_of ⟨by omega,by omega⟩ (osome_mk rfl ?_)
     rw [show Int.toNat (i:Int)=i by omega]
     refine loads_of (x.terms[i].1,()) (encT_cells hc).1 ?_
     dsimp only [flat,unc,unc1,nA,cA]
     refine loads_box b2 ((some a',m,d),()) rfl ?_
     dsimp only [flat,unc,unc1,nA,cA]
     refine need_of ⟨by omega,by omega⟩ (osome_mk rfl ?_)
     rw [show Int.toNat (j:Int)=j by omega]
     refine loads_of (y.terms[j].1,()) (encT_cells hc').1 ?_
     dsimp only [flat,unc,unc1,nA,cA]
     rw [ltB]
     refine meet_mk (cs:=[(false,[.bool])]) (decide (ltN x.terms[i].1 y.terms[j].1),()) rfl rfl ⟨?_,rfl⟩
     rw [hdx,hdy]
     rfl
    ·have g3:=of_decide_eq_false g3
     refine meet_mk (cs:=[(false,[.bool])]) (false,()) rfl rfl ⟨?_,rfl⟩
     rw [show x.terms.drop i=[] from List.drop_eq_nil_of_le (by omega)]
     rfl
  rintro ⟨b11,⟨⟩⟩ h6' ⟨hb11,rfl⟩
  simp only at hb11
  subst hb11
  dsimp only [flat,unc,unc1,nA,cA]
  refine cond_mk (fun g2=>?_) (fun g2=>?_)
  ·obtain ⟨pp,rr,hdd,hor⟩:=goX_true g2
   have hilt:=drop_lt hdd
   have hdx:x.terms.drop i=x.terms[i]::x.terms.drop (i+1):=List.drop_eq_getElem_cons hilt
   rw [hdx] at hdd
   cases hdd
   have hF:addF (f'+1) (x.terms.drop i) (y.terms.drop j)=x.terms[i]::addF (f'+1-1) (x.terms.drop (i+1)) (y.terms.drop j):=by
    rw [hdx]
    exact addF_x hor
   obtain ⟨a,ha,hc⟩:=v6.cells i hilt
   subst ha
   refine loads_box b6 ((po,lo,co),()) rfl ?_
   dsimp only [flat,unc,unc1,nA,cA]
   refine loads_box b1 ((some a,l,c),()) rfl ?_
   dsimp only [flat,unc,unc1,nA,cA]
   refine need_of ⟨by omega,by omega⟩ (osome_mk rfl ?_)
   rw [show Int.toNat (i:Int)=i by omega]
   refine loads_of (x.terms[i].1,(x.terms[i].2:Int),()) hc ?_
   dsimp only [flat,unc,unc1,nA,cA]
   refine push_st (vs:=encT x.terms[i]) und67 termZ rfl (by omega) (by omega) (by kernel_rfl) rfl rfl s6 (by omega) (by omega) (by omega) (fun h' e=>⟨(b1.keep e (by simp)).cells _ rfl,(b6.keep e (by simp)).cells _ rfl,trivial⟩) ?_
   intro p7 c7 h7 s7 k7 hp7
   have b17:=b1.keep k7 (fun hh=>by have:=hsb _ hh; omega)
   have b67:=b6.keep k7 (fun hh=>by have:=hsb _ hh; omega)
   refine ⟨⟨hpm i a x.terms _ (.inl rfl) hc h7 k7,b17.cells _ rfl,trivial⟩,?_⟩
   refine stores_of b67 rfl (by simp) ?_
   intro h8 b8 k8 z8
   refine again_mk (cs:=[(false,[.int .i64]),(false,[.int .i64])]) (((i+1:Nat):Int),(j:Int),()) ((x.terms.length-(i+1))+(y.terms.length-j)) rfl (by omega) (by rw [hwi]; rfl) ⟨i+1,j,rfl,rfl,rfl,?_⟩
   exact push _ (i+1) j h7 p7 c7 (by omega) hjl (by omega) hF (by omega) s7 k7 h8 b8 k8
  ·have g2:=goX_false g2
   refine join_of (cs:=[(false,[.bool])]) (fun z h'=>z.1=goX (y.terms.drop j) (x.terms.drop i)∧h6=h') ?_ ?_
   ·refine loads_box b1 ((p,l,c),()) rfl ?_
    dsimp only [flat,unc,unc1,nA,cA]
    refine cond_mk (fun g3=>?_) (fun g3=>?_)
    ·have g3:(i:Int)=(l:Int):=by simpa using g3
     refine meet_mk (cs:=[(false,[.bool])]) (true,()) rfl rfl ⟨?_,rfl⟩
     rw [show x.terms.drop i=[] from List.drop_eq_nil_of_le (by omega),List.drop_eq_getElem_cons (l:=y.terms) (i:=j) (by omega)]
     rfl
    ·have g3:¬ (i:Int)=(l:Int):=by simpa using g3
     have hilt:i<x.terms.length:=by omega
     have hjlt:j<y.terms.length:=by
      rcases Nat.lt_or_ge j y.terms.length with h | h
      ·exact h
      ·rcases g2 with g2 | ⟨_,_,_,_,_,g2,_⟩
       ·have:=List.drop_eq_nil_iff.1 g2; omega
       ·rw [List.drop_eq_nil_of_le h] at g2; cases g2
     have hdx:x.terms.drop i=x.terms[i]::x.terms.drop (i+1):=List.drop_eq_getElem_cons hilt
     have hdy:y.terms.drop j=y.terms[j]::y.terms.drop (j+1):=List.drop_eq_getElem_cons hjlt
     obtain ⟨a,ha,hc⟩:=v6.cells i hilt
     obtain ⟨a',ha',hc'⟩:=u6.cells j hjlt
     subst ha ha'
     refine loads_box b2 ((some a',m,d),()) rfl ?_
     dsimp only [flat,unc,unc1,nA,cA]
     refine need_of ⟨by omega,by omega⟩ (osome_mk rfl ?_)
     rw [show Int.toNat (j:Int)=j by omega]
     refine loads_of (y.terms[j].1,()) (encT_cells hc').1 ?_
     dsimp only [flat,unc,unc1,nA,cA]
     refine loads_box b1 ((some a,l,c),()) rfl ?_
     dsimp only [flat,unc,unc1,nA,cA]
     refine need_of ⟨by omega,by omega⟩ (osome_mk rfl ?_)
     rw [show Int.toNat (i:Int)=i by omega]
     refine loads_of (x.terms[i].1,()) (encT_cells hc).1 ?_
     dsimp only [flat,unc,unc1,nA,cA]
     rw [ltB]
     refine meet_mk (cs:=[(false,[.bool])]) (decide (ltN y.terms[j].1 x.terms[i].1),()) rfl rfl ⟨?_,rfl⟩
     rw [hdx,hdy]
     rfl
   rintro ⟨b12,⟨⟩⟩ h6' ⟨hb12,rfl⟩
   simp only at hb12
   subst hb12
   dsimp only [flat,unc,unc1,nA,cA]
   refine cond_mk (fun g3=>?_) (fun g3=>?_)
   ·obtain ⟨pp,rr,hdd,hor⟩:=goX_true g3
    have hjlt:=drop_lt hdd
    have hdy:y.terms.drop j=y.terms[j]::y.terms.drop (j+1):=List.drop_eq_getElem_cons hjlt
    rw [hdy] at hdd
    cases hdd
    have hF:addF (f'+1) (x.terms.drop i) (y.terms.drop j)=y.terms[j]::addF (f'+1-1) (x.terms.drop i) (y.terms.drop (j+1)):=by
     rw [hdy]
     exact addF_y hor
    obtain ⟨a,ha,hc⟩:=u6.cells j hjlt
    subst ha
    refine loads_box b6 ((po,lo,co),()) rfl ?_
    dsimp only [flat,unc,unc1,nA,cA]
    refine loads_box b2 ((some a,m,d),()) rfl ?_
    dsimp only [flat,unc,unc1,nA,cA]
    refine need_of ⟨by omega,by omega⟩ (osome_mk rfl ?_)
    rw [show Int.toNat (j:Int)=j by omega]
    refine loads_of (y.terms[j].1,(y.terms[j].2:Int),()) hc ?_
    dsimp only [flat,unc,unc1,nA,cA]
    refine push_st (vs:=encT y.terms[j]) und67 termZ rfl (by omega) (by omega) (by kernel_rfl) rfl rfl s6 (by omega) (by omega) (by omega) (fun h' e=>⟨(b2.keep e (by simp)).cells _ rfl,(b6.keep e (by simp)).cells _ rfl,trivial⟩) ?_
    intro p7 c7 h7 s7 k7 hp7
    have b27:=b2.keep k7 (fun hh=>by have:=hsb _ hh; omega)
    have b67:=b6.keep k7 (fun hh=>by have:=hsb _ hh; omega)
    refine ⟨⟨hpm j a y.terms _ (.inr rfl) hc h7 k7,b27.cells _ rfl,trivial⟩,?_⟩
    refine stores_of b67 rfl (by simp) ?_
    intro h8 b8 k8 z8
    refine again_mk (cs:=[(false,[.int .i64]),(false,[.int .i64])]) ((i:Int),((j+1:Nat):Int),()) ((x.terms.length-i)+(y.terms.length-(j+1))) rfl (by omega) (by rw [hwj]; rfl) ⟨i,j+1,rfl,rfl,rfl,?_⟩
    exact push _ i (j+1) h7 p7 c7 hil (by omega) (by omega) hF (by omega) s7 k7 h8 b8 k8
   ·have g3:=goX_false g3
    have hb:i<x.terms.length∧j<y.terms.length:=by
     rcases g2 with g2 | ⟨_,_,_,_,e1,e2,_⟩
     ·have h1:=List.drop_eq_nil_iff.1 g2
      rcases g3 with g3 | ⟨_,_,_,_,_,e2,_⟩
      ·have h2:=List.drop_eq_nil_iff.1 g3; omega
      ·rw [g2] at e2; cases e2
     ·exact ⟨drop_lt e1,drop_lt e2⟩
    obtain ⟨hilt,hjlt⟩:=hb
    have hdx:x.terms.drop i=x.terms[i]::x.terms.drop (i+1):=List.drop_eq_getElem_cons hilt
    have hdy:y.terms.drop j=y.terms[j]::y.terms.drop (j+1):=List.drop_eq_getElem_cons hjlt
    have n1:¬ ltN x.terms[i].1 y.terms[j].1:=by
     rcases g2 with g2 | ⟨_,_,_,_,e1,e2,hn⟩
     ·rw [hdx] at g2; cases g2
     ·rw [hdx] at e1; rw [hdy] at e2; cases e1; cases e2; exact hn
    have n2:¬ ltN y.terms[j].1 x.terms[i].1:=by
     rcases g3 with g3 | ⟨_,_,_,_,e1,e2,hn⟩
     ·rw [hdy] at g3; cases g3
     ·rw [hdy] at e1; rw [hdx] at e2; cases e1; cases e2; exact hn
    have hF:addF (f'+1) (x.terms.drop i) (y.terms.drop j)=if (x.terms[i].2+y.terms[j].2) % 4294967296=0 then addF f' (x.terms.drop (i+1)) (y.terms.drop (j+1)) else (x.terms[i].1,(x.terms[i].2+y.terms[j].2) % 4294967296)::addF f' (x.terms.drop (i+1)) (y.terms.drop (j+1)):=by
     rw [hdx,hdy]
     exact addF_xy n1 n2
    obtain ⟨a,ha,hc⟩:=v6.cells i hilt
    obtain ⟨a',ha',hc'⟩:=u6.cells j hjlt
    subst ha ha'
    refine loads_box b1 ((some a,l,c),()) rfl ?_
    dsimp only [flat,unc,unc1,nA,cA]
    refine need_of ⟨by omega,by omega⟩ (osome_mk rfl ?_)
    rw [show Int.toNat (i:Int)=i by omega]
    refine loads_of ((x.terms[i].2:Int),()) (encT_cells hc).2 ?_
    dsimp only [flat,unc,unc1,nA,cA]
    refine loads_box b2 ((some a',m,d),()) rfl ?_
    dsimp only [flat,unc,unc1,nA,cA]
    refine need_of ⟨by omega,by omega⟩ (osome_mk rfl ?_)
    rw [show Int.toNat (j:Int)=j by omega]
    refine loads_of ((y.terms[j].2:Int),()) (encT_cells hc').2 ?_
    dsimp only [flat,unc,unc1,nA,cA]
    rw [u32_add]
    refine join_of (cs:=[]) (fun z h'=>AddI h5 h3.size x.terms y.terms (((x.num+y.num) % 4294967296:Nat):Int) (i+1) (j+1) h') ?_ ?_
    ·refine cond_mk (fun g4=>?_) (fun g4=>?_)
     ·have g4:¬ (x.terms[i].2+y.terms[j].2) % 4294967296=0:=by
       have:¬ (((x.terms[i].2+y.terms[j].2) % 4294967296:Nat):Int)=0:=by simpa using g4
       omega
      rw [if_neg g4] at hF
      refine loads_box b6 ((po,lo,co),()) rfl ?_
      dsimp only [flat,unc,unc1,nA,cA]
      refine loads_box b1 ((some a,l,c),()) rfl ?_
      dsimp only [flat,unc,unc1,nA,cA]
      refine need_of ⟨by omega,by omega⟩ (osome_mk rfl ?_)
      refine loads_of (x.terms[i].1,()) (encT_cells hc).1 ?_
      dsimp only [flat,unc,unc1,nA,cA]
      refine push_st (vs:=encT (x.terms[i].1,(x.terms[i].2+y.terms[j].2) % 4294967296)) und67 termZ rfl (by omega) (by omega) (by kernel_rfl) rfl rfl s6 (by omega) (by omega) (by omega) (fun h' e=>⟨cellsAt_keep e (by simp) _ _ (encT_cells hc).1,(b1.keep e (by simp)).cells _ rfl,(b6.keep e (by simp)).cells _ rfl,trivial⟩) ?_
      intro p7 c7 h7 s7 k7 hp7
      have b17:=b1.keep k7 (fun hh=>by have:=hsb _ hh; omega)
      have b67:=b6.keep k7 (fun hh=>by have:=hsb _ hh; omega)
      refine ⟨⟨hpm i a x.terms _ (.inl rfl) (encT_cells hc).1 h7 k7,b17.cells _ rfl,trivial⟩,?_⟩
      refine stores_of b67 rfl (by simp) ?_
      intro h8 b8 k8 z8
      exact meet_mk (cs:=[]) () rfl rfl (push _ (i+1) (j+1) h7 p7 c7 (by omega) (by omega) (by omega) hF (by omega) s7 k7 h8 b8 k8)
     ·have g4:(x.terms[i].2+y.terms[j].2) % 4294967296=0:=by
       have:(((x.terms[i].2+y.terms[j].2) % 4294967296:Nat):Int)=0:=by simpa using g4
       omega
      rw [if_pos g4] at hF
      exact meet_mk (cs:=[]) () rfl rfl ⟨by omega,by omega,k6,O,po,lo,co,f',b6,s6,by rw [hO,hF],by omega,by omega⟩
    ·rintro ⟨⟩ h7 I7
     exact again_mk (cs:=[(false,[.int .i64]),(false,[.int .i64])]) (((i+1:Nat):Int),((j+1:Nat):Int),()) ((x.terms.length-(i+1))+(y.terms.length-(j+1))) rfl (by omega) (by rw [hwi,hwj]; rfl) ⟨i+1,j+1,rfl,rfl,rfl,I7⟩
 ·simp only [Bool.or_eq_false_iff,decide_eq_false_iff_not] at g1
  rw [List.drop_eq_nil_of_le (by omega),List.drop_eq_nil_of_le (by omega),addF_nil,List.append_nil] at hO
  refine loads_box b6 ((po,lo,co),(((x.num+y.num) % 4294967296:Nat):Int),()) rfl ?_
  dsimp only [flat,unc,unc1,nA,cA]
  refine stores_of b3 rfl (by simp) ?_
  intro h7 b7 k7 z7
  have b7:Box h7 h2.size 26 [.slice po lo co,.int .u32 (((x.num+y.num) % 4294967296:Nat):Int)]:=b7
  refine loads_box b7 ((po,lo,co),(((x.num+y.num) % 4294967296:Nat):Int),()) rfl ?_
  refine ⟨Ch.trans e06 k7 (fun j hj hl=>by simp at hj; omega),po,lo,co,rfl,?_⟩
  show SL h7 h.size 50 2 po lo co ((addM x.terms y.terms).map encT)
  rw [hO]
  exact (s6.keep' k7 (fun j hj=>by have:=hsb j hj; simp; omega)).mono (by omega)
def LoopR (h:Hp) (A A1 A7:Nat) (us:List Tok) (d:Int) (ts:List Tok) (q:PRes) (rest:Nat→Lin→List Tok→PRes) (m:Nat) (h':Hp):Prop :=
 Ch [A] h h'∧Box h' A1 26 [.slice none 0 0,.int .u32 0]∧∃ x p l c ts' d' e',Box h' A7 26 [.slice p l c,.int .u32 (x.num:Int)]∧SL h' (A1+1) 50 2 p l c (x.terms.map encT)∧Good x∧RQ h' A us ts' d' e' ∧
  ((e'=0∧d'=d∧∃ n,q=rest n x ts'∧ts'.length≤n∧ts' <:+ ts∧x.terms.length+ts'.length≤ts.length∧m=n+1)∨(e'≠0∧q=.error e'∧x.terms.length≤ts.length∧m=0))
theorem signB_ok {e:Nat} {ts:List Tok} {c:UInt8} (h:signB e ts c=true):e=0∧∃ t r,ts=t::r∧isS t c=true:=by
 unfold signB at h
 simp only [Bool.and_eq_true,decide_eq_true_eq] at h
 refine ⟨h.1,?_⟩
 cases ts with
 | nil=>have:=h.2; cases this
 | cons t r=>exact ⟨t,r,rfl,h.2⟩
theorem part96_hc {A:Nat} {us:List Tok} {d:Nat} {fac:List Tok→PRes} (hfac:RdC 117 A us d fac) (hfine:∀ ts,Wf ts→Fine ts (fac ts)):RdC 105 A us d (partG fac):=by
 intro h ts rq w hts
 refine hcr_of (args:=[ptr A]) mixed Tryz.func105 (by kernel_rfl) (t_spandrelref4_reader__part_eq (some ⟨A,0,none⟩)) ?_
 unfold t_spandrelref4_reader__part
 have hA:=rq.lt
 refine newB ?_
 intro h1 b1 e1 z1
 refine call_of (hfac h1 ts (rq.keep e1 (by simp)) w hts) ?_
 rintro _ h2 ⟨k2,x,p,l,c,ts',d',e',rfl,s2,gx,rq2,post⟩
 refine ⟨((p,l,c),(x.num:Int),()),rfl,?_⟩
 dsimp only [flat,unc,unc1,nA,cA]
 refine newB ?_
 intro h3 b3 e3 z3
 refine stores_of b3 rfl (by simp) ?_
 intro h4 b4 k4 z4
 have b4:Box h4 h2.size 26 [.slice p l c,.int .u32 (x.num:Int)]:=b4
 have hz2:=k2.size
 have e24:Ext h2 h4:=Ch.trans e3 k4 (fun j hj hl=>by simp at hj; omega)
 have k04:Ch [A] h h4:=Ch.trans (Ch.trans (e1.mono (by simp)) k2 (fun j hj _=>hj)) e24 (by simp)
 have b14:=(b1.keep k2 (by simp; omega)).keep e24 (by simp)
 have start:∃ m,LoopR h A h.size h2.size us d ts (partG fac ts) (partL fac) m h4:=by
  have hf:=hfine ts w
  revert post hf
  unfold partG
  cases hfr:fac ts with
  | error e =>
   rintro ⟨he,he0,hxl⟩ _
   exact ⟨0,k04,b14,x,p,l,c,ts',d',e',b4,(s2.keep' e24 (by simp)).mono (by omega),gx,rq2.keep e24 (by simp),.inr ⟨by omega,by rw [he],hxl,rfl⟩⟩
  | ok z =>
   obtain ⟨y,r⟩:=z
   rintro ⟨rfl,rfl,rfl,rfl⟩ ⟨_,hs,hl,hn⟩
   exact ⟨_,k04,b14,x,p,l,c,ts',_,0,b4,(s2.keep' e24 (by simp)).mono (by omega),gx,rq2.keep e24 (by simp),.inl ⟨rfl,rfl,ts'.length,rfl,Nat.le_refl _,hs,hn,rfl⟩⟩
 obtain ⟨m0,start⟩:=start
 refine loop_of (cs:=[]) (fun y m h'=>LoopR h A h.size h2.size us d ts (partG fac ts) (partL fac) m h') () m0 rfl start ?_
 rintro ⟨⟩ m h5 ⟨k5,b15,x,p,l,c,ts',d',e',b5,s5,gx,rq5,cas⟩
 dsimp only [flat,unc,unc1,nA,cA]
 have hh2:h2.size<h5.size:=b5.lt
 have hz5:=k5.size
 refine isR_of rq5 ?_
 refine cond_mk (fun g1=>?_) (fun g1=>?_)
 ·obtain ⟨he0,t,r,rfl,gS⟩:=signB_ok g1
  rcases cas with ⟨_,rfl,n,hq,hn,hsuf,hxn,rfl⟩ | ⟨h0,_⟩
  case inr=>exact absurd he0 h0
  subst he0
  simp only [List.length_cons] at hn hxn
  obtain ⟨n',rfl⟩:∃ n',n=n'+1:=⟨n-1,by omega⟩
  have wr:Wf r:=(w.suffix hsuf).tail
  have hpl:partG fac ts=match fac r with
   | .error e=>.error e
   | .ok (y,r'')=>if x.terms≠[]∧y.terms≠[] then .error 21 else if y.terms≠[] then partL fac n' (linT y x.num) r'' else partL fac n' (linT x y.num) r'':=by
   rw [hq]
   show (if isS t 42=true then _ else _)=_
   rw [if_pos gS]
   all_goals (cases fac r <;> rfl)
  refine step_of rq5 ?_
  intro h6 k6 rq6
  have k06:Ch [A] h h6:=Ch.trans k5 k6 (fun j hj _=>hj)
  have b16:=b15.keep k6 (by simp; omega)
  have b6:=b5.keep k6 (by simp; omega)
  have s6:=s5.keep' k6 (fun j hj=>by have:=(s5.blk hj).1; simp; omega)
  refine call_of (hfac h6 r rq6 wr (by omega)) ?_
  rintro _ h7 ⟨k7,y,p',l',c',ts',d',e',rfl,s7,gy,rq7,post⟩
  refine ⟨((p',l',c'),(y.num:Int),()),rfl,?_⟩
  dsimp only [flat,unc,unc1,nA,cA]
  have hz7:=k7.size
  refine newB ?_
  intro h8 b8 e8 z8
  refine stores_of b8 rfl (by simp) ?_
  intro h9 b9 k9 z9
  have b9:Box h9 h7.size 26 [.slice p' l' c',.int .u32 (y.num:Int)]:=b9
  have e79:Ext h7 h9:=Ch.trans e8 k9 (fun j hj hl=>by simp at hj; omega)
  have k69:Ch [A] h6 h9:=Ch.trans k7 e79 (by simp)
  have k09:Ch [A] h h9:=Ch.trans k06 k69 (fun j hj _=>hj)
  have b19:=b16.keep k69 (by simp; omega)
  have bx9:=b6.keep k69 (by simp; omega)
  have sx9:=s6.keep' k69 (fun j hj=>by have:=(s6.blk hj).1; simp; omega)
  have hz6:=k06.size
  have sy9:=(s7.keep' e79 (by simp)).mono (b':=h.size+1) (by have:=k6.size; omega)
  obtain ⟨i9,⟨pq,lq,cq,bQ,vq,hpq,hiq,huq⟩,htq⟩:=rq7.keep e79 (by simp)
  have rq9:RQ h9 A us ts' d' e':=⟨i9,⟨pq,lq,cq,bQ,vq,hpq,hiq,huq⟩,htq⟩
  refine osome_mk rfl ?_
  rw [add_box]
  refine loads_box bQ ((e':Int),()) rfl ?_
  dsimp only [flat,unc,unc1,nA,cA]
  refine cond_mk (fun g2=>?_) (fun g2=>?_)
  ·have g2:¬ e'=0:=by simpa using g2
   refine outR k09 (Nat.le_refl _) hA b19 bx9 sx9 (by omega) gx rq9 ?_
   rw [hpl]
   revert post
   cases fac r with
   | error e=>rintro ⟨he,he0,_⟩; exact ⟨he,he0,by omega⟩
   | ok z=>obtain ⟨_,_⟩:=z; rintro ⟨he,_,_,_⟩; exact absurd he g2
  ·have g2:e'=0:=by simpa using g2
   subst g2
   have hff:=hfine r wr
   revert post hff
   cases hfr:fac r with
   | error e=>rintro ⟨rfl,he,_⟩ _; exact absurd rfl he
   | ok z =>
    obtain ⟨y',r''⟩:=z
    rintro ⟨_,rfl,rfl,rfl⟩ ⟨_,hs2,hl2,hn2⟩
    rw [hfr] at hpl
    simp only at hpl
    have hlx:l=x.terms.length:=by rw [sx9.1,List.length_map]
    have hly:l'=y.terms.length:=by rw [sy9.1,List.length_map]
    have hsuf2:ts' <:+ ts:=(hs2.trans (List.suffix_cons _ _)).trans hsuf
    refine join_of (cs:=[(false,[.bool])]) (fun z h'=>z.1=(decide (x.terms≠[]) && decide (y.terms≠[]))∧h9=h') ?_ ?_
    ·refine loads_box bx9 ((p,l,c),()) rfl ?_
     dsimp only [flat,unc,unc1,nA,cA]
     refine cond_mk (fun g3=>?_) (fun g3=>?_)
     ·have g3:=of_decide_eq_true g3
      refine loads_box b9 ((p',l',c'),()) rfl ?_
      dsimp only [flat,unc,unc1,nA,cA]
      refine meet_mk (cs:=[(false,[.bool])]) (decide ((l':Int)>0),()) rfl rfl ⟨?_,rfl⟩
      have hx0:x.terms≠[]:=fun hh=>by rw [hh] at hlx; simp at hlx; omega
      rw [decide_eq_true hx0,Bool.true_and]
      cases hy0:y.terms with
      | nil=>rw [hy0] at hly; simp at hly; subst hly; rfl
      | cons a b =>
       rw [hy0] at hly
       simp only [List.length_cons] at hly
       show decide ((l':Int)>0)=decide (a::b≠[])
       rw [decide_eq_true (by omega),decide_eq_true (by simp)]
     ·have g3:=of_decide_eq_false g3
      refine meet_mk (cs:=[(false,[.bool])]) (false,()) rfl rfl ⟨?_,rfl⟩
      have hx0:x.terms=[]:=List.length_eq_zero_iff.1 (by omega)
      rw [hx0]
      rfl
    ·rintro ⟨b10,⟨⟩⟩ h9' ⟨hb10,rfl⟩
     simp only at hb10
     subst hb10
     dsimp only [flat,unc,unc1,nA,cA]
     have hh9:=b9.lt
     have hhx9:=bx9.lt
     have hz9:=k09.size
     have hz69:=k69.size
     refine cond_mk (fun g3=>?_) (fun g3=>?_)
     ·simp only [Bool.and_eq_true,decide_eq_true_eq] at g3
      rw [if_pos g3] at hpl
      refine refuseR_of (w:=21) rq9 ?_
      intro h10 k10 rq10
      rw [hpl]
      refine outR (Ch.trans k09 k10 (fun j hj _=>hj)) (Nat.le_refl _) hA (b19.keep k10 (by simp; omega)) (bx9.keep k10 (by simp; omega)) (sx9.keep' k10 (fun j hj=>by have:=(sx9.blk hj).1; simp; omega)) (by omega) gx rq10 ?_
      exact ⟨rfl,by omega,by omega⟩
     ·rw [if_neg (by intro hh; rw [decide_eq_true hh.1,decide_eq_true hh.2] at g3; cases g3)] at hpl
      refine loads_box b9 ((p',l',c'),()) rfl ?_
      dsimp only [flat,unc,unc1,nA,cA]
      refine cond_mk (fun g4=>?_) (fun g4=>?_)
      ·have g4:=of_decide_eq_true g4
       rw [if_pos (by intro hh; rw [hh] at hly; simp at hly; omega)] at hpl
       refine loads_box b9 ((p',l',c'),(y.num:Int),()) rfl ?_
       dsimp only [flat,unc,unc1,nA,cA]
       rw [add_box]
       refine loads_box bx9 ((x.num:Int),()) rfl ?_
       dsimp only [flat,unc,unc1,nA,cA]
       refine call_of (times98_hc sy9.vwT (by omega) sy9.vwT' x.num) ?_
       rintro _ h10 ⟨e10,q',m',cq',rfl,s10⟩
       refine ⟨((q',m',cq'),((linT y x.num).num:Int),()),rfl,?_⟩
       dsimp only [flat,unc,unc1,nA,cA]
       refine stores_of (bx9.keep e10 (by simp)) rfl (by simp) ?_
       intro h11 b11 k11 z11
       have b11:Box h11 h2.size 26 [.slice q' m' cq',.int .u32 ((linT y x.num).num:Int)]:=b11
       have k911:Ch [h2.size] h9 h11:=Ch.trans (e10.mono (by simp)) k11 (fun j hj _=>hj)
       have htl:=timesN_length x.num y.terms
       refine again_mk (cs:=[]) () (n'+1) rfl (by omega) rfl ⟨Ch.trans k09 k911 (fun j hj hl=>by simp at hj; omega),b19.keep k911 (by simp; omega),linT y x.num,q',m',cq',ts',_,0,b11,(s10.keep' k11 (fun j hj=>by have:=(s10.blk hj).1; simp; omega)).mono (by omega),gy.T _,rq9.keep k911 (by simp; omega),
        .inl ⟨rfl,rfl,n',hpl,by omega,hsuf2,?_,rfl⟩⟩
       show (timesN x.num y.terms).length+ts'.length≤ts.length
       omega
      ·have g4:=of_decide_eq_false g4
       rw [if_neg (by intro hh; exact hh (List.length_eq_zero_iff.1 (by omega)))] at hpl
       refine loads_box bx9 ((p,l,c),(x.num:Int),()) rfl ?_
       dsimp only [flat,unc,unc1,nA,cA]
       rw [add_box]
       refine loads_box b9 ((y.num:Int),()) rfl ?_
       dsimp only [flat,unc,unc1,nA,cA]
       refine call_of (times98_hc sx9.vwT (by omega) sx9.vwT' y.num) ?_
       rintro _ h10 ⟨e10,q',m',cq',rfl,s10⟩
       refine ⟨((q',m',cq'),((linT x y.num).num:Int),()),rfl,?_⟩
       dsimp only [flat,unc,unc1,nA,cA]
       refine stores_of (bx9.keep e10 (by simp)) rfl (by simp) ?_
       intro h11 b11 k11 z11
       have b11:Box h11 h2.size 26 [.slice q' m' cq',.int .u32 ((linT x y.num).num:Int)]:=b11
       have k911:Ch [h2.size] h9 h11:=Ch.trans (e10.mono (by simp)) k11 (fun j hj _=>hj)
       have htl:=timesN_length y.num x.terms
       refine again_mk (cs:=[]) () (n'+1) rfl (by omega) rfl ⟨Ch.trans k09 k911 (fun j hj hl=>by simp at hj; omega),b19.keep k911 (by simp; omega),linT x y.num,q',m',cq',ts',_,0,b11,(s10.keep' k11 (fun j hj=>by have:=(s10.blk hj).1; simp; omega)).mono (by omega),gx.T _,rq9.keep k911 (by simp; omega),
        .inl ⟨rfl,rfl,n',hpl,by omega,hsuf2,?_,rfl⟩⟩
       show (timesN y.num x.terms).length+ts'.length≤ts.length
       omega
 ·refine outR k5 (Nat.le_refl _) hA b15 b5 s5 (by omega) gx rq5 ?_
  rcases cas with ⟨rfl,rfl,n,hq,hn,hsuf,hxn,rfl⟩ | ⟨h0,hq,hxl,rfl⟩
  ·rw [hq,partL_stop g1]
   exact ⟨rfl,rfl,rfl,rfl⟩
  ·rw [hq]
   exact ⟨rfl,h0,hxl⟩
def sgn (b:Bool) (y:Lin):Lin:=if b=true then linT y 4294967295 else y
theorem Good.sgn {y:Lin} (g:Good y) (b:Bool):Good (sgn b y):=by
 cases b
 ·exact g
 ·exact g.T _
theorem sgn_length (b:Bool) (y:Lin):(sgn b y).terms.length≤y.terms.length:=by
 cases b
 ·exact Nat.le_refl _
 ·exact timesN_length _ _
theorem sum83_hc {A:Nat} {us:List Tok} {d:Nat} {part:List Tok→PRes} (hpart:RdC 105 A us d part) (hfine:∀ ts,Wf ts→Fine ts (part ts)):RdC 96 A us d (sumG part):=by
 intro h ts rq w hts
 refine hcr_of (args:=[ptr A]) mixed Tryz.func96 (by kernel_rfl) (t_spandrelref4_reader__sum_eq (some ⟨A,0,none⟩)) ?_
 unfold t_spandrelref4_reader__sum
 have hA:=rq.lt
 refine newB ?_
 intro h1 b1 e1 z1
 refine call_of (hpart h1 ts (rq.keep e1 (by simp)) w hts) ?_
 rintro _ h2 ⟨k2,x,p,l,c,ts',d',e',rfl,s2,gx,rq2,post⟩
 refine ⟨((p,l,c),(x.num:Int),()),rfl,?_⟩
 dsimp only [flat,unc,unc1,nA,cA]
 refine newB ?_
 intro h3 b3 e3 z3
 refine stores_of b3 rfl (by simp) ?_
 intro h4 b4 k4 z4
 have b4:Box h4 h2.size 26 [.slice p l c,.int .u32 (x.num:Int)]:=b4
 have hz2:=k2.size
 have e24:Ext h2 h4:=Ch.trans e3 k4 (fun j hj hl=>by simp at hj; omega)
 have k04:Ch [A] h h4:=Ch.trans (Ch.trans (e1.mono (by simp)) k2 (fun j hj _=>hj)) e24 (by simp)
 have b14:=(b1.keep k2 (by simp; omega)).keep e24 (by simp)
 have start:∃ m,LoopR h A h.size h2.size us d ts (sumG part ts) (sumL part) m h4:=by
  have hf:=hfine ts w
  revert post hf
  unfold sumG
  cases hfr:part ts with
  | error e =>
   rintro ⟨he,he0,hxl⟩ _
   exact ⟨0,k04,b14,x,p,l,c,ts',d',e',b4,(s2.keep' e24 (by simp)).mono (by omega),gx,rq2.keep e24 (by simp),.inr ⟨by omega,by rw [he],hxl,rfl⟩⟩
  | ok z =>
   obtain ⟨y,r⟩:=z
   rintro ⟨rfl,rfl,rfl,rfl⟩ ⟨_,hs,hl,hn⟩
   exact ⟨_,k04,b14,x,p,l,c,ts',_,0,b4,(s2.keep' e24 (by simp)).mono (by omega),gx,rq2.keep e24 (by simp),.inl ⟨rfl,rfl,ts'.length,rfl,Nat.le_refl _,hs,hn,rfl⟩⟩
 obtain ⟨m0,start⟩:=start
 refine loop_of (cs:=[]) (fun y m h'=>LoopR h A h.size h2.size us d ts (sumG part ts) (sumL part) m h') () m0 rfl start ?_
 rintro ⟨⟩ m h5 ⟨k5,b15,x,p,l,c,ts',d',e',b5,s5,gx,rq5,cas⟩
 dsimp only [flat,unc,unc1,nA,cA]
 have hh2:h2.size<h5.size:=b5.lt
 have hz5:=k5.size
 refine join_of (cs:=[(false,[.bool])]) (fun z h'=>z.1=(signB e' ts' 43 || signB e' ts' 45)∧h5=h') ?_ ?_
 ·refine isR_of rq5 ?_
  refine cond_mk (fun g1=>?_) (fun g1=>?_)
  ·exact meet_mk (cs:=[(false,[.bool])]) (true,()) rfl rfl ⟨by rw [g1]; rfl,rfl⟩
  ·refine isR_of rq5 ?_
   exact meet_mk (cs:=[(false,[.bool])]) (signB e' ts' 45,()) rfl rfl ⟨by rw [g1]; rfl,rfl⟩
 rintro ⟨b7,⟨⟩⟩ h5' ⟨hb7,rfl⟩
 simp only at hb7
 subst hb7
 dsimp only [flat,unc,unc1,nA,cA]
 refine cond_mk (fun g1=>?_) (fun g1=>?_)
 ·have hor:signB e' ts' 43=true∨signB e' ts' 45=true:=by simpa [Bool.or_eq_true] using g1
  have hsp:∃ t r,ts'=t::r∧e'=0∧(isS t 43=true∨(isS t 43=false∧isS t 45=true)):=by
   rcases hor with hh | hh
   ·obtain ⟨he0,t,r,rfl,gS⟩:=signB_ok hh
    exact ⟨t,r,rfl,he0,.inl gS⟩
   ·obtain ⟨he0,t,r,rfl,gS⟩:=signB_ok hh
    refine ⟨t,r,rfl,he0,?_⟩
    cases h43:isS t 43 with
    | true=>exact .inl rfl
    | false=>exact .inr ⟨rfl,gS⟩
  obtain ⟨t,r,rfl,he0,hk⟩:=hsp
  rcases cas with ⟨_,rfl,n,hq,hn,hsuf,hxn,rfl⟩ | ⟨h0,_⟩
  case inr=>exact absurd he0 h0
  subst he0
  simp only [List.length_cons] at hn hxn
  obtain ⟨n',rfl⟩:∃ n',n=n'+1:=⟨n-1,by omega⟩
  have wr:Wf r:=(w.suffix hsuf).tail
  have h45:isS t 43=true→isS t 45=false:=by
   intro hh
   unfold isS at hh ⊢
   simp only [Bool.and_eq_true,beq_iff_eq] at hh
   rw [hh.2]
   simp
  have hpl:sumG part ts=match part r with
   | .error e=>.error e
   | .ok (y,r'')=>sumL part n' (linA x (sgn (isS t 45) y)) r'':=by
   rw [hq]
   show (if isS t 43=true then _ else if isS t 45=true then _ else _)=_
   rcases hk with hk | ⟨hk,hk2⟩
   ·rw [if_pos hk,h45 hk]
    all_goals (cases part r <;> rfl)
   ·rw [if_neg (by rw [hk]; simp),if_pos hk2,hk2]
    all_goals (cases part r <;> rfl)
  refine isR_of rq5 ?_
  have hsb:signB 0 (t::r) 45=isS t 45:=by unfold signB; rfl
  rw [hsb]
  generalize isS t 45=b8 at hpl
  refine step_of rq5 ?_
  intro h6 k6 rq6
  have k06:Ch [A] h h6:=Ch.trans k5 k6 (fun j hj _=>hj)
  have b16:=b15.keep k6 (by simp; omega)
  have b6:=b5.keep k6 (by simp; omega)
  have s6:=s5.keep' k6 (fun j hj=>by have:=(s5.blk hj).1; simp; omega)
  refine call_of (hpart h6 r rq6 wr (by omega)) ?_
  rintro _ h7 ⟨k7,y,p',l',c',ts',d',e',rfl,s7,gy,rq7,post⟩
  refine ⟨((p',l',c'),(y.num:Int),()),rfl,?_⟩
  dsimp only [flat,unc,unc1,nA,cA]
  have hz7:=k7.size
  refine newB ?_
  intro h8 b8' e8 z8
  refine stores_of b8' rfl (by simp) ?_
  intro h9 b9 k9 z9
  have b9:Box h9 h7.size 26 [.slice p' l' c',.int .u32 (y.num:Int)]:=b9
  have e79:Ext h7 h9:=Ch.trans e8 k9 (fun j hj hl=>by simp at hj; omega)
  have k69:Ch [A] h6 h9:=Ch.trans k7 e79 (by simp)
  have k09:Ch [A] h h9:=Ch.trans k06 k69 (fun j hj _=>hj)
  have b19:=b16.keep k69 (by simp; omega)
  have bx9:=b6.keep k69 (by simp; omega)
  have sx9:=s6.keep' k69 (fun j hj=>by have:=(s6.blk hj).1; simp; omega)
  have hz6:=k06.size
  have hz66:=k6.size
  have sy9:=(s7.keep' e79 (by simp)).mono (b':=h.size+1) (by omega)
  have rq9:=rq7.keep e79 (by simp)
  have hhx9:=bx9.lt
  have hz9:=k09.size
  have hz69:=k69.size
  have hyl:y.terms.length≤r.length:=by
   have hff:=hfine r wr
   revert post hff
   cases part r with
   | error e=>rintro ⟨_,_,hl⟩ _; exact hl
   | ok z =>
    obtain ⟨y',r''⟩:=z
    rintro ⟨_,rfl,_,_⟩ ⟨_,_,_,hl⟩
    omega
  have hb6:=b6.lt
  refine join_of (cs:=[]) (fun _ h'=>Ch [h7.size] h9 h'∧∃ p l c,Box h' h7.size 26 [.slice p l c,.int .u32 ((sgn b8 y).num:Int)]∧SL h' (h.size+1) 50 2 p l c ((sgn b8 y).terms.map encT)) ?_ ?_
  ·refine cond_mk (fun g3=>?_) (fun g3=>?_)
   ·subst g3
    refine loads_box b9 ((p',l',c'),(y.num:Int),()) rfl ?_
    dsimp only [flat,unc,unc1,nA,cA]
    refine call_of (times98_hc sy9.vwT (by omega) sy9.vwT' 4294967295) ?_
    rintro _ h10 ⟨e10,q',m',cq',rfl,s10⟩
    refine ⟨((q',m',cq'),((linT y 4294967295).num:Int),()),rfl,?_⟩
    dsimp only [flat,unc,unc1,nA,cA]
    have hb9:=b9.lt
    refine stores_of (b9.keep e10 (by simp)) rfl (by simp) ?_
    intro h11 b11 k11 z11
    have b11:Box h11 h7.size 26 [.slice q' m' cq',.int .u32 ((linT y 4294967295).num:Int)]:=b11
    exact meet_mk (cs:=[]) () rfl rfl ⟨Ch.trans (e10.mono (by simp)) k11 (fun j hj _=>hj),q',m',cq',b11,(s10.keep' k11 (fun j hj=>by have:=(s10.blk hj).1; simp; omega)).mono (by omega)⟩
   ·subst g3
    exact meet_mk (cs:=[]) () rfl rfl ⟨Ch.refl _ _,p',l',c',b9,sy9⟩
  rintro ⟨⟩ h10 ⟨k10,q,m,cq,b10,s10⟩
  dsimp only [flat,unc,unc1,nA,cA]
  have gs:=gy.sgn b8
  have hsl:=sgn_length b8 y
  have bx10:=bx9.keep k10 (by simp; omega)
  have sx10:=sx9.keep' k10 (fun j hj=>by have:=(sx9.blk hj).2; have:=(s6.blk hj).2; simp; omega)
  have b110:=b19.keep k10 (by simp; omega)
  have rq10:=rq9.keep k10 (by simp; omega)
  have k010:Ch [A] h h10:=Ch.trans k09 k10 (fun j hj hl=>by simp at hj; omega)
  have hz10:=k10.size
  refine loads_box bx10 ((p,l,c),(x.num:Int),()) rfl ?_
  dsimp only [flat,unc,unc1,nA,cA]
  refine loads_box b10 ((q,m,cq),((sgn b8 y).num:Int),()) rfl ?_
  dsimp only [flat,unc,unc1,nA,cA]
  refine call_of (add99_hc sx10.vwT s10.vwT sx10.vwT' s10.vwT' (by omega)) ?_
  rintro _ h11 ⟨e11,q',m',cq',rfl,s11⟩
  refine ⟨((q',m',cq'),((linA x (sgn b8 y)).num:Int),()),rfl,?_⟩
  dsimp only [flat,unc,unc1,nA,cA]
  have hb10:=bx10.lt
  refine stores_of (bx10.keep e11 (by simp)) rfl (by simp) ?_
  intro h12 b12 k12 z12
  have b12:Box h12 h2.size 26 [.slice q' m' cq',.int .u32 ((linA x (sgn b8 y)).num:Int)]:=b12
  have k1012:Ch [h2.size] h10 h12:=Ch.trans (e11.mono (by simp)) k12 (fun j hj _=>hj)
  have hall:(linA x (sgn b8 y)).terms.length≤x.terms.length+(sgn b8 y).terms.length:=addM_length x.terms (sgn b8 y).terms
  have mk:∀ m,((e'=0∧d'=d∧∃ n,sumG part ts=sumL part n (linA x (sgn b8 y)) ts'∧ts'.length≤n∧ts' <:+ ts∧(linA x (sgn b8 y)).terms.length+ts'.length≤ts.length∧m=n+1)∨(e'≠0∧sumG part ts=.error e'∧(linA x (sgn b8 y)).terms.length≤ts.length∧m=0)) →
    LoopR h A h.size h2.size us d ts (sumG part ts) (sumL part) m h12:=fun m hc =>
   ⟨Ch.trans k010 k1012 (fun j hj hl=>by simp at hj; omega),b110.keep k1012 (by simp; omega),linA x (sgn b8 y),q',m',cq',ts',d',e',b12,(s11.keep' k12 (fun j hj=>by have:=(s11.blk hj).1; simp; omega)).mono (by omega),gx.A gs,rq10.keep k1012 (by simp; omega),hc⟩
  have hff:=hfine r wr
  revert post hff
  cases hfr:part r with
  | error e =>
   rintro ⟨he,he0,_⟩ _
   refine again_mk (cs:=[]) () 0 rfl (by omega) rfl (mk 0 (.inr ⟨by omega,?_,by omega,rfl⟩))
   rw [hpl,hfr,he]
  | ok z =>
   obtain ⟨y',r''⟩:=z
   rintro ⟨he,rfl,rfl,hd'⟩ ⟨_,hs2,hl2,hn2⟩
   rw [hfr] at hpl
   exact again_mk (cs:=[]) () (n'+1) rfl (by omega) rfl (mk _ (.inl ⟨he,hd',n',hpl,by omega,(hs2.trans (List.suffix_cons _ _)).trans hsuf,by omega,rfl⟩))
 ·have g1:signB e' ts' 43=false∧signB e' ts' 45=false:=by simpa [Bool.or_eq_false_iff] using g1
  refine outR k5 (Nat.le_refl _) hA b15 b5 s5 (by omega) gx rq5 ?_
  rcases cas with ⟨rfl,rfl,n,hq,hn,hsuf,hxn,rfl⟩ | ⟨h0,hq,hxl,rfl⟩
  ·rw [hq,sumL_stop g1.1 g1.2]
   exact ⟨rfl,rfl,rfl,rfl⟩
  ·rw [hq]
   exact ⟨rfl,h0,hxl⟩
theorem sumR_hc (A:Nat) {us:List Tok} (hz:∀ t,t∈us→t.text.size≤9223372036854775807):∀ k d:Nat,d+k=32→RdC 96 A us d (sumD k):=by
 intro k
 induction k with
 | zero =>
  intro d hd
  exact sum83_hc (part96_hc (fac111_hc (o:=none) hz (by omega) (by show d=32; omega) (by intro f hf; cases hf)) (facG_fine (by intro f hf; cases hf))) (partG_fine (facG_fine (by intro f hf; cases hf)))
 | succ k ih =>
  intro d hd
  have hfine:∀ f,some (sumD k)=some f→∀ ts,Wf ts→Fine ts (f ts):=by
   intro f hf
   cases hf
   exact sumD_fine k
  exact sum83_hc (part96_hc (fac111_hc (o:=some (sumD k)) hz (by omega) ⟨by omega,ih (d+1) (by omega)⟩ hfine) (facG_fine hfine)) (partG_fine (facG_fine hfine))
theorem parse47_hc {h : Hp} {p : Option Addr} {l c : Nat} {ts : List Tok} (v : Vw h p l c ts) (hp : ∀ i, i ∈ blkOf p → i < h.size) (w : Wf ts) (hts : ts.length ≤ 2 ^ 40) (hz : ∀ t, t ∈ ts → t.text.size ≤ 9223372036854775807) :
    HC Tryz.prog 77 #[.slice p l c] h (ParseP h (parseX ts)) := by
  refine hcr_of (args := [.slice p l c]) mixed Tryz.func77 (by kernel_rfl) (t_spandrelref4_Parse_eq p l c) ?_
  unfold t_spandrelref4_Parse
  refine newB ?_
  intro h1 b1 e1 z1
  refine newB ?_
  intro h2 b2 e2 z2
  have hll := v.len
  have e02 := e1.trans e2
  have rq2 : RQ h2 h1.size ts ts (0 : Nat) 0 := ⟨0, ⟨p, l, c, b2, v.keep e02 (by simp), fun i hi => by have := hp i hi; omega, Nat.zero_le _, hts⟩, rfl⟩
  refine call_of (sumR_hc h1.size hz 32 0 rfl h2 ts rq2 w hts) ?_
  rintro _ h3 ⟨k3, x, p', l', c', ts', d', e', rfl, s3, gx, rq3, post⟩
  refine ⟨((p', l', c'), (x.num : Int), ()), rfl, ?_⟩
  dsimp only [flat, unc, unc1, nA, cA]
  refine newB ?_
  intro h4 b4 e4 z4
  refine stores_of b4 rfl (by simp) ?_
  intro h5 b5 k5 z5
  have b5 : Box h5 h3.size 26 [.slice p' l' c', .int .u32 (x.num : Int)] := b5
  have e35 : Ext h3 h5 := Ch.trans e4 k5 (fun j hj hl => by simp at hj; omega)
  have hz3 := k3.size
  have hb2 := b2.lt
  have e05 : Ext h h5 := Ch.trans (Ch.trans e02 k3 (fun j hj hl => by simp at hj; omega)) e35 (by simp)
  have b15 := ((b1.keep e2 (by simp)).keep k3 (by simp; omega)).keep e35 (by simp)
  have rq5 := rq3.keep e35 (by simp)
  have s5 := s3.keep' e35 (by simp)
  obtain ⟨i, ⟨q, m, cq, bQ, vq, hq, hi, hu⟩, ht⟩ := rq5
  have rq5 : RQ h5 h1.size ts ts' d' e' := ⟨i, ⟨q, m, cq, bQ, vq, hq, hi, hu⟩, ht⟩
  have bad : ∀ hx (bQ : ∃ q m cq i d, Box hx h1.size 170 [.slice q m cq, .int .i64 i, .int .i64 d, .int .i64 (e' : Int)]) , Box hx h.size 26 [.slice none 0 0, .int .u32 0] → Ext h hx → parseX ts = .error e' → (T.loads ⟨h1.size, 3, none⟩ [.int .i64] fun (n10 : Int) => T.stores ⟨h.size, 0, none⟩ [.slice none 0 0, .int .u32 (0 : Int)] <| T.stable [(⟨h1.size, 3, none⟩, [.int .i64 n10])] <|
      T.loads ⟨h.size, 0, none⟩ [.slice 50, .int .u32] fun (p : Option Addr) (l c : Nat) (n : Int) => T.ret (.tuple #[.agg #[.slice p l c, .int .u32 n], .int .i64 n10])) [] (fun v h' => ParseP h (parseX ts) v h') hx := by
    rintro hx ⟨q, m, cq, i, d, bQ⟩ b1x ex he
    refine loads_box bQ ((e' : Int), ()) rfl ?_
    dsimp only [flat, unc, unc1, nA, cA]
    refine stores_of b1x rfl (by simp) ?_
    intro h7 b7 k7 z7
    have b7 : Box h7 h.size 26 [.slice none 0 0, .int .u32 0] := b7
    have bQ7 := bQ.keep k7 (by simp; omega)
    refine ⟨⟨bQ7.cells _ rfl, trivial⟩, ?_⟩
    refine loads_box b7 ((none, 0, 0), (0 : Int), ()) rfl ?_
    refine ⟨Ch.trans ex k7 (fun j hj hl => by simp at hj; omega), ?_⟩
    rw [he]
  have good : ∀ hx, Box hx h3.size 26 [.slice p' l' c', .int .u32 (x.num : Int)] → Box hx h.size 26 [.slice none 0 0, .int .u32 0] → SL hx h2.size 50 2 p' l' c' (x.terms.map encT) → Ext h hx → parseX ts = .ok x → (T.loads ⟨h3.size, 0, none⟩ [.slice 50, .int .u32] fun (p : Option Addr) (l c : Nat) (n : Int) => T.stores ⟨h.size, 0, none⟩ [.slice p l c, .int .u32 n] <|
      T.loads ⟨h.size, 0, none⟩ [.slice 50, .int .u32] fun (p : Option Addr) (l c : Nat) (n : Int) => T.ret (.tuple #[.agg #[.slice p l c, .int .u32 n], .int .i64 (0 : Int)])) [] (fun v h' => ParseP h (parseX ts) v h') hx := by
    intro hx bx b1x sx ex he
    refine loads_box bx ((p', l', c'), (x.num : Int), ()) rfl ?_
    dsimp only [flat, unc, unc1, nA, cA]
    refine stores_of b1x rfl (by simp) ?_
    intro h7 b7 k7 z7
    have b7 : Box h7 h.size 26 [.slice p' l' c', .int .u32 (x.num : Int)] := b7
    refine loads_box b7 ((p', l', c'), (x.num : Int), ()) rfl ?_
    refine ⟨Ch.trans ex k7 (fun j hj hl => by simp at hj; omega), ?_⟩
    rw [he]
    exact ⟨p', l', c', rfl, (sx.keep' k7 (fun j hj => by have := (sx.blk hj).1; simp; omega)).mono (by omega), gx⟩
  rw [add_box]
  refine loads_box bQ ((e' : Int), ()) rfl ?_
  dsimp only [flat, unc, unc1, nA, cA]
  refine cond_mk (fun g1 => ?_) (fun g1 => ?_)
  · have g1 : e' = 0 := by have : (e' : Int) = 0 := by simpa using g1
                           omega
    subst g1
    have hok : sumD 32 ts = .ok (x, ts') := by
      revert post
      cases sumD 32 ts with
      | error e => rintro ⟨rfl, h0, _⟩; exact absurd rfl h0
      | ok z => obtain ⟨y, r⟩ := z; rintro ⟨_, rfl, rfl, _⟩; rfl
    rw [add_box]
    refine loads_box bQ ((i : Int), ()) rfl ?_
    dsimp only [flat, unc, unc1, nA, cA]
    refine cond_mk (fun g2 => ?_) (fun g2 => ?_)
    · have g2 := of_decide_eq_true g2
      have hne : ts' ≠ [] := by rw [ht]; intro hh; have := List.drop_eq_nil_iff.1 hh; omega
      refine refuseR_of (w := 20) rq5 ?_
      intro h6 k6 rq6
      obtain ⟨i6, ⟨q6, m6, cq6, bQ6, vq6, hq6, hi6, hu6⟩, ht6⟩ := rq6
      have bQ6 : Box h6 h1.size 170 [.slice q6 m6 cq6, .int .i64 (i6 : Int), .int .i64 d', .int .i64 ((20 : Nat) : Int)] := bQ6
      refine loads_box bQ6 (((20 : Nat) : Int), ()) rfl ?_
      dsimp only [flat, unc, unc1, nA, cA]
      refine cond_t rfl ?_
      refine loads_box bQ6 (((20 : Nat) : Int), ()) rfl ?_
      dsimp only [flat, unc, unc1, nA, cA]
      refine stores_of (b15.keep k6 (by simp; omega)) rfl (by simp) ?_
      intro h7 b7 k7 z7
      have b7 : Box h7 h.size 26 [.slice none 0 0, .int .u32 0] := b7
      have bQ7 := bQ6.keep k7 (by simp; omega)
      refine ⟨⟨bQ7.cells _ rfl, trivial⟩, ?_⟩
      refine loads_box b7 ((none, 0, 0), (0 : Int), ()) rfl ?_
      have he : parseX ts = .error 20 := by unfold parseX; rw [hok]; simp only; rw [if_neg hne]
      refine ⟨Ch.trans (Ch.trans e05 k6 (fun j hj hl => by simp at hj; omega)) k7 (fun j hj hl => by simp at hj; omega), ?_⟩
      rw [he]
    · have g2 := of_decide_eq_false g2
      have hnil : ts' = [] := by rw [ht]; exact List.drop_eq_nil_of_le (by omega)
      refine loads_box bQ ((0 : Int), ()) rfl ?_
      dsimp only [flat, unc, unc1, nA, cA]
      refine cond_f rfl ?_
      exact good h5 b5 b15 s5 e05 (by unfold parseX; rw [hok]; simp only; rw [if_pos hnil])
  · have g1 : ¬ e' = 0 := by have : ¬ (e' : Int) = 0 := by simpa using g1
                             omega
    have he : parseX ts = .error e' := by
      unfold parseX
      revert post
      cases sumD 32 ts with
      | error e => rintro ⟨rfl, h0, _⟩; rfl
      | ok z => obtain ⟨y, r⟩ := z; rintro ⟨h0, _⟩; exact absurd h0 g1
    refine loads_box bQ ((e' : Int), ()) rfl ?_
    dsimp only [flat, unc, unc1, nA, cA]
    refine cond_t (by simpa using g1) ?_
    exact bad h5 ⟨q, m, cq, _, _, bQ⟩ b15 e05 he
def parsePost (te es:TypeId) (s:ByteArray) (h:Hp) (v:Value) (h':Hp):Prop :=
 Ext h h'∧∃ p c al,v=.tuple #[.agg #[.string (parseS s).1.label,.string (parseS s).1.op,.slice p al.length c],.int .i64 (parseS s).2.1,.int .i64 (parseS s).2.2]∧Args h' h.size te es p c al∧al.map In.ts=(parseS s).1.args
theorem labB_false {ts:List Tok} (hh:∀ t u r,ts=t::u::r→t.kind=1→isS u 58=true→False):labB ts=false:=by
 match ts,hh with
 | [],_=>rfl
 | [_],_=>rfl
 | t::u::r,hh =>
  cases hl:labB (t::u::r) with
  | false=>rfl
  | true =>
   simp only [labB,Bool.and_eq_true,decide_eq_true_eq] at hl
   exact (hh t u r rfl hl.1 hl.2).elim
theorem parse_hc (s:ByteArray) (h:Hp) (hs:s.size≤2^40) (hl:Laid h):HC Tryz.prog 12 #[.string s] h (parsePost 42 57 s h):=by
 refine hcr_of (args:=[.string s]) mixed Tryz.func12 (by kernel_rfl) (t_line_Parse_eq s) ?_
 unfold t_line_Parse
 refine newB ?_
 intro h1 b1 e1 z1
 refine call_of (tokens_hc s h1 hs (hl.ext e1)) ?_
 rintro _ h2 ⟨p2,l3,l4,rfl,sl,e2⟩
 refine ⟨((p2,l3,l4),((lexS s).2.1:Int),((lexS s).2.2:Int),()),rfl,?_⟩
 dsimp only [unc,unc1,flat,nA,cA]
 have b2:=b1.keep e2 (by simp)
 have e12:=e1.trans e2
 have hlen:=lexS_len s
 have hz2:=e2.size
 have hE:∀ {hh h':Hp},Ext h hh→Ch [h.size] hh h'→Ext h h':=fun e k=>Ch.trans e k (fun i hi hl=>by simp at hi; omega)
 refine cond_mk (fun g1=>?_) (fun g1=>?_)
 ·have g1:((lexS s).2.2:Int)≠0:=by simpa using g1
  have hp:parseS s=(lnNil,(lexS s).2.1,(lexS s).2.2):=by unfold parseS; rw [if_pos (by omega)]
  refine stores_of b2 rfl (by simp) ?_
  intro h3 b3 k3 z3
  have b3:Box h3 h.size 39 [.string ⟨#[]⟩,.string ⟨#[]⟩,.slice none 0 0]:=b3
  refine loads_box b3 ((⟨#[]⟩:ByteArray),(⟨#[]⟩:ByteArray),(none,0,0),()) rfl ?_
  exact ⟨hE e12 k3,none,0,[],by rw [hp]; rfl,Args.nil _ _ _ _,by rw [hp]; rfl⟩
 have g1:((lexS s).2.2:Int)=0:=by simpa using g1
 have hp:parseS s=parseL s.size (lexS s).1:=by unfold parseS; rw [if_neg (by omega)]
 have vw:=sl.vw
 have hblk:∀ i,i∈blkOf p2→h1.size+1≤i∧i<h2.size:=fun i hi=>sl.blk hi
 clear sl
 generalize (lexS s).1=ts at hp vw hlen
 unfold parsePost
 rw [hp]
 refine newB ?_
 intro h3 b7 e3 z3
 have hz1:=z1
 have vw3:=vw.keep e3 (by simp)
 have hl3:=vw.len
 have hcap:=vw.cap
 refine join_of (cs:=[(false,[.slice 0])]) (fun y h'=>∃ lb us,parseL s.size ts=parseT s.size lb us∧us.length≤s.size∧Vw h' y.1.1 y.1.2.1 y.1.2.2 us∧(∀ i,i∈blkOf y.1.1→h1.size+1≤i∧i<h2.size)∧Box h' h2.size 39 [.string lb,.string ⟨#[]⟩,.slice none 0 0]∧Ch [h2.size] h3 h') ?_ ?_
 ·have plain:∀ {L:Lp} {K:Value→Hp→Prop} {h':Hp},Ext h3 h'→labB ts=false→(T.again 0 [.slice p2 l3 l4]) ((fun vs h'=>∃ y:HVs (flat [(false,[.slice 0])]),vs=parts [(false,[.slice 0])] (hvs _ y)∧∃ lb us,parseL s.size ts=parseT s.size lb us∧us.length≤s.size∧Vw h' y.1.1 y.1.2.1 y.1.2.2 us∧(∀ i,i∈blkOf y.1.1→h1.size+1≤i∧i<h2.size)∧Box h' h2.size 39 [.string lb,.string ⟨#[]⟩,.slice none 0 0]∧Ch [h2.size] h3 h')::L) K h':=by
   intro L K h' e hlab
   refine meet_mk (cs:=[(false,[.slice 0])]) ((p2,l3,l4),()) rfl rfl ⟨⟨#[]⟩,ts,?_,hlen,vw3.keep e (by simp),hblk,b7.keep e (by simp),e.mono (by simp)⟩
   unfold parseL
   rw [if_neg (by rw [hlab]; simp)]
  refine cond_mk (fun g2=>?_) (fun g2=>?_)
  ·have g2:=of_decide_eq_true g2
   match ts,hl3 with
   | [],hl3=>simp at hl3; omega
   | [_],hl3=>simp at hl3; omega
   | t::u::r,hl3 =>
    obtain ⟨a,rfl,c0⟩:=vw3.cells 0 (by simp)
    obtain ⟨a',ha',c1⟩:=vw3.cells 1 (by simp)
    cases ha'
    have c0:cellsAt h3 (a.add (0*4)) 0 (enc t):=c0
    have c1:cellsAt h3 (a.add (1*4)) 0 (enc u):=c1
    have ab:a.block∈blkOf (some a):=by simp [blkOf]
    refine need_of ⟨by omega,by omega⟩ (osome_mk rfl (loads_of ((t.kind:Int),()) ⟨c0.1,trivial⟩ ?_))
    dsimp only [unc,unc1,flat,nA,cA]
    refine cond_mk (fun g3=>?_) (fun g3=>?_)
    ·have g3:(t.kind:Int)=1:=eq_of_beq g3
     refine need_of ⟨by omega,by omega⟩ (osome_mk rfl (loads_of ((u.kind:Int),u.text,(u.num:Int),(u.at_:Int),()) c1 ?_))
     refine call_boolx (is_hc u 58 h3) ?_
     intro h4 e4
     refine cond_mk (fun g4=>?_) (fun g4=>?_)
     ·have c0':=cellsAt_keep e4 (by simp) _ _ c0
      refine need_of ⟨by omega,by omega⟩ (osome_mk rfl (loads_of (t.text,()) ⟨c0'.2.1,trivial⟩ ?_))
      refine stores_of (b7.keep e4 (by simp)) rfl (by simp) ?_
      intro h5 b5 k5 z5
      refine need_of ⟨by omega,by omega,by omega⟩ ?_
      have e35:Ch [h2.size] h3 h5:=Ch.trans (e4.mono (by simp)) k5 (fun i hi _=>hi)
      have vd:=((vw3.keep e4 (by simp)).keep k5 (fun i hi=>by have:=(hblk i hi).2; simp; omega)).drop (k:=2) (by omega)
      refine meet_mk (cs:=[(false,[.slice 0])]) ((if l4=2 then some a else (some a).map fun a=>a.add (2*4),l3-2,l4-2),()) rfl ?_ ⟨t.text,r,?_,by simp at hlen; omega,vd,?_,b5,e35⟩
      ·show [Value.slice _ (Int.toNat (l3:Int)-2) (l4-2)]=_
       rw [show Int.toNat (l3:Int)=l3 by omega]
       rfl
      ·unfold parseL
       rw [if_pos (by show (decide (t.kind=1) && isS u 58)=true; rw [g4,decide_eq_true (by omega)]; rfl)]
       rfl
      ·intro i hi
       rw [show blkOf (if l4=2 then some a else (some a).map fun a=>a.add (2*4))=blkOf (some a) from blkOf_if _ _ _ _] at hi
       exact hblk i hi
     ·exact plain e4 (labB_false (by rintro _ _ _ hh h1 h2; injection hh with q1 q2; injection q2 with q2 _; subst q1 q2; rw [h2] at g4; cases g4))
    ·have g3:(t.kind:Int)≠1:=ne_of_beq_false g3
     exact plain (Ch.refl _ _) (labB_false (by rintro _ _ _ hh h1 h2; injection hh with q1 q2; subst q1; omega))
  ·have g2:=of_decide_eq_false g2
   exact plain (Ch.refl _ _) (labB_false (by rintro t u r rfl h1 h2; simp at hl3; omega))
 ·rintro ⟨⟨p8,l9,l10⟩,⟨⟩⟩ h4 ⟨lb,us,hpl,hus,v4,hb4,b4,k4⟩
  simp only at v4 hb4
  dsimp only [unc,unc1,flat,nA,cA]
  rw [hpl]
  have hl9:=v4.len
  have hc9:=v4.cap
  have hne:h.size≠h2.size:=by omega
  have a4:Box h4 h.size 39 [.string ⟨#[]⟩,.string ⟨#[]⟩,.slice none 0 0]:=(b2.keep e3 (by simp)).keep k4 (by simp; omega)
  have e04:Ext h h4:=Ch.trans (e12.trans e3) k4 (fun i hi hl=>by simp at hi; omega)
  have hz4:=k4.size
  have hz3:=e3.size
  have out:∀ {hh:Hp} {L:Lp} {op:ByteArray} {al:List In} {p:Option Addr} {c:Nat},(∃ v w u,Box hh h.size 39 [v,w,u])→Box hh h2.size 39 [.string lb,.string op,.slice p al.length c]→Ext h hh→Args hh h4.size 42 57 p c al→parseT s.size lb us=(⟨lb,op,al.map In.ts⟩,0,0) →
    (T.loads ⟨h2.size,0,none⟩ [.string,.string,.slice 42] <| fun (s11:ByteArray) (s12:ByteArray) (p13:Option Addr) (l14:Nat) (l15:Nat) =>
     T.stores ⟨h.size,0,none⟩ [.string s11,.string s12,.slice p13 l14 l15] <|
     T.loads ⟨h.size,0,none⟩ [.string,.string,.slice 42] <| fun (s16:ByteArray) (s17:ByteArray) (p18:Option Addr) (l19:Nat) (l20:Nat) =>
     T.ret (.tuple #[.agg #[.string s16,.string s17,.slice p18 l19 l20],.int .i64 (0:Int),.int .i64 (0:Int)])) L
     (fun v h'=>Ext h h'∧∃ p c al,v=.tuple #[.agg #[.string (parseT s.size lb us).1.label,.string (parseT s.size lb us).1.op,.slice p al.length c],.int .i64 (parseT s.size lb us).2.1,.int .i64 (parseT s.size lb us).2.2]∧Args h' h.size 42 57 p c al∧al.map In.ts=(parseT s.size lb us).1.args) hh:=by
   rintro hh L op al p c ⟨v,w,u,bb⟩ b7' e A hpt
   refine loads_box b7' (lb,op,(p,al.length,c),()) rfl ?_
   refine stores_of bb rfl (by simp) ?_
   intro h' b' k' z'
   have b':Box h' h.size 39 [.string lb,.string op,.slice p al.length c]:=b'
   refine loads_box b' (lb,op,(p,al.length,c),()) rfl ?_
   rw [hpt]
   exact ⟨hE e k',p,c,al,rfl,(A.keep k' (fun i hi=>by have:=(A.out.blk hi).1; simp; omega) (fun x hx i hi=>by have:=((A.inn x hx).blk hi).1; simp; omega)).mono (by omega),rfl⟩
  refine cond_mk (fun g2=>?_) (fun g2=>?_)
  ·have g2:(l9:Int)=0:=eq_of_beq g2
   have:us=[]:=List.eq_nil_of_length_eq_zero (by omega)
   subst this
   exact out (al:=[]) ⟨_,_,_,a4⟩ b4 e04 (Args.nil _ _ _ _) rfl
  have g2:(l9:Int)≠0:=ne_of_beq_false g2
  cases us with
  | nil=>simp at hl9; omega
  | cons t us =>
   obtain ⟨a,rfl,c0⟩:=v4.cells 0 (by simp)
   have c0:cellsAt h4 (a.add (0*4)) 0 (enc t):=c0
   have ab:=hb4 a.block (by simp [blkOf])
   refine need_of ⟨by omega,by omega⟩ (osome_mk rfl (loads_of ((t.kind:Int),()) ⟨c0.1,trivial⟩ ?_))
   dsimp only [unc,unc1,flat,nA,cA]
   refine cond_mk (fun g3=>?_) (fun g3=>?_)
   ·have g3:(t.kind:Int)≠1:=by simpa using g3
    have hpt:parseT s.size lb (t::us)=(lnNil,t.at_,20):=by simp only [parseT]; rw [if_pos (by omega)]
    refine need_of ⟨by omega,by omega⟩ (osome_mk rfl (loads_of ((t.at_:Int),()) ⟨c0.2.2.2.1,trivial⟩ ?_))
    dsimp only [unc,unc1,flat,nA,cA]
    refine stores_of a4 rfl (by simp) ?_
    intro h5 b5 k5 z5
    have b5:Box h5 h.size 39 [.string ⟨#[]⟩,.string ⟨#[]⟩,.slice none 0 0]:=b5
    have c5:=cellsAt_keep k5 (by rw [add_block]; simp; omega) _ _ c0
    refine ⟨⟨⟨c5.2.2.2.1,trivial⟩,trivial⟩,?_⟩
    refine loads_box b5 ((⟨#[]⟩:ByteArray),(⟨#[]⟩:ByteArray),(none,0,0),()) rfl ?_
    rw [hpt]
    exact ⟨hE e04 k5,none,0,[],rfl,Args.nil _ _ _ _,rfl⟩
   have g3:(t.kind:Int)=1:=by simpa using g3
   have hpt:parseT s.size lb (t::us)=match argsA s.size us with
     | .error a=>(lnNil,a,20)
     | .ok l=>(⟨lb,t.text,l⟩,0,0):=by simp only [parseT]; rw [if_neg (by omega)]; cases argsA s.size us <;> rfl
   refine need_of ⟨by omega,by omega⟩ (osome_mk rfl (loads_of (t.text,()) ⟨c0.2.1,trivial⟩ ?_))
   dsimp only [unc,unc1,flat,nA,cA]
   rw [add_box]
   refine stores_of b4 rfl (by simp) ?_
   intro h5 b5 k5 z5
   have b5:Box h5 h2.size 39 [.string lb,.string t.text,.slice none 0 0]:=b5
   have a5:=a4.keep k5 (by simp; omega)
   have e05:Ext h h5:=Ch.trans e04 k5 (fun i hi hl=>by simp at hi; omega)
   refine need_of ⟨by omega,by omega,by omega⟩ ?_
   have vd:=(v4.keep k5 (fun i hi=>by have:=(hb4 i hi).2; simp; omega)).drop (k:=1) (by omega)
   refine call_of (args:=[.string s,.slice _ _ _]) (arguments_hc s (us:=us) (by simp at hus; omega) ?vv) ?_
   case vv=>rw [show Int.toNat (l9:Int)=l9 by omega]; exact vd
   rintro v h6 ⟨e6,hv⟩
   have a6:=a5.keep e6 (by simp)
   have b6:=b5.keep e6 (by simp)
   have e06:=e05.trans e6
   cases hA:argsA s.size us with
   | error aa =>
    rw [hA] at hv hpt
    simp only at hv hpt
    subst hv
    refine ⟨((none,0,0),(aa:Int),(20:Int),()),rfl,?_⟩
    dsimp only [unc,unc1,flat,nA,cA]
    refine cond_t rfl ?_
    refine stores_of a6 rfl (by simp) ?_
    intro h7 b7 k7 z7
    have b7:Box h7 h.size 39 [.string ⟨#[]⟩,.string ⟨#[]⟩,.slice none 0 0]:=b7
    refine loads_box b7 ((⟨#[]⟩:ByteArray),(⟨#[]⟩:ByteArray),(none,0,0),()) rfl ?_
    rw [hpt]
    exact ⟨hE e06 k7,none,0,[],rfl,Args.nil _ _ _ _,rfl⟩
   | ok ll =>
    rw [hA] at hv hpt
    simp only at hv hpt
    obtain ⟨p,c,al,rfl,A,hal⟩:=hv
    refine ⟨((p,al.length,c),(0:Int),(0:Int),()),rfl,?_⟩
    dsimp only [unc,unc1,flat,nA,cA]
    refine cond_f rfl ?_
    rw [add_box]
    refine stores_of b6 rfl (by simp) ?_
    intro h7 b7 k7 z7
    have b7:Box h7 h2.size 39 [.string lb,.string t.text,.slice p al.length c]:=b7
    have hz5:=k5.size
    refine out (op:=t.text) (al:=al) ⟨_,_,_,a6.keep k7 (by simp; omega)⟩ b7 (Ch.trans e06 k7 (fun i hi hl=>by simp at hi; omega)) ((A.keep k7 (fun i hi=>by have:=(A.out.blk hi).1; simp; omega) (fun x hx i hi=>by have:=((A.inn x hx).blk hi).1; simp; omega)).mono (by omega)) (by rw [hpt,hal])
theorem argsS_bound (n N:Nat):∀ (ts:List Tok) (done:List (List Tok)) (cur:List Tok) (r:List (List Tok)),argsS n ts done cur=.ok r→(∀ l,l∈done→l.length≤N)→cur.length+ts.length≤N →
  (∀ l,l∈r→l.length≤N)∧r.length≤done.length+1+ts.length
 | [],done,cur,r,h,hd,hc=>by
  simp only [argsS] at h
  split at h
  ·cases h
  ·injection h with h
   subst h
   refine ⟨fun l hl=>?_,by simp⟩
   rcases List.mem_append.1 hl with hl | hl
   ·exact hd l hl
   ·have:l=cur:=by simpa using hl
    subst this
    simpa using hc
 | t::ts,done,cur,r,h,hd,hc=>by
  simp only [argsS] at h
  simp only [List.length_cons] at hc
  split at h
  ·cases h
  ·split at h
   ·have:=argsS_bound n N ts (done++[cur]) [] r h (fun l hl=>by
     rcases List.mem_append.1 hl with hl | hl
     ·exact hd l hl
     ·have:l=cur:=by simpa using hl
      subst this
      omega) (by simp; omega)
    refine ⟨this.1,?_⟩
    have h2:=this.2
    simp at h2 ⊢
    omega
   ·have:=argsS_bound n N ts done (cur++[t]) r h hd (by simp; omega)
    refine ⟨this.1,?_⟩
    have h2:=this.2
    simp at h2 ⊢
    omega
theorem parseT_bound (n N:Nat) (lb:ByteArray) (us:List Tok) (h:us.length≤N):(∀ l,l∈(parseT n lb us).1.args→l.length≤N)∧(parseT n lb us).1.args.length≤N+1:=by
 cases us with
 | nil=>simp [parseT]
 | cons t us =>
  simp only [List.length_cons] at h
  simp only [parseT]
  split
  ·simp [lnNil]
  ·cases hA:argsA n us with
   | error a=>simp [lnNil]
   | ok l =>
    unfold argsA at hA
    split at hA
    ·injection hA with hA
     subst hA
     simp
    ·have:=argsS_bound n N us [] [] l hA (by simp) (by simp; omega)
     refine ⟨this.1,?_⟩
     have h2:=this.2
     simp at h2 ⊢
     omega
theorem parseS_bound (s:ByteArray):(∀ l,l∈(parseS s).1.args→l.length≤s.size)∧(parseS s).1.args.length≤s.size+1:=by
 have hlen:=lexS_len s
 unfold parseS
 split
 ·simp [lnNil]
 ·unfold parseL
  split
  ·exact parseT_bound _ _ _ _ (by rw [List.length_drop]; omega)
  ·exact parseT_bound _ _ _ _ hlen
theorem tokZ2:(Tryz.prog.info? 101).map (fun i=>(i.zero,i.size,i.bytes))=some (some (.agg #[.int .i64 0,.string ⟨#[]⟩,.int .u32 0,.int .i64 0]),4,40):=by kernel_rfl
theorem slZ2:(Tryz.prog.info? 98).map (fun i=>(i.zero,i.size,i.bytes))=some (some (.slice none 0 0),1,24):=by kernel_rfl
theorem und51:Tryz.prog.underlying 67=some (.slice 98):=by kernel_rfl
theorem und27:Tryz.prog.underlying 98=some (.slice 101):=by kernel_rfl
abbrev parCs:List Comp:=[(false,[.int .i64]),(false,[.int .i64]),(false,[.int .i64]),(false,[.slice 0])]
def parI (n k1 g7:Nat) (us:List Tok) (lb op:ByteArray) (h:Hp) (x:HVs (flat parCs)) (m:Nat) (h':Hp):Prop :=
 ∃ (i:Nat) (dn:List In) (cu:In) (pa:Option Addr) (ca:Nat),x.2.2.1=((k1+i:Nat):Int)∧i≤us.length∧m=us.length-i∧Ch [g7] h h'∧Box h' g7 69 [.string lb,.string op,.slice pa dn.length ca]∧Args h' h.size 98 101 pa ca dn ∧
  x.2.2.2.1=(cu.p,cu.l,cu.c)∧SL h' h.size 101 4 cu.p cu.l cu.c (cu.ts.map enc)∧(∀ j,j∈blkOf cu.p→j∉blkOf pa)∧(∀ a,a∈dn→∀ j,j∈blkOf a.p→j∉blkOf cu.p) ∧
  argsS n us [] []=argsS n (us.drop i) (dn.map In.ts) cu.ts∧dn.length≤i∧cu.ts.length≤i
theorem parse2_hc (s:ByteArray) (h:Hp) (hs:s.size≤2^40):HC Tryz.prog 23 #[.string s] h (parsePost 98 101 s h):=by
 refine hcr_of (args:=[.string s]) mixed Tryz.func23 (by kernel_rfl) (t_spandrelref3_Parse_eq s) ?_
 unfold t_spandrelref3_Parse
 refine newB ?_
 intro h1 b1 e1 z1
 refine call_of (tokens2_hc s h1 hs) ?_
 rintro _ h2 ⟨p2,l3,l4,rfl,sl,e2⟩
 refine ⟨((p2,l3,l4),((lexS s).2.1:Int),((lexS s).2.2:Int),()),rfl,?_⟩
 dsimp only [unc,unc1,flat,nA,cA]
 have b2:=b1.keep e2 (by simp)
 have e12:=e1.trans e2
 have hlen:=lexS_len s
 have hz2:=e2.size
 have hE:∀ {hh h':Hp},Ext h hh→Ch [h.size] hh h'→Ext h h':=fun e k=>Ch.trans e k (fun i hi hl=>by simp at hi; omega)
 refine cond_mk (fun g1=>?_) (fun g1=>?_)
 ·have g1:((lexS s).2.2:Int)≠0:=by simpa using g1
  have hp:parseS s=(lnNil,(lexS s).2.1,(lexS s).2.2):=by unfold parseS; rw [if_pos (by omega)]
  refine stores_of b2 rfl (by simp) ?_
  intro h3 b3 k3 z3
  have b3:Box h3 h.size 69 [.string ⟨#[]⟩,.string ⟨#[]⟩,.slice none 0 0]:=b3
  refine loads_box b3 ((⟨#[]⟩:ByteArray),(⟨#[]⟩:ByteArray),(none,0,0),()) rfl ?_
  exact ⟨hE e12 k3,none,0,[],by rw [hp]; rfl,Args.nil _ _ _ _,by rw [hp]; rfl⟩
 have g1:((lexS s).2.2:Int)=0:=by simpa using g1
 have hp:parseS s=parseL s.size (lexS s).1:=by unfold parseS; rw [if_neg (by omega)]
 have vw:=sl.vw
 have hblk:∀ i,i∈blkOf p2→h1.size≤i∧i<h2.size:=fun i hi=>sl.blk hi
 clear sl
 generalize (lexS s).1=ts at hp vw hlen
 unfold parsePost
 rw [hp]
 refine newB ?_
 intro h3 b7 e3 z3
 have hz1:=z1
 have vw3:=vw.keep e3 (by simp)
 have hl3:=vw.len
 have hcap:=vw.cap
 refine join_of (cs:=[(false,[.int .i64])]) (fun y h'=>∃ (k:Nat) (lb:ByteArray),y.1=(k:Int)∧k≤ts.length∧parseL s.size ts=parseT s.size lb (ts.drop k)∧Box h' h2.size 69 [.string lb,.string ⟨#[]⟩,.slice none 0 0]∧Ch [h2.size] h3 h') ?_ ?_
 ·have plain:∀ {L:Lp} {K:Value→Hp→Prop} {h':Hp},Ext h3 h'→labB ts=false→(T.again 0 [.int .i64 (0:Int)]) ((fun vs h'=>∃ y:HVs (flat [(false,[.int .i64])]),vs=parts [(false,[.int .i64])] (hvs _ y)∧∃ (k:Nat) (lb:ByteArray),y.1=(k:Int)∧k≤ts.length∧parseL s.size ts=parseT s.size lb (ts.drop k)∧Box h' h2.size 69 [.string lb,.string ⟨#[]⟩,.slice none 0 0]∧Ch [h2.size] h3 h')::L) K h':=by
   intro L K h' e hlab
   refine meet_mk (cs:=[(false,[.int .i64])]) ((0:Int),()) rfl rfl ⟨0,⟨#[]⟩,rfl,by omega,?_,b7.keep e (by simp),e.mono (by simp)⟩
   unfold parseL
   rw [if_neg (by rw [hlab]; simp),List.drop_zero]
  refine cond_mk (fun g2=>?_) (fun g2=>?_)
  ·have g2:=of_decide_eq_true g2
   match ts,hl3 with
   | [],hl3=>simp at hl3; omega
   | [_],hl3=>simp at hl3; omega
   | t::u::r,hl3 =>
    obtain ⟨a,rfl,c0⟩:=vw3.cells 0 (by simp)
    obtain ⟨a',ha',c1⟩:=vw3.cells 1 (by simp)
    cases ha'
    have c0:cellsAt h3 (a.add (0*4)) 0 (enc t):=c0
    have c1:cellsAt h3 (a.add (1*4)) 0 (enc u):=c1
    refine need_of ⟨by omega,by omega⟩ (osome_mk rfl (loads_of ((t.kind:Int),()) ⟨c0.1,trivial⟩ ?_))
    dsimp only [unc,unc1,flat,nA,cA]
    refine cond_mk (fun g3=>?_) (fun g3=>?_)
    ·have g3:(t.kind:Int)=1:=eq_of_beq g3
     refine need_of ⟨by omega,by omega⟩ (osome_mk rfl (loads_of ((u.kind:Int),u.text,(u.num:Int),(u.at_:Int),()) c1 ?_))
     refine call_boolx (sign_hc u 58 h3) ?_
     intro h4 e4
     refine cond_mk (fun g4=>?_) (fun g4=>?_)
     ·have c0':=cellsAt_keep e4 (by simp) _ _ c0
      refine need_of ⟨by omega,by omega⟩ (osome_mk rfl (loads_of (t.text,()) ⟨c0'.2.1,trivial⟩ ?_))
      refine stores_of (b7.keep e4 (by simp)) rfl (by simp) ?_
      intro h5 b5 k5 z5
      have e35:Ch [h2.size] h3 h5:=Ch.trans (e4.mono (by simp)) k5 (fun i hi _=>hi)
      refine meet_mk (cs:=[(false,[.int .i64])]) ((2:Int),()) rfl rfl ⟨2,t.text,rfl,by simp,?_,b5,e35⟩
      unfold parseL
      rw [if_pos (by show (decide (t.kind=1) && isS u 58)=true; rw [g4,decide_eq_true (by omega)]; rfl)]
      rfl
     ·exact plain e4 (labB_false (by rintro _ _ _ hh h1 h2; injection hh with q1 q2; injection q2 with q2 _; subst q1 q2; rw [h2] at g4; cases g4))
    ·have g3:(t.kind:Int)≠1:=ne_of_beq_false g3
     exact plain (Ch.refl _ _) (labB_false (by rintro _ _ _ hh h1 h2; injection hh with q1 q2; subst q1; omega))
  ·have g2:=of_decide_eq_false g2
   exact plain (Ch.refl _ _) (labB_false (by rintro t u r rfl h1 h2; simp at hl3; omega))
 ·rintro ⟨n8,⟨⟩⟩ h4 ⟨k,lb,hk,hkle,hpl,b4,k4⟩
  simp only at hk
  subst hk
  dsimp only [unc,unc1,flat,nA,cA]
  rw [hpl]
  have v4:=vw3.keep k4 (fun i hi=>by have:=(hblk i hi).2; simp; omega)
  have hne:h.size≠h2.size:=by omega
  have a4:Box h4 h.size 69 [.string ⟨#[]⟩,.string ⟨#[]⟩,.slice none 0 0]:=(b2.keep e3 (by simp)).keep k4 (by simp; omega)
  have e04:Ext h h4:=Ch.trans (e12.trans e3) k4 (fun i hi hl=>by simp at hi; omega)
  have hz4:=k4.size
  have hz3:=e3.size
  have hL:(ts.drop k).length=ts.length-k:=List.length_drop
  have out:∀ {hh:Hp} {L:Lp} {op:ByteArray} {al:List In} {p:Option Addr} {c nn:Nat},nn=al.length→(∃ v w u,Box hh h.size 69 [v,w,u])→Box hh h2.size 69 [.string lb,.string op,.slice p nn c]→Ext h hh→Args hh h4.size 98 101 p c al→parseT s.size lb (ts.drop k)=(⟨lb,op,al.map In.ts⟩,0,0) →
    (T.loads ⟨h2.size,0,none⟩ [.string,.string,.slice 98] <| fun (s11:ByteArray) (s12:ByteArray) (p13:Option Addr) (l14:Nat) (l15:Nat) =>
     T.stores ⟨h.size,0,none⟩ [.string s11,.string s12,.slice p13 l14 l15] <|
     T.loads ⟨h.size,0,none⟩ [.string,.string,.slice 98] <| fun (s16:ByteArray) (s17:ByteArray) (p18:Option Addr) (l19:Nat) (l20:Nat) =>
     T.ret (.tuple #[.agg #[.string s16,.string s17,.slice p18 l19 l20],.int .i64 (0:Int),.int .i64 (0:Int)])) L
     (fun v h'=>Ext h h'∧∃ p c al,v=.tuple #[.agg #[.string (parseT s.size lb (ts.drop k)).1.label,.string (parseT s.size lb (ts.drop k)).1.op,.slice p al.length c],.int .i64 (parseT s.size lb (ts.drop k)).2.1,.int .i64 (parseT s.size lb (ts.drop k)).2.2]∧Args h' h.size 98 101 p c al∧al.map In.ts=(parseT s.size lb (ts.drop k)).1.args) hh:=by
   rintro hh L op al p c nn rfl ⟨v,w,u,bb⟩ b7' e A hpt
   refine loads_box b7' (lb,op,(p,al.length,c),()) rfl ?_
   refine stores_of bb rfl (by simp) ?_
   intro h' b' k' z'
   have b':Box h' h.size 69 [.string lb,.string op,.slice p al.length c]:=b'
   refine loads_box b' (lb,op,(p,al.length,c),()) rfl ?_
   rw [hpt]
   exact ⟨hE e k',p,c,al,rfl,(A.keep k' (fun i hi=>by have:=(A.out.blk hi).1; simp; omega) (fun x hx i hi=>by have:=((A.inn x hx).blk hi).1; simp; omega)).mono (by omega),rfl⟩
  have refuse:∀ {hh:Hp} {L:Lp} {aa:Nat},(∃ v w u,Box hh h.size 69 [v,w,u])→Ext h hh→parseT s.size lb (ts.drop k)=(lnNil,aa,20) →
    (T.stores ⟨h.size,0,none⟩ [.string ⟨#[]⟩,.string ⟨#[]⟩,.slice none 0 0] <|
     T.loads ⟨h.size,0,none⟩ [.string,.string,.slice 98] <| fun (s16:ByteArray) (s17:ByteArray) (p18:Option Addr) (l19:Nat) (l20:Nat) =>
     T.ret (.tuple #[.agg #[.string s16,.string s17,.slice p18 l19 l20],.int .i64 (aa:Int),.int .i64 (20:Int)])) L
     (fun v h'=>Ext h h'∧∃ p c al,v=.tuple #[.agg #[.string (parseT s.size lb (ts.drop k)).1.label,.string (parseT s.size lb (ts.drop k)).1.op,.slice p al.length c],.int .i64 (parseT s.size lb (ts.drop k)).2.1,.int .i64 (parseT s.size lb (ts.drop k)).2.2]∧Args h' h.size 98 101 p c al∧al.map In.ts=(parseT s.size lb (ts.drop k)).1.args) hh:=by
   rintro hh L aa ⟨v,w,u,bb⟩ e hpt
   refine stores_of bb rfl (by simp) ?_
   intro h' b' k' z'
   have b':Box h' h.size 69 [.string ⟨#[]⟩,.string ⟨#[]⟩,.slice none 0 0]:=b'
   refine loads_box b' ((⟨#[]⟩:ByteArray),(⟨#[]⟩:ByteArray),(none,0,0),()) rfl ?_
   rw [hpt]
   exact ⟨hE e k',none,0,[],rfl,Args.nil _ _ _ _,rfl⟩
  refine cond_mk (fun g2=>?_) (fun g2=>?_)
  ·have g2:(k:Int)=(l3:Int):=eq_of_beq g2
   have:ts.drop k=[]:=List.drop_eq_nil_of_le (by omega)
   exact out (al:=[]) rfl ⟨_,_,_,a4⟩ b4 e04 (Args.nil _ _ _ _) (by rw [this]; rfl)
  have g2:(k:Int)≠(l3:Int):=ne_of_beq_false g2
  have hklt:k<ts.length:=by omega
  have hdr:ts.drop k=ts[k]::ts.drop (k+1):=List.drop_eq_getElem_cons hklt
  obtain ⟨a,rfl,c0⟩:=v4.cells k hklt
  have ab:=hblk a.block (by simp [blkOf])
  have hus:(ts.drop (k+1)).length=ts.length-(k+1):=List.length_drop
  have hget:∀ i (hi:i<(ts.drop (k+1)).length),cellsAt h4 (a.add ((k+1+i)*4)) 0 (enc (ts.drop (k+1))[i]):=by
   intro i hi
   obtain ⟨a',ha',hc⟩:=v4.cells (k+1+i) (by omega)
   cases ha'
   rw [List.getElem_drop]
   exact hc
  generalize ts[k]=t at c0 hdr
  generalize ts.drop (k+1)=us at hdr hus hget
  rw [show Int.toNat (k:Int)=k by omega]
  refine need_of ⟨by omega,by omega⟩ (osome_mk rfl (loads_of ((t.kind:Int),()) ⟨c0.1,trivial⟩ ?_))
  dsimp only [unc,unc1,flat,nA,cA]
  refine cond_mk (fun g3=>?_) (fun g3=>?_)
  ·have g3:(t.kind:Int)≠1:=by simpa using g3
   have hpt:parseT s.size lb (ts.drop k)=(lnNil,t.at_,20):=by rw [hdr]; simp only [parseT]; rw [if_pos (by omega)]
   refine need_of ⟨by omega,by omega⟩ (osome_mk rfl (loads_of ((t.at_:Int),()) ⟨c0.2.2.2.1,trivial⟩ ?_))
   dsimp only [unc,unc1,flat,nA,cA]
   refine stores_of a4 rfl (by simp) ?_
   intro h5 b5 k5 z5
   have b5:Box h5 h.size 69 [.string ⟨#[]⟩,.string ⟨#[]⟩,.slice none 0 0]:=b5
   have c5:=cellsAt_keep k5 (by rw [add_block]; simp; omega) _ _ c0
   refine ⟨⟨⟨c5.2.2.2.1,trivial⟩,trivial⟩,?_⟩
   refine loads_box b5 ((⟨#[]⟩:ByteArray),(⟨#[]⟩:ByteArray),(none,0,0),()) rfl ?_
   rw [hpt]
   exact ⟨hE e04 k5,none,0,[],rfl,Args.nil _ _ _ _,rfl⟩
  have g3:(t.kind:Int)=1:=by simpa using g3
  have hpt:parseT s.size lb (ts.drop k)=match argsA s.size us with
    | .error a=>(lnNil,a,20)
    | .ok l=>(⟨lb,t.text,l⟩,0,0):=by rw [hdr]; simp only [parseT]; rw [if_neg (by omega)]; cases argsA s.size us <;> rfl
  refine need_of ⟨by omega,by omega⟩ (osome_mk rfl (loads_of (t.text,()) ⟨c0.2.1,trivial⟩ ?_))
  dsimp only [unc,unc1,flat,nA,cA]
  rw [add_box]
  refine stores_of b4 rfl (by simp) ?_
  intro h5 b5 k5 z5
  have b5:Box h5 h2.size 69 [.string lb,.string t.text,.slice none 0 0]:=b5
  have a5:=a4.keep k5 (by simp; omega)
  have e05:Ext h h5:=Ch.trans e04 k5 (fun i hi hl=>by simp at hi; omega)
  have hz5:=k5.size
  have hget5:∀ i (hi:i<us.length),cellsAt h5 (a.add ((k+1+i)*4)) 0 (enc us[i]):=fun i hi=>cellsAt_keep k5 (by rw [add_block]; simp; omega) _ _ (hget i hi)
  have hw:IntKind.wrap .i64 ((k:Int)+1)=((k+1:Nat):Int):=by rw [wrap_i64 (by omega) (by omega)]; omega
  rw [hw]
  refine cond_mk (fun g4=>?_) (fun g4=>?_)
  ·have g4:((k+1:Nat):Int)=(l3:Int):=eq_of_beq g4
   have:us=[]:=List.eq_nil_of_length_eq_zero (by omega)
   refine out (al:=[]) rfl ⟨_,_,_,a5⟩ b5 e05 (Args.nil _ _ _ _) ?_
   rw [hpt,this]; rfl
  have g4:((k+1:Nat):Int)≠(l3:Int):=ne_of_beq_false g4
  have hune:us≠[]:=fun hh=>by rw [hh] at hus; simp at hus; omega
  have hAA:argsA s.size us=argsS s.size us [] []:=by unfold argsA; rw [if_neg hune]
  refine loop_of (cs:=parCs) (parI s.size (k+1) h2.size us lb t.text h5) ((0:Int),(0:Int),((k+1:Nat):Int),(none,0,0),()) us.length rfl
   ⟨0,[],⟨none,0,0,[]⟩,none,0,rfl,by omega,by omega,Ch.refl _ _,b5,Args.nil _ _ _ _,rfl,SL.nil _ _ _ _,by simp [blkOf],by simp,rfl,by simp,by simp⟩ ?_
  rintro ⟨n13,n14,n15,⟨p16,l17,l18⟩,⟨⟩⟩ m h6 ⟨i,dn,cu,pa,ca,hi,hile,rfl,k6,b6,A6,hcu,sc,d1,d2,hrec,hdn,hcl⟩
  simp only at hi hcu
  injection hcu with q1 q2
  injection q2 with q2 q3
  subst hi q1 q2 q3
  dsimp only [parCs,unc,unc1,flat,nA,cA]
  have a6:=a5.keep k6 (by simp; omega)
  have e06:Ext h h6:=Ch.trans e05 k6 (fun j hj hl=>by simp at hj; omega)
  have hz6:=k6.size
  have hcul:cu.l=cu.ts.length:=by rw [sc.1,List.length_map]
  refine cond_mk (fun g5=>?_) (fun g5=>?_)
  ·have g5:=of_decide_eq_true g5
   have hilt:i<us.length:=by omega
   have c6:=cellsAt_keep k6 (by rw [add_block]; simp; omega) _ _ (hget5 i hilt)
   have hdi:us.drop i=us[i]::us.drop (i+1):=List.drop_eq_getElem_cons hilt
   rw [hdi] at hrec
   generalize us[i]=x at c6 hrec
   rw [show Int.toNat ((k+1+i:Nat):Int)=k+1+i by omega]
   refine need_of ⟨by omega,by omega⟩ (osome_mk rfl (loads_of ((x.kind:Int),x.text,(x.num:Int),(x.at_:Int),()) c6 ?_))
   dsimp only [unc,unc1,flat,nA,cA]
   refine newB ?_
   intro h7 b7 e7 z7
   refine stores_of b7 rfl (by simp) ?_
   intro h8 b8 k8 z8
   have b8:Box h8 h6.size 101 (enc x):=b8
   have e68:Ext h6 h8:=Ch.trans e7 k8 (fun j hj hl=>by simp at hj; omega)
   have hld:∀ {hh:Hp} {L:Lp} {K:Value→Hp→Prop} {kk:Int→ByteArray→Int→Int→T},Ext h8 hh→kk x.kind x.text x.num x.at_ L K hh→T.loads (⟨h6.size,0,none⟩:Addr) [.int .i64,.string,.int .u32,.int .i64] kk L K hh:=by
    intro hh L K kk e hk
    exact loads_box (b8.keep e (by simp)) ((x.kind:Int),x.text,(x.num:Int),(x.at_:Int),()) rfl hk
   refine join_of (cs:=[(false,[.bool])]) (fun y h'=>y.1=(isS x 58 || (isS x 44 && decide (cu.ts=[])))∧Ext h8 h') ?_ ?_
   ·refine hld (Ch.refl _ _) ?_
    refine call_boolx (sign_hc x 58 h8) ?_
    intro h9 e9
    refine cond_mk (fun g6=>?_) (fun g6=>?_)
    ·exact meet_mk (cs:=[(false,[.bool])]) (true,()) rfl rfl ⟨by rw [g6]; rfl,e9⟩
    ·refine hld e9 ?_
     refine call_boolx (sign_hc x 44 h9) ?_
     intro h10 e10
     refine cond_mk (fun g7=>?_) (fun g7=>?_)
     ·refine meet_mk (cs:=[(false,[.bool])]) (((cu.l:Int)==0),()) rfl rfl ⟨?_,e9.trans e10⟩
      show ((cu.l:Int)==0)=_
      rw [g6,g7,Bool.false_or,Bool.true_and,hcul]
      by_cases hh:cu.ts=[]
      ·rw [hh]; rfl
      ·have:cu.ts.length≠0:=fun h0=>hh (List.eq_nil_of_length_eq_zero h0)
       rw [decide_eq_false hh]
       simp only [beq_eq_false_iff_ne,ne_eq]
       omega
     ·exact meet_mk (cs:=[(false,[.bool])]) (false,()) rfl rfl ⟨by rw [g6,g7]; rfl,e9.trans e10⟩
   ·rintro ⟨b25,⟨⟩⟩ h9 ⟨hb25,e9⟩
    simp only at hb25
    subst hb25
    dsimp only [flat,unc,unc1,nA,cA]
    have e69:=e68.trans e9
    have a9:=a6.keep e69 (by simp)
    have b9:=b6.keep e69 (by simp)
    have A9:=A6.keep e69 (by simp) (by simp)
    have s9:=sc.keep e69 (by simp)
    have hz9:=e69.size
    refine cond_mk (fun g6=>?_) (fun g6=>?_)
    ·rw [add_box]
     refine loads_box (b8.keep e9 (by simp)) ((x.at_:Int),()) rfl ?_
     dsimp only [unc,unc1,flat,nA,cA]
     have hA:parseT s.size lb (ts.drop k)=(lnNil,x.at_,20):=by
      rw [hpt,hAA,hrec]
      simp only [argsS]
      rw [if_pos g6]
     have hb8:=b8.keep e9 (by simp)
     refine stores_of a9 rfl (by simp) ?_
     intro h10 b10 k10 z10
     have b10:Box h10 h.size 69 [.string ⟨#[]⟩,.string ⟨#[]⟩,.slice none 0 0]:=b10
     refine ⟨⟨(hb8.keep k10 (by simp; omega)).cells _ rfl,trivial⟩,?_⟩
     refine loads_box b10 ((⟨#[]⟩:ByteArray),(⟨#[]⟩:ByteArray),(none,0,0),()) rfl ?_
     rw [hA]
     exact ⟨hE (e06.trans e69) k10,none,0,[],rfl,Args.nil _ _ _ _,rfl⟩
    ·rw [show argsS s.size (x::us.drop (i+1)) (dn.map In.ts) cu.ts=if isS x 44=true then argsS s.size (us.drop (i+1)) (dn.map In.ts++[cu.ts]) [] else argsS s.size (us.drop (i+1)) (dn.map In.ts) (cu.ts++[x]) by
      conv=>lhs; unfold argsS
      rw [if_neg (by rw [g6]; simp)]] at hrec
     refine hld e9 ?_
     refine call_boolx (sign_hc x 44 h9) ?_
     intro h10 e10
     have hw2:IntKind.wrap .i64 (((k+1+i:Nat):Int)+1)=((k+1+(i+1):Nat):Int):=by rw [wrap_i64 (by omega) (by omega)]; omega
     have e610:=e69.trans e10
     have b10:=b9.keep e10 (by simp)
     have A10:=A9.keep e10 (by simp) (by simp)
     have s10:=s9.keep e10 (by simp)
     have k510:Ch [h2.size] h5 h10:=Ch.trans k6 e610 (by simp)
     have hz10:=k510.size
     refine cond_mk (fun g7=>?_) (fun g7=>?_)
     ·rw [if_pos g7] at hrec
      rw [add_box]
      refine loads_box b10 ((pa,dn.length,ca),()) rfl ?_
      dsimp only [unc,unc1,flat,nA,cA]
      refine push_of (e:=98) (vs:=[.slice cu.p cu.l cu.c]) und51 slZ2 rfl (by omega) (by omega) (by kernel_rfl) rfl rfl A10.out hz10 (by omega) (by omega) ?_
      intro p' c' h11 o11 k11 hp11
      have b11:=b10.keep k11 (fun hh=>by have:=(A10.out.blk hh).1; have:=b5.lt; omega)
      refine stores_of b11 rfl (by simp) ?_
      intro h12 b12 k12 z12
      have A11:=A10.snoc (a:=cu) hz10 o11 k11 hp11 s10 d1 d2
      have h2lt:=b5.lt
      refine again_mk (cs:=parCs) (n13,n14,((k+1+(i+1):Nat):Int),(none,0,0),()) (us.length-(i+1)) rfl (by omega) (by rw [hw2]; rfl) ?_
      refine ⟨i+1,dn++[cu],⟨none,0,0,[]⟩,p',c',rfl,by omega,rfl,?_,by rw [List.length_append]; exact b12,A11.keep k12 (fun j hj=>by have:=(A11.out.blk hj).1; simp; omega) (fun y hy j hj=>by have:=((A11.inn y hy).blk hj).1; simp; omega),rfl,SL.nil _ _ _ _,by simp [blkOf],by simp [blkOf],?_,by simp; omega,by simp⟩
      ·exact Ch.trans (Ch.trans k510 k11 (fun j hj hl=>by have:=(A10.out.blk hj).1; omega)) k12 (fun j hj _=>hj)
      ·rw [hrec,List.map_append]; rfl
     ·rw [if_neg (by rw [g7]; simp)] at hrec
      refine hld (e9.trans e10) ?_
      refine push_of (e:=101) (vs:=enc x) und27 tokZ2 rfl (by omega) (by omega) (by kernel_rfl) rfl rfl s10 hz10 (by omega) (by omega) ?_
      intro p7 c7 h11 o11 k11 hp11
      have h2lt:=b5.lt
      have hp':∀ j,j∈blkOf p7→j∈blkOf cu.p∨h10.size≤j:=by
       intro j hj
       rcases hp11 with rfl | ⟨y,rfl,hy⟩
       ·exact .inl hj
       ·simp [blkOf] at hj; right; omega
      refine again_mk (cs:=parCs) (n13,n14,((k+1+(i+1):Nat):Int),(p7,cu.l+1,c7),()) (us.length-(i+1)) rfl (by omega) (by rw [hw2]; rfl) ?_
      refine ⟨i+1,dn,⟨p7,cu.l+1,c7,cu.ts++[x]⟩,pa,ca,rfl,by omega,rfl,?_,b10.keep k11 (fun hh=>by have:=(s10.blk hh).1; omega),A10.keep k11 (fun j hj hh=>d1 j hh hj) (fun y hy j hj hh=>d2 y hy j hj hh),rfl,by rw [List.map_append]; exact o11,?_,?_,hrec,by omega,by simp; omega⟩
      ·exact Ch.trans k510 k11 (fun j hj hl=>by have:=(s10.blk hj).1; omega)
      ·intro j hj hh
       rcases hp' j hj with h1 | h1
       ·exact d1 j h1 hh
       ·have:=(A10.out.blk hh).2; omega
      ·intro y hy j hj hh
       rcases hp' j hh with h1 | h1
       ·exact d2 y hy j hj h1
       ·have:=((A10.inn y hy).blk hj).2; omega
  ·have g5:=of_decide_eq_false g5
   have hi:i=us.length:=by omega
   subst hi
   rw [List.drop_length] at hrec
   have hA:argsA s.size us=if cu.ts=[] then .error s.size else .ok (dn.map In.ts++[cu.ts]):=by
    rw [hAA,hrec]
    rfl
   refine cond_mk (fun g6=>?_) (fun g6=>?_)
   ·have g6:(cu.l:Int)=0:=eq_of_beq g6
    refine refuse (aa:=s.size) ⟨_,_,_,a6⟩ e06 ?_
    rw [hpt,hA,if_pos (List.eq_nil_of_length_eq_zero (by omega))]
   ·have g6:(cu.l:Int)≠0:=ne_of_beq_false g6
    rw [if_neg (fun hh=>by rw [hh] at hcul; simp at hcul; omega)] at hA
    rw [hA] at hpt
    rw [add_box]
    refine loads_box b6 ((pa,dn.length,ca),()) rfl ?_
    dsimp only [unc,unc1,flat,nA,cA]
    refine push_of (e:=98) (vs:=[.slice cu.p cu.l cu.c]) und51 slZ2 rfl (by omega) (by omega) (by kernel_rfl) rfl rfl A6.out hz6 (by omega) (by omega) ?_
    intro p' c' h11 o11 k11 hp11
    have h2lt:=b5.lt
    have b11:=b6.keep k11 (fun hh=>by have:=(A6.out.blk hh).1; omega)
    refine stores_of b11 rfl (by simp) ?_
    intro h12 b12 k12 z12
    have A11:=A6.snoc (a:=cu) hz6 o11 k11 hp11 sc d1 d2
    have A12:=A11.keep k12 (fun j hj=>by have:=(A11.out.blk hj).1; simp; omega) (fun y hy j hj=>by have:=((A11.inn y hy).blk hj).1; simp; omega)
    have a12:=(a6.keep k11 (fun hh=>by have:=(A6.out.blk hh).1; omega)).keep k12 (by simp; omega)
    have e12':Ext h h12:=Ch.trans (Ch.trans e06 k11 (fun j hj hl=>by have:=(A6.out.blk hj).1; omega)) k12 (fun j hj hl=>by simp at hj; omega)
    refine out (op:=t.text) (al:=dn++[cu]) (nn:=dn.length+1) (by simp) ⟨_,_,_,a12⟩ b12 e12' (A12.mono (by omega)) ?_
    rw [hpt,List.map_append]
    rfl
end Go.Sx
set_option linter.unusedVariables false
set_option linter.unusedSimpArgs false
set_option maxRecDepth 100000
namespace Go.Sx.Ob
open Go.Proofs
theorem reg2_hc {h:Hp} {p:Option Addr} {l c:Nat} {ts:List Tok} (v:Vw h p l c ts) (z:Bool):HCp Tryz.prog 75 [.slice p l c,.bool z] h (resI (regA z ts)):=by
 refine hcp_of mixed Tryz.func75 (by kernel_rfl) (t_spandrelref8_reg_eq p l c z) ?_
 unfold t_spandrelref8_reg
 have hl:=v.len
 refine cond_mk (fun g=>?_) (fun g=>?_)
 ·have g:(l:Int)≠1:=by simpa using g
  refine ⟨?_,rfl⟩
  have:regA z ts=.error 20:=not1 (by omega)
  rw [this]
  rfl
 have g:(l:Int)=1:=by simpa using g
 obtain ⟨t,rfl⟩:=one_of (show ts.length=1 by omega)
 obtain ⟨a,rfl,c0⟩:=v.cells 0 (by simp)
 have c0:cellsAt h (a.add (0*4)) 0 (enc t):=c0
 obtain ⟨q1,q2,_⟩:=tok_cells c0
 refine need_of ⟨by omega,by omega⟩ (osome_mk rfl (loads_of ((t.kind:Int),()) q1 ?_))
 dsimp only [flat,unc,unc1,nA,cA]
 refine cond_mk (fun r=>?_) (fun r=>?_)
 ·have r:¬ t.kind=1:=by
   have:¬ (t.kind:Int)=1:=by simpa using r
   omega
  refine ⟨?_,rfl⟩
  have:regA z [t]=.error 20:=if_neg (fun hh=>r hh.1)
  rw [this]
  rfl
 have r:t.kind=1:=by
  have:(t.kind:Int)=1:=by simpa using r
  omega
 refine need_of ⟨by omega,by omega⟩ (osome_mk rfl (loads_of (t.text,()) q2 ?_))
 dsimp only [flat,unc,unc1,nA,cA]
 refine call_ibb (register2_hc t.text h) ?_
 refine cond_mk (fun s=>?_) (fun s=>?_)
 ·have s:(regL t.text.data.toList).2.2=false:=by simpa using s
  refine ⟨?_,rfl⟩
  have:regA z [t]=.error 20:=if_neg (fun hh=>by rw [s] at hh; simp at hh)
  rw [this]
  rfl
 have s:(regL t.text.data.toList).2.2=true:=by simpa using s
 refine cond_mk (fun u=>?_) (fun u=>?_)
 ·have u:¬ (regL t.text.data.toList).2.1=z:=by simpa using u
  refine ⟨?_,rfl⟩
  have:regA z [t]=.error 20:=if_neg (fun hh=>u hh.2.2)
  rw [this]
  rfl
 have u:(regL t.text.data.toList).2.1=z:=by simpa using u
 refine ⟨?_,rfl⟩
 have:regA z [t]=.ok (regL t.text.data.toList).1:=if_pos ⟨r,s,u⟩
 rw [this]
 rfl
theorem named2_hc {h:Hp} {p:Option Addr} {l c:Nat} {ts:List Tok} (v:Vw h p l c ts) (hs:∀ t,t∈ts→t.text.size≤9223372036854775807):HCp Tryz.prog 79 [.slice p l c] h (resS (namA ts)):=by
 refine hcp_of mixed Tryz.func79 (by kernel_rfl) (t_spandrelref8_named_eq p l c) ?_
 unfold t_spandrelref8_named
 have hl:=v.len
 refine cond_mk (fun g=>?_) (fun g=>?_)
 ·have g:(l:Int)≠1:=by simpa using g
  refine ⟨?_,rfl⟩
  have:namA ts=.error 20:=not1 (by omega)
  rw [this]
  rfl
 have g:(l:Int)=1:=by simpa using g
 obtain ⟨t,rfl⟩:=one_of (show ts.length=1 by omega)
 obtain ⟨a,rfl,c0⟩:=v.cells 0 (by simp)
 have c0:cellsAt h (a.add (0*4)) 0 (enc t):=c0
 obtain ⟨q1,q2,_⟩:=tok_cells c0
 refine need_of ⟨by omega,by omega⟩ (osome_mk rfl (loads_of ((t.kind:Int),()) q1 ?_))
 dsimp only [flat,unc,unc1,nA,cA]
 refine cond_mk (fun r=>?_) (fun r=>?_)
 ·have r:¬ t.kind=1:=by
   have:¬ (t.kind:Int)=1:=by simpa using r
   omega
  refine ⟨?_,rfl⟩
  have:namA [t]=.error 20:=if_neg (fun hh=>r hh.1)
  rw [this]
  rfl
 have r:t.kind=1:=by
  have:(t.kind:Int)=1:=by simpa using r
  omega
 refine need_of ⟨by omega,by omega⟩ (osome_mk rfl (loads_of (t.text,()) q2 ?_))
 dsimp only [flat,unc,unc1,nA,cA]
 refine call_bool (legal2_hc t.text h (hs t (by simp))) ?_
 refine cond_mk (fun s=>?_) (fun s=>?_)
 ·have s:legalL t.text.data.toList=false:=by simpa using s
  refine ⟨?_,rfl⟩
  have:namA [t]=.error 20:=if_neg (fun hh=>by rw [s] at hh; simp at hh)
  rw [this]
  rfl
 have s:legalL t.text.data.toList=true:=by simpa using s
 refine need_of ⟨by omega,by omega⟩ (osome_mk rfl (loads_of (t.text,()) q2 ?_))
 dsimp only [flat,unc,unc1,nA,cA]
 refine ⟨?_,rfl⟩
 have:namA [t]=.ok t.text:=if_pos ⟨r,s⟩
 rw [this]
 rfl
theorem con2_hc {h:Hp} {p:Option Addr} {l c:Nat} {ts:List Tok} (v:Vw h p l c ts) (hp:∀ i,i∈blkOf p→i<h.size) (w:Wf ts) (hts:ts.length≤2^40) (hz:∀ t,t∈ts→t.text.size≤9223372036854775807) (lo hi:Int) :
  HC Tryz.prog 76 #[.slice p l c,.int .i64 lo,.int .i64 hi] h fun r h'=>r=resI (numA lo hi ts)∧Ext h h':=by
 refine hcr_of (args:=[.slice p l c,.int .i64 lo,.int .i64 hi]) mixed Tryz.func76 (by kernel_rfl) (t_spandrelref8_constant_eq p l c lo hi) ?_
 unfold t_spandrelref8_constant
 refine call_of (parse47_hc v hp w hts hz) ?_
 rintro r h1 ⟨e1,hr⟩
 unfold numA
 cases hx:parseX ts with
 | error e =>
  rw [hx] at hr
  have hr:r=.tuple #[.agg #[.slice none 0 0,.int .u32 0],.int .i64 (e:Int)]:=hr
  subst hr
  have he:=parseX_err w hx
  refine ⟨((none,0,0),(0:Int),(e:Int),()),rfl,?_⟩
  dsimp only [flat,unc,unc1,nA,cA]
  refine newB ?_
  intro h2 b2 e2 z2
  refine stores_of b2 rfl (by simp) ?_
  intro h3 b3 k3 z3
  refine cond_t (by simp; omega) ?_
  exact ⟨rfl,e1.trans (Ch.trans e2 k3 (fun i hi hl=>by simp at hi; omega))⟩
 | ok x =>
  rw [hx] at hr
  obtain ⟨p1,l1,c1,rfl,sl,gd⟩:=hr
  refine ⟨((p1,l1,c1),(x.num:Int),(0:Int),()),rfl,?_⟩
  dsimp only [flat,unc,unc1,nA,cA]
  refine newB ?_
  intro h2 b2 e2 z2
  refine stores_of b2 rfl (by simp) ?_
  intro h3 b3 k3 z3
  have b3:Box h3 h1.size 26 [.slice p1 l1 c1,.int .u32 (x.num:Int)]:=b3
  have e3:Ext h h3:=e1.trans (Ch.trans e2 k3 (fun i hi hl=>by simp at hi; omega))
  refine cond_f rfl ?_
  rw [add_box]
  refine loads_box b3 ((x.num:Int),()) rfl ?_
  dsimp only [flat,unc,unc1,nA,cA]
  refine loads_box b3 ((p1,l1,c1),()) rfl ?_
  dsimp only [flat,unc,unc1,nA,cA]
  rw [wrap32 gd.num]
  have hl1:l1=x.terms.length:=by rw [sl.1,List.length_map]
  refine cond_mk (fun g=>?_) (fun g=>?_)
  ·have g:=of_decide_eq_true g
   refine ⟨?_,e3⟩
   rw [if_pos (.inl (fun hh=>by rw [hh] at hl1; simp at hl1; omega))]
   rfl
  have g:=of_decide_eq_false g
  have hz:x.terms=[]:=List.eq_nil_of_length_eq_zero (by omega)
  refine cond_mk (fun g=>?_) (fun g=>?_)
  ·have g:=of_decide_eq_true g
   refine ⟨?_,e3⟩
   rw [if_pos (.inr (.inl g))]
   rfl
  have g:=of_decide_eq_false g
  refine cond_mk (fun g=>?_) (fun g=>?_)
  ·have g:=of_decide_eq_true g
   refine ⟨?_,e3⟩
   rw [if_pos (.inr (.inr g))]
   rfl
  have g':=of_decide_eq_false g
  refine ⟨?_,e3⟩
  rw [if_neg (by rintro (q | q | q) <;> first | exact q hz | omega)]
  rfl
theorem args2_hc (s:Nat) (h1:1≤s) (h2:s≤13) (h:Hp):HCp Tryz.prog 74 [.int .i64 (s:Int)] h (.int .i64 ((rdrs s).length:Nat)):=by
 refine hcp_of mixed Tryz.func74 (by kernel_rfl) (t_spandrelref8_args_eq s) ?_
 unfold t_spandrelref8_args
 have:s=1∨s=2∨s=3∨s=4∨s=5∨s=6∨s=7∨s=8∨s=9∨s=10∨s=11∨s=12∨s=13:=by omega
 rcases this with rfl | rfl | rfl | rfl | rfl | rfl | rfl | rfl | rfl | rfl | rfl | rfl | rfl
 all_goals
  repeat (first | refine cond_t rfl ?_ | refine cond_f rfl ?_)
  exact ⟨rfl,rfl⟩
theorem rowsV_nm {nm:Nat→ByteArray} {by_:Nat→Int} {k:Nat} (hk:k<43):(rowsV nm by_)[k*3+0]?=some (.string (nm k)):=by
 unfold rowsV
 rw [flat_get _ 3 (by simp) _ _ _ (by omega)]
 simp [hk]
theorem find2_hc (s:ByteArray) (h:Hp):HC Tryz.prog 50 #[.string s] h fun u h'=>u=.int .i64 (findA s:Nat)∧Ext h h':=by
 refine hcr_of (args:=[.string s]) mixed Tryz.func50 (by kernel_rfl) (t_spandrelref5_Find_eq s) ?_
 unfold t_spandrelref5_Find
 refine call_of (ops_hc h) ?_
 rintro _ h1 ⟨rfl,b1,e1⟩
 refine ⟨((some ⟨h.size,0,none⟩,43,43),()),rfl,?_⟩
 dsimp only [flat,unc,unc1,nA,cA]
 refine loop_of (cs:=[(false,[.int .i64]),(false,[.int .i64])]) (fun x n h'=>∃ k:Nat,x.2.1=(k:Int)∧k≤43∧n=43-k∧h1=h'∧findL opNm s.data.toList k=0) ((0:Int),(0:Int),()) 43 rfl ⟨0,rfl,by omega,by omega,rfl,rfl⟩ ?_
 rintro ⟨n4,n5,⟨⟩⟩ n h2 ⟨k,hk,hk43,rfl,rfl,h0⟩
 simp only at hk
 subst hk
 dsimp only [flat,unc,unc1,nA,cA]
 refine cond_mk (fun q=>?_) (fun q=>?_)
 ·have q:(k:Int)<((43:Nat):Int):=of_decide_eq_true q
  have hlt:k<43:=by omega
  refine need_of ⟨by omega,by omega⟩ (osome_mk rfl ?_)
  rw [show Int.toNat (k:Int)=k by omega,add_box]
  refine loads_box b1 (opsN k,()) ?_ ?_
  ·show List.take 1 (List.drop (0+k*3) (rowsV opsN opsB))=[.string (opsN k)]
   have:=rowsV_nm (nm:=opsN) (by_:=opsB) hlt
   rw [Nat.zero_add,Nat.add_zero] at *
   rw [List.take_one,List.head?_drop,this]
   rfl
  dsimp only [flat,unc,unc1,nA,cA]
  have hn:=findL_next opNm s.data.toList k h0
  have hw:IntKind.wrap .i64 ((k:Int)+1)=((k+1:Nat):Int):=by rw [wrap_i64 (by omega) (by omega)]; omega
  rw [ByteArray.toList_eq,ByteArray.toList_eq,hw]
  refine cond_mk (fun r=>?_) (fun r=>?_)
  ·have r:opNm k=s.data.toList:=eq_of_beq r
   rw [if_pos r] at hn
   have hf:findA s=k+1:=by
    unfold findA
    rw [findL_up _ _ 43 (k+1) (by omega) (by omega),hn]
   refine ⟨?_,e1⟩
   rw [hf]
  ·have r:¬ opNm k=s.data.toList:=ne_of_beq_false r
   rw [if_neg r] at hn
   exact again_mk (cs:=[(false,[.int .i64]),(false,[.int .i64])]) (n4,((k+1:Nat):Int),()) (43-(k+1)) rfl (by omega) rfl ⟨k+1,rfl,by omega,rfl,rfl,hn⟩
 ·have q:¬ (k:Int)<((43:Nat):Int):=of_decide_eq_false q
  have:k=43:=by omega
  subst this
  refine ⟨?_,e1⟩
  unfold findA
  rw [h0]
  rfl
end Go.Sx.Ob
