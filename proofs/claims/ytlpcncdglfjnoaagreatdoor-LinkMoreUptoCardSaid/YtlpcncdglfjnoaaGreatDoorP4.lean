/- Contracts over heaps, and plain laws, for the functions that the laws of chapter 9 call, part 4: The document's Add over heaps. spandrelref11.Put over heaps. spandrelref11.met o Condition: as each statement says. -/
import Derived.Test.YtlpcncdglfjnoaaGreatDoorP3
set_option linter.all false
set_option maxRecDepth 100000
set_option maxHeartbeats 4000000
namespace Go.Sx
open Go.Proofs
theorem V' (a b:ZA):Op.bytesLess (ByteArray.toList a) (ByteArray.toList b)=decide (gF a b):=by
 rw [ByteArray.toList_eq,ByteArray.toList_eq,Proofs.bytesLess_eq] <;> rfl
def Sw (h:Hp) (g7:Nat) (x y:cU) (N:Int) (i j:Nat) (h':Hp):Prop :=
 i<=x.length/\j<=y.length/\Ch [g7] h h'/\∃ O p l c f,bz h' g7 60 [.slice p l c,.int .u32 N]/\SL h' h.size 66 2 p l c (O.map cR)/\JE x y=O++eX f (x.drop i) (y.drop j)/\(x.length-i)+(y.length-j)<=f/\O.length<=i+j
theorem Mn (f:Nat):eX f [] []=[]:=by cases f <;> rfl
theorem SI {f:Nat} {p:ZA × Nat} {x y:cU} (h:y=[]\/∃ q r,y=q::r/\gF p.1 q.1):eX (f+1) (p::x) y=p::eX f x y:=by
 rcases h with rfl | ⟨q,r,rfl,h⟩
 ·rfl
 ·show (if gF p.1 q.1 then _ else _)=_;rw [W2 h]
theorem Td {f:Nat} {q:ZA × Nat} {x y:cU} (h:x=[]\/∃ p r,x=p::r/\gF q.1 p.1):eX (f+1) x (q::y)=q::eX f x y:=by
 rcases h with rfl | ⟨p,r,rfl,h⟩
 ·rfl
 ·show (if gF p.1 q.1 then _ else if gF q.1 p.1 then _ else _)=_;rw [WV (Bb h),W2 h]
theorem PT {f:Nat} {p q:ZA × Nat} {x y:cU} (h1:¬ gF p.1 q.1) (h2:¬ gF q.1 p.1):eX (f+1) (p::x) (q::y)=if (p.2+q.2) % 4294967296=0 then eX f x y else (p.1,(p.2+q.2) % 4294967296)::eX f x y:=by
 show (if gF p.1 q.1 then _ else if gF q.1 p.1 then _ else _)=_;rw [WV h1,WV h2]
def Vo:cU->cU->Bool
 | [],_=>false
 | _::_,[]=>true
 | p::_,q::_=>decide (gF p.1 q.1)
theorem DH {x y:cU} (h:Vo x y=true):∃ p r,x=p::r/\(y=[]\/∃ q s,y=q::s/\gF p.1 q.1):=by
 cases x with
 | nil=>cases h
 | cons p r =>
  cases y with
  | nil=>exact ⟨p,r,rfl,.inl rfl⟩
  | cons q s=>exact ⟨p,r,rfl,.inr ⟨q,s,rfl,WR h⟩⟩
theorem Bf {x y:cU} (h:Vo x y=false):x=[]\/∃ p r q s,x=p::r/\y=q::s/\¬ gF p.1 q.1:=by
 cases x with
 | nil=>exact .inl rfl
 | cons p r =>
  cases y with
  | nil=>cases h
  | cons q s=>exact .inr ⟨p,r,q,s,rfl,rfl,WS h⟩
theorem yn {α:Type} {l r:List α} {p:α} {i:Nat} (h:l.drop i=p::r):i<l.length:=by
 rcases XE i l.length with h1 | h1
 ·exact h1
 ·rw [Xz h1] at h; cases h
theorem EH {h:Hp} {p q:Option ZC} {l c m d:Nat} {x y:bX} (v:gn h p l x.ai) (u:gn h q m y.ai) (hp:∀ i,i∈aJ p->i<h.size) (hq:∀ i,i∈aJ q->i<h.size)
  (hl:x.ai.length+y.ai.length<=2^40) :
  HC Tryz.prog 92 #[gH p l c x,gH q m d y] h fun w h'=>Ext h h'/\∃ p' l' c',w=gH p' l' c' (xe x y)/\SL h' h.size 66 2 p' l' c' ((xe x y).ai.map cR):=by
 refine aX (args:=[.agg #[.slice p l c,.int .u32 x.num],.agg #[.slice q m d,.int .u32 y.num]]) mixed Tryz.func92 ax (qg p l c x.num q m d y.num) ?_;unfold kO aZ bg bq aK bh bd aM cd;have hll:=v.len;have hmm:=u.len;refine bm ?_;intro h1 b1 e1 z1;refine bm ?_;intro h2 b2 e2 z2;refine bm ?_;intro h3 b3 e3 z3;have b1:=(b1.ao e2 aj).ao e3 aj;have b2:=b2.ao e3 aj;rw [aE,aE];refine af b1 ((x.num:Int),()) rfl ?_;refine an ?_;refine af b2 ((y.num:Int),()) rfl ?_;refine an ?_;refine bm ?_;intro h4 b4 e4 z4;refine aw b4 rfl aj ?_;intro h5 b5 k5 z5;rw [Hu] at b5;have b5:bz h5 h3.size 60 [.slice none 0 0,.int .u32 (((x.num+y.num) % 4294967296:Nat):Int)]:=b5;have e35:Ext h3 h5:=Ch.trans e4 k5 (fun j hj hl=>by simp at hj; omega);have b1:=b1.ao e35 aj;have b2:=b2.ao e35 aj;have b3:=b3.ao e35 aj;have e05:=((e1.trans e2).trans e3).trans e35;have hz5:=e05.size;refine aR (cs:=[(false,[.int .i64]),(false,[.int .i64])]) (fun z w h'=>∃ i j:Nat,z.1=(i:Int)/\z.2.1=(j:Int)/\w=(x.ai.length-i)+(y.ai.length-j)/\Sw h5 h3.size x.ai y.ai (((x.num+y.num) % 4294967296:Nat):Int) i j h')
  ((0:Int),(0:Int),()) (x.ai.length+y.ai.length) rfl ⟨0,0,rfl,rfl,rfl,YK _,YK _,Ch.refl _ _,[],none,0,0,x.ai.length+y.ai.length,b5,SL.nil _ _ _ _,rfl,ad,aj⟩ ?_
 rintro ⟨n1,n2,⟨⟩⟩ w h6 ⟨i,j,hi,hj,rfl,hil,hjl,k6,O,po,lo,co,f,b6,s6,hO,hf,hOl⟩;simp only at hi hj;subst hi hj;refine an ?_;have hb5:=b5.lt;have hz6:=k6.size;have b1:=b1.ao k6 (by simp; omega);have b2:=b2.ao k6 (by simp; omega);have b3:=b3.ao k6 (by simp; omega);have e06:Ext h h6:=Ch.trans e05 k6 (fun j hj hl=>by simp at hj; omega);have v6:=v.ao e06 aj;have u6:=u.ao e06 aj;have hlo:lo=O.length:=by rw [s6.1,WQ]
 have hwi:IntKind.wrap .i64 ((i:Int)+1)=((i+1:Nat):Int):=by rw [wrap_i64 ad ad]; omega
 have hwj:IntKind.wrap .i64 ((j:Int)+1)=((j+1:Nat):Int):=by rw [wrap_i64 ad ad]; omega
 have hsb:∀ i,i∈aJ po->h5.size<=i:=fun i hi=>(s6.bY hi).1
 have hpm:∀ (k:Nat) (a:ZC) (w:cU) (vs:List ZB),(some a=p\/some a=q)->aG h6 (a.add (k*2)) 0 vs->∀ h',Ch (aJ po) h6 h'->aG h' (a.add (k*2)) 0 vs:=fun k a w vs ha hc h' kk=>aT kk (by
  rw [gV];intro hm;have h1:=hsb _ hm;rcases ha with ha | ha
  ·have:=hp a.block (by rw [<- ha]; simp [aJ]); omega
  ·have:=hq a.block (by rw [<- ha]; simp [aJ]); omega) _ _ hc
 have push:∀ (t:ZA × Nat) (i' j':Nat) (h7:Hp) (p7:Option ZC) (c7:Nat),i'<=x.ai.length->j'<=y.ai.length->i+j+1<=i'+j'->eX f (x.ai.drop i) (y.ai.drop j)=t::eX (f-1) (x.ai.drop i') (y.ai.drop j')->(x.ai.length-i')+(y.ai.length-j')<=f-1 ->
   SL h7 h5.size 66 2 p7 (lo+1) c7 (O.map cR++[cR t])->Ch (aJ po) h6 h7->∀ h8,bz h8 h3.size 60 [.slice p7 (lo+1) c7,.int .u32 (((x.num+y.num) % 4294967296:Nat):Int)]->Ch [h3.size] h7 h8->Sw h5 h3.size x.ai y.ai (((x.num+y.num) % 4294967296:Nat):Int) i' j' h8:=by
  intro t i' j' h7 p7 c7 hi' hj' hij hF hf' s7 k7 h8 b8 k8;refine ⟨hi',hj',Ch.trans (Ch.trans k6 k7 (fun j hj hl=>by have:=hsb j hj; omega)) k8 (fun j hj _=>hj),O++[t],p7,lo+1,c7,f-1,b8,?_,?_,hf',by simp; omega⟩
  ·rw [W5];exact s7.bF k8 (fun j hj=>by have:=(s7.bY hj).1; simp; omega)
  ·rw [hO,hF]; simp
 refine ik (cs:=[(false,[.bool])]) (fun z h'=>z.1=(decide (i<x.ai.length) || decide (j<y.ai.length))/\h6=h') ?_ ?_
 ·refine af b1 ((p,l,c),()) rfl ?_;refine an ?_;refine ak (fun g1=>?_) (fun g1=>?_)
  ·have g1:=WR g1;refine dF (cs:=[(false,[.bool])]) (true,()) rfl rfl ⟨?_,rfl⟩;rw [W1 (show i<x.ai.length from ad)] <;> rfl
  ·have g1:=WS g1;refine af b2 ((q,m,d),()) rfl ?_;refine an ?_;refine dF (cs:=[(false,[.bool])]) (decide ((j:Int)<(m:Int)),()) rfl rfl ⟨?_,rfl⟩;rw [W4 (show ¬ i<x.ai.length from ad),Bool.false_or];show decide ((j:Int)<(m:Int))=decide (j<y.ai.length);rw [YL];omega
 rintro ⟨b10,⟨⟩⟩ h6' ⟨hb10,rfl⟩;simp only at hb10;subst hb10;refine an ?_;refine ak (fun g1=>?_) (fun g1=>?_)
 ·simp only [Bool.or_eq_true,decide_eq_true_eq] at g1;obtain ⟨f',rfl⟩:∃ f',f=f'+1:=⟨f-1,ad⟩
  refine ik (cs:=[(false,[.bool])]) (fun z h'=>z.1=Vo (x.ai.drop i) (y.ai.drop j)/\h6=h') ?_ ?_
  ·refine af b2 ((q,m,d),()) rfl ?_;refine an ?_;refine ak (fun g2=>?_) (fun g2=>?_)
   ·have g2:(j:Int)=(m:Int):=by simpa using g2
    refine dF (cs:=[(false,[.bool])]) (true,()) rfl rfl ⟨?_,rfl⟩;rw [show y.ai.drop j=[] from Xz ad,W8 (l:=x.ai) (i:=i) ad] <;> rfl
   ·have g2:¬ (j:Int)=(m:Int):=by simpa using g2
    have hjlt:j<y.ai.length:=ad
    refine af b1 ((p,l,c),()) rfl ?_;refine an ?_;refine ak (fun g3=>?_) (fun g3=>?_)
    ·have g3:=WR g3;have hilt:i<x.ai.length:=ad
     have hdx:x.ai.drop i=x.ai[i]::x.ai.drop (i+1):=W8 hilt;have hdy:y.ai.drop j=y.ai[j]::y.ai.drop (j+1):=W8 hjlt;obtain ⟨a,ha,hc⟩:=v6.cells i hilt;obtain ⟨a',ha',hc'⟩:=u6.cells j hjlt;subst ha ha';refine af b1 ((some a,l,c),()) rfl ?_;refine an ?_;refine ay ⟨ad,ad⟩ (av rfl ?_);rw [show Int.toNat (i:Int)=i from ad];refine az (x.ai[i].1,()) (cL hc).1 ?_;refine an ?_;refine af b2 ((some a',m,d),()) rfl ?_;refine an ?_;refine ay ⟨ad,ad⟩ (av rfl ?_);rw [show Int.toNat (j:Int)=j from ad];refine az (y.ai[j].1,()) (cL hc').1 ?_;refine an ?_;rw [V'];refine dF (cs:=[(false,[.bool])]) (decide (gF x.ai[i].1 y.ai[j].1),()) rfl rfl ⟨?_,rfl⟩;rw [hdx,hdy] <;> rfl
    ·have g3:=WS g3;refine dF (cs:=[(false,[.bool])]) (false,()) rfl rfl ⟨?_,rfl⟩;rw [show x.ai.drop i=[] from Xz ad] <;> rfl
  rintro ⟨b11,⟨⟩⟩ h6' ⟨hb11,rfl⟩;simp only at hb11;subst hb11;refine an ?_;refine ak (fun g2=>?_) (fun g2=>?_)
  ·obtain ⟨pp,rr,hdd,hor⟩:=DH g2;have hilt:=yn hdd;have hdx:x.ai.drop i=x.ai[i]::x.ai.drop (i+1):=W8 hilt;rw [hdx] at hdd;cases hdd;have hF:eX (f'+1) (x.ai.drop i) (y.ai.drop j)=x.ai[i]::eX (f'+1-1) (x.ai.drop (i+1)) (y.ai.drop j):=by
    rw [hdx];exact SI hor
   obtain ⟨a,ha,hc⟩:=v6.cells i hilt;subst ha;refine af b6 ((po,lo,co),()) rfl ?_;refine an ?_;refine af b1 ((some a,l,c),()) rfl ?_;refine an ?_;refine ay ⟨ad,ad⟩ (av rfl ?_);rw [show Int.toNat (i:Int)=i from ad];refine az (x.ai[i].1,(x.ai[i].2:Int),()) hc ?_;refine an ?_;refine gu (vs:=cR x.ai[i]) zy sC rfl ad ad ax rfl rfl s6 ad ad ad (fun h' e=>⟨(b1.ao e aj).cells _ rfl,(b6.ao e aj).cells _ rfl,trivial⟩) ?_;intro p7 c7 h7 s7 k7 hp7;have b17:=b1.ao k7 (fun hh=>by have:=hsb _ hh; omega);have b67:=b6.ao k7 (fun hh=>by have:=hsb _ hh; omega);refine ⟨⟨hpm i a x.ai _ (.inl rfl) hc h7 k7,b17.cells _ rfl,trivial⟩,?_⟩;refine aw b67 rfl aj ?_;intro h8 b8 k8 z8;refine aF (cs:=[(false,[.int .i64]),(false,[.int .i64])]) (((i+1:Nat):Int),(j:Int),()) ((x.ai.length-(i+1))+(y.ai.length-j)) rfl ad (by rw [hwi]; rfl) ⟨i+1,j,rfl,rfl,rfl,?_⟩;exact push _ (i+1) j h7 p7 c7 ad hjl ad hF ad s7 k7 h8 b8 k8
  ·have g2:=Bf g2;refine ik (cs:=[(false,[.bool])]) (fun z h'=>z.1=Vo (y.ai.drop j) (x.ai.drop i)/\h6=h') ?_ ?_
   ·refine af b1 ((p,l,c),()) rfl ?_;refine an ?_;refine ak (fun g3=>?_) (fun g3=>?_)
    ·have g3:(i:Int)=(l:Int):=by simpa using g3
     refine dF (cs:=[(false,[.bool])]) (true,()) rfl rfl ⟨?_,rfl⟩;rw [show x.ai.drop i=[] from Xz ad,W8 (l:=y.ai) (i:=j) ad] <;> rfl
    ·have g3:¬ (i:Int)=(l:Int):=by simpa using g3
     have hilt:i<x.ai.length:=ad
     have hjlt:j<y.ai.length:=by
      rcases XE j y.ai.length with h | h
      ·exact h
      ·rcases g2 with g2 | ⟨_,_,_,_,_,g2,_⟩
       ·have:=List.drop_eq_nil_iff.1 g2; omega
       ·rw [Xz h] at g2; cases g2
     have hdx:x.ai.drop i=x.ai[i]::x.ai.drop (i+1):=W8 hilt;have hdy:y.ai.drop j=y.ai[j]::y.ai.drop (j+1):=W8 hjlt;obtain ⟨a,ha,hc⟩:=v6.cells i hilt;obtain ⟨a',ha',hc'⟩:=u6.cells j hjlt;subst ha ha';refine af b2 ((some a',m,d),()) rfl ?_;refine an ?_;refine ay ⟨ad,ad⟩ (av rfl ?_);rw [show Int.toNat (j:Int)=j from ad];refine az (y.ai[j].1,()) (cL hc').1 ?_;refine an ?_;refine af b1 ((some a,l,c),()) rfl ?_;refine an ?_;refine ay ⟨ad,ad⟩ (av rfl ?_);rw [show Int.toNat (i:Int)=i from ad];refine az (x.ai[i].1,()) (cL hc).1 ?_;refine an ?_;rw [V'];refine dF (cs:=[(false,[.bool])]) (decide (gF y.ai[j].1 x.ai[i].1),()) rfl rfl ⟨?_,rfl⟩;rw [hdx,hdy] <;> rfl
   rintro ⟨b12,⟨⟩⟩ h6' ⟨hb12,rfl⟩;simp only at hb12;subst hb12;refine an ?_;refine ak (fun g3=>?_) (fun g3=>?_)
   ·obtain ⟨pp,rr,hdd,hor⟩:=DH g3;have hjlt:=yn hdd;have hdy:y.ai.drop j=y.ai[j]::y.ai.drop (j+1):=W8 hjlt;rw [hdy] at hdd;cases hdd;have hF:eX (f'+1) (x.ai.drop i) (y.ai.drop j)=y.ai[j]::eX (f'+1-1) (x.ai.drop i) (y.ai.drop (j+1)):=by
     rw [hdy];exact Td hor
    obtain ⟨a,ha,hc⟩:=u6.cells j hjlt;subst ha;refine af b6 ((po,lo,co),()) rfl ?_;refine an ?_;refine af b2 ((some a,m,d),()) rfl ?_;refine an ?_;refine ay ⟨ad,ad⟩ (av rfl ?_);rw [show Int.toNat (j:Int)=j from ad];refine az (y.ai[j].1,(y.ai[j].2:Int),()) hc ?_;refine an ?_;refine gu (vs:=cR y.ai[j]) zy sC rfl ad ad ax rfl rfl s6 ad ad ad (fun h' e=>⟨(b2.ao e aj).cells _ rfl,(b6.ao e aj).cells _ rfl,trivial⟩) ?_;intro p7 c7 h7 s7 k7 hp7;have b27:=b2.ao k7 (fun hh=>by have:=hsb _ hh; omega);have b67:=b6.ao k7 (fun hh=>by have:=hsb _ hh; omega);refine ⟨⟨hpm j a y.ai _ (.inr rfl) hc h7 k7,b27.cells _ rfl,trivial⟩,?_⟩;refine aw b67 rfl aj ?_;intro h8 b8 k8 z8;refine aF (cs:=[(false,[.int .i64]),(false,[.int .i64])]) ((i:Int),((j+1:Nat):Int),()) ((x.ai.length-i)+(y.ai.length-(j+1))) rfl ad (by rw [hwj]; rfl) ⟨i,j+1,rfl,rfl,rfl,?_⟩;exact push _ i (j+1) h7 p7 c7 hil ad ad hF ad s7 k7 h8 b8 k8
   ·have g3:=Bf g3;have hb:i<x.ai.length/\j<y.ai.length:=by
     rcases g2 with g2 | ⟨_,_,_,_,e1,e2,_⟩
     ·have h1:=List.drop_eq_nil_iff.1 g2;rcases g3 with g3 | ⟨_,_,_,_,_,e2,_⟩
      ·have h2:=List.drop_eq_nil_iff.1 g3; omega
      ·rw [g2] at e2; cases e2
     ·exact ⟨yn e1,yn e2⟩
    obtain ⟨hilt,hjlt⟩:=hb;have hdx:x.ai.drop i=x.ai[i]::x.ai.drop (i+1):=W8 hilt;have hdy:y.ai.drop j=y.ai[j]::y.ai.drop (j+1):=W8 hjlt;have n1:¬ gF x.ai[i].1 y.ai[j].1:=by
     rcases g2 with g2 | ⟨_,_,_,_,e1,e2,hn⟩
     ·rw [hdx] at g2; cases g2
     ·rw [hdx] at e1; rw [hdy] at e2; cases e1; cases e2; exact hn
    have n2:¬ gF y.ai[j].1 x.ai[i].1:=by
     rcases g3 with g3 | ⟨_,_,_,_,e1,e2,hn⟩
     ·rw [hdy] at g3; cases g3
     ·rw [hdy] at e1; rw [hdx] at e2; cases e1; cases e2; exact hn
    have hF:eX (f'+1) (x.ai.drop i) (y.ai.drop j)=if (x.ai[i].2+y.ai[j].2) % 4294967296=0 then eX f' (x.ai.drop (i+1)) (y.ai.drop (j+1)) else (x.ai[i].1,(x.ai[i].2+y.ai[j].2) % 4294967296)::eX f' (x.ai.drop (i+1)) (y.ai.drop (j+1)):=by
     rw [hdx,hdy];exact PT n1 n2
    obtain ⟨a,ha,hc⟩:=v6.cells i hilt;obtain ⟨a',ha',hc'⟩:=u6.cells j hjlt;subst ha ha';refine af b1 ((some a,l,c),()) rfl ?_;refine an ?_;refine ay ⟨ad,ad⟩ (av rfl ?_);rw [show Int.toNat (i:Int)=i from ad];refine az ((x.ai[i].2:Int),()) (cL hc).2 ?_;refine an ?_;refine af b2 ((some a',m,d),()) rfl ?_;refine an ?_;refine ay ⟨ad,ad⟩ (av rfl ?_);rw [show Int.toNat (j:Int)=j from ad];refine az ((y.ai[j].2:Int),()) (cL hc').2 ?_;refine an ?_;rw [Hu];refine ik (cs:=[]) (fun z h'=>Sw h5 h3.size x.ai y.ai (((x.num+y.num) % 4294967296:Nat):Int) (i+1) (j+1) h') ?_ ?_
    ·refine ak (fun g4=>?_) (fun g4=>?_)
     ·have g4:¬ (x.ai[i].2+y.ai[j].2) % 4294967296=0:=by
       have:¬ (((x.ai[i].2+y.ai[j].2) % 4294967296:Nat):Int)=0:=by simpa using g4
       omega
      rw [WV g4] at hF;refine af b6 ((po,lo,co),()) rfl ?_;refine an ?_;refine af b1 ((some a,l,c),()) rfl ?_;refine an ?_;refine ay ⟨ad,ad⟩ (av rfl ?_);refine az (x.ai[i].1,()) (cL hc).1 ?_;refine an ?_;refine gu (vs:=cR (x.ai[i].1,(x.ai[i].2+y.ai[j].2) % 4294967296)) zy sC rfl ad ad ax rfl rfl s6 ad ad ad (fun h' e=>⟨aT e aj _ _ (cL hc).1,(b1.ao e aj).cells _ rfl,(b6.ao e aj).cells _ rfl,trivial⟩) ?_;intro p7 c7 h7 s7 k7 hp7;have b17:=b1.ao k7 (fun hh=>by have:=hsb _ hh; omega);have b67:=b6.ao k7 (fun hh=>by have:=hsb _ hh; omega);refine ⟨⟨hpm i a x.ai _ (.inl rfl) (cL hc).1 h7 k7,b17.cells _ rfl,trivial⟩,?_⟩;refine aw b67 rfl aj ?_;intro h8 b8 k8 z8;exact dF (cs:=[]) () rfl rfl (push _ (i+1) (j+1) h7 p7 c7 ad ad ad hF ad s7 k7 h8 b8 k8)
     ·have g4:(x.ai[i].2+y.ai[j].2) % 4294967296=0:=by
       have:(((x.ai[i].2+y.ai[j].2) % 4294967296:Nat):Int)=0:=by simpa using g4
       omega
      rw [W2 g4] at hF;exact dF (cs:=[]) () rfl rfl ⟨ad,ad,k6,O,po,lo,co,f',b6,s6,by rw [hO,hF],ad,ad⟩
    ·rintro ⟨⟩ h7 I7;exact aF (cs:=[(false,[.int .i64]),(false,[.int .i64])]) (((i+1:Nat):Int),((j+1:Nat):Int),()) ((x.ai.length-(i+1))+(y.ai.length-(j+1))) rfl ad (by rw [hwi,hwj]; rfl) ⟨i+1,j+1,rfl,rfl,rfl,I7⟩
 ·simp only [Bool.or_eq_false_iff,decide_eq_false_iff_not] at g1;rw [Xz ad,Xz ad,Mn,XP] at hO;refine af b6 ((po,lo,co),(((x.num+y.num) % 4294967296:Nat):Int),()) rfl ?_;refine an ?_;refine aw b3 rfl aj ?_;intro h7 b7 k7 z7;have b7:bz h7 h2.size 60 [.slice po lo co,.int .u32 (((x.num+y.num) % 4294967296:Nat):Int)]:=b7;refine af b7 ((po,lo,co),(((x.num+y.num) % 4294967296:Nat):Int),()) rfl ?_;refine ⟨Ch.trans e06 k7 (fun j hj hl=>by simp at hj; omega),po,lo,co,rfl,?_⟩;show SL h7 h.size 66 2 po lo co ((JE x.ai y.ai).map cR);rw [hO];exact (s6.bF k7 (fun j hj=>by have:=hsb j hj; simp; omega)).mono ad
end Go.Sx
namespace Go.Sx.Lk
open Go.Proofs Go.Sx.Ob
def RD (lv:Nat) (a5 a25:ZC) (n6:Int):T :=
  T.ah a5 [.slice 66,.int .u32] <| fun (p40:Option ZC) (l41:Nat) (l42:Nat) (n43:Int) =>
  T.ah a25 [.slice 66,.int .u32] <| fun (p44:Option ZC) (l45:Nat) (l46:Nat) (n47:Int) =>
  bG 92 [.agg #[.slice p40 l41 l42,.int .u32 n43],.agg #[.slice p44 l45 l46,.int .u32 n47]] false [(true,[.slice 66,.int .u32])] <| fun (p48:Option ZC) (l49:Nat) (l50:Nat) (n51:Int) =>
  T.aC a5 [.slice p48 l49 l50,.int .u32 n51] <|
  T.again lv [.int .i64 (bi (n6+(1:Int)))]
theorem EM {L:Lp} {K:ZB->Hp->Prop} {h:Hp} {lv g5 g25 l5 c5 l6 c6:Nat} {p5 p6:Option ZC} {n6:Int} {o y:bX} (b5:bz h g5 60 [.slice p5 l5 c5,.int .u32 o.num]) (b25:bz h g25 60 [.slice p6 l6 c6,.int .u32 y.num])
  (vo:gn h p5 l5 o.ai) (vy:gn h p6 l6 y.ai) (ho:∀ i,i∈aJ p5->i<h.size) (hy:∀ i,i∈aJ p6->i<h.size) (hl:o.ai.length+y.ai.length<=2^40)
  (hk:∀ p' l' c' h',Ch [g5] h h'->bz h' g5 60 [.slice p' l' c',.int .u32 (xe o y).num]->SL h' h.size 66 2 p' l' c' ((xe o y).ai.map cR)->T.again lv [.int .i64 (IntKind.wrap .i64 (n6+(1:Int)))] L K h') :
  RD lv ⟨g5,0,none⟩ ⟨g25,0,none⟩ n6 L K h:=by
 unfold RD bG bi;refine af b5 ((p5,l5,c5),(o.num:Int),()) rfl ?_;refine an ?_;refine af b25 ((p6,l6,c6),(y.num:Int),()) rfl ?_;refine an ?_;refine aH (EH vo vy ho hy hl) ?_;rintro _ h1 ⟨e1,p',l',c',rfl,s1⟩;refine ⟨((p',l',c'),((xe o y).num:Int),()),rfl,?_⟩;refine an ?_;refine aw (b5.ao e1 aj) rfl aj ?_;intro h2 b2 k2 z2;have b2:bz h2 g5 60 [.slice p' l' c',.int .u32 ((xe o y).num:Int)]:=b2;have hg:=b5.lt;exact hk p' l' c' h2 (Ch.trans (Ch.mono e1 aj) k2 (fun j hj hl=>hj)) b2 (s1.bF k2 (fun j hj=>by have:=(s1.bY hj).1; simp; omega))
theorem UO {h:Hp} {g:Nat} {s:ZA} {n:Nat} (b:bz h g 66 [.string s,.int .u32 n]):gn h (some ⟨g,0,none⟩) 1 [(s,n)] :=
 ⟨rfl,fun i hi=>by
  have:i=0:=by simpa using hi
  subst this;exact ⟨_,rfl,by rw [aE]; exact b.cells _ rfl⟩⟩
theorem BX {es:List cE} {s:ZA} {k:Nat} (h:jO es s=some k):∃ hk:k<es.length,cj es s=some es[k].x:=by
 have h0:=h;unfold jO at h;rw [Xd] at h;obtain ⟨hk,_⟩:=h;refine ⟨hk,?_⟩;unfold cj cm cY;rw [h0];simp [hk]
theorem Bz {es:List cE} {s:ZA} (h:jO es s=none):cj es s=none:=by
 unfold cj cm;rw [h,WV aj]
theorem Ed {es:List cE} {s:ZA} {y:bX} (h:cj es s=some y):∃ e,e∈es/\y=e.x:=by
 cases hp:jO es s with
 | none=>rw [Bz hp] at h; cases h
 | some k =>
  obtain ⟨hk,h1⟩:=BX hp;rw [h1] at h;exact ⟨_,WZ hk,(Xc h).symm⟩
theorem Hk {es:List cE} {x:bX} {S:List ZA} (hSx:∀ t,t∈x.ai->t.1∈S) (hSe:∀ e,e∈es->∀ t,t∈e.x.ai->t.1∈S):∀ t,t∈(cV (cj es) x).ai->t.1∈S:=by
 intro t ht;obtain ⟨u,hu,h | ⟨y,w,hy,hw,he⟩⟩:=yz ht
 ·rw [h.2]; exact hSx u hu
 ·obtain ⟨e,he',rfl⟩:=Ed hy;rw [<- he]; exact hSe e he' w hw
theorem HR {h:Hp} {p q:Option ZC} {l c m d:Nat} {x:bX} {es:List cE} (v:gn h p l x.ai) (u:tH h q m es) (hp:∀ i,i∈aJ p->i<h.size) (hb:∀ e,e∈es->∀ i,i∈aJ e.p->i<h.size)
  (hm:es.length<=2^40) (hx:Nf x.ai) (hn:x.num<4294967296) (hes:∀ e,e∈es->Nf e.x.ai) {S:List ZA} (hS:S.length<=2^30) (hSx:∀ t,t∈x.ai->t.1∈S) (hSe:∀ e,e∈es->∀ t,t∈e.x.ai->t.1∈S) :
  HC Tryz.prog 94 #[gH p l c x,.slice q m d] h fun w h'=>Ext h h'/\∃ p' l' c',w=gH p' l' c' (cV (cj es) x)/\SL h' h.size 66 2 p' l' c' ((cV (cj es) x).ai.map cR):=by
 refine aX (args:=[.agg #[.slice p l c,.int .u32 x.num],.slice q m d]) mixed Tryz.func94 ax (oR p l c x.num q m d) ?_;unfold j7 aZ bg bq aK cD bG bh bd aM;have hll:=v.len;have hmm:=u.len;have hof:∀ s y,cj es s=some y->Nf y.ai:=fun s y hy=>by
  obtain ⟨e,he,rfl⟩:=Ed hy;exact hes e he
 have hlx:=yx hx hSx;refine bm ?_;intro h1 b1 e1 z1;refine bm ?_;intro h2 b2 e2 z2;have b1:=b1.ao e2 aj;rw [aE];refine af b1 ((x.num:Int),()) rfl ?_;refine an ?_;refine bm ?_;intro h3 b3 e3 z3;refine aw b3 rfl aj ?_;intro h4 b4 k4 z4;have b4:bz h4 h2.size 60 [.slice none 0 0,.int .u32 (x.num:Int)]:=b4;have e24:Ext h2 h4:=Ch.trans e3 k4 (fun j hj hl=>by simp at hj; omega);have b1:=b1.ao e24 aj;have b2:=b2.ao e24 aj;have e04:=(e1.trans e2).trans e24;have hb4:=b4.lt;have hz04:=e04.size;refine aR (cs:=[(false,[.int .i64])]) (fun y w h'=>∃ (i:Nat) (q:Option ZC) (m d:Nat),y.1=(i:Int)/\i<=x.ai.length/\w=x.ai.length-i/\Ch [h2.size] h4 h'/\bz h' h2.size 60 [.slice q m d,.int .u32 (((x.ai.take i).foldl (fy (cj es)) ⟨[],x.num⟩).num:Int)] /\
  SL h' h4.size 66 2 q m d (((x.ai.take i).foldl (fy (cj es)) ⟨[],x.num⟩).ai.map cR)) ((0:Int),()) x.ai.length rfl ⟨0,none,0,0,rfl,ad,ad,Ch.refl _ _,b4,SL.nil _ _ _ _⟩ ?_
 rintro ⟨n8,⟨⟩⟩ w h5 ⟨i,q5,m5,d5,hi,hile,rfl,k5,b5,s5⟩;simp only at hi;subst hi;refine an ?_;have b15:=b1.ao k5 (by simp; omega);have hz5:=k5.size;have e05:Ext h h5:=Ch.trans e04 k5 (fun j hj hl=>by simp at hj; omega);have v5:=v.ao e05 aj;have u5:=u.ao e05;refine af b15 ((p,l,c),()) rfl ?_;refine an ?_;have hw:IntKind.wrap .i64 ((i:Int)+1)=((i+1:Nat):Int):=by rw [wrap_i64 ad ad]; omega
 have hacc:=Bp hof hx hn i;have hal:((x.ai.take i).foldl (fy (cj es)) ⟨[],x.num⟩).ai.length<=S.length:=by
  rw [hacc];exact yx (eF _ _) (Hk (fun t ht=>hSx t (XY ht)) hSe)
 refine ak (fun g1=>?_) (fun g1=>?_)
 ·have g1:=WR g1;have hilt:i<x.ai.length:=ad
  have htk:(x.ai.take (i+1)).foldl (fy (cj es)) ⟨[],x.num⟩=fy (cj es) ((x.ai.take i).foldl (fy (cj es)) ⟨[],x.num⟩) x.ai[i]:=by
   rw [WW hilt,XV] <;> rfl
  obtain ⟨a,rfl,hc⟩:=v5.cells i hilt;have htm:=WZ hilt;generalize x.ai[i]=t at hc htk htm;generalize hA:(x.ai.take i).foldl (fy (cj es)) ⟨[],x.num⟩=A at b5 s5 hal htk hacc;obtain ⟨c1,c2⟩:=cL hc;have hab:=hp a.block (by simp [aJ]);refine af b15 ((some a,l,c),()) rfl ?_;refine an ?_;refine ay ⟨ad,ad⟩ (av rfl ?_);rw [show Int.toNat (i:Int)=i from ad];refine az (t.1,()) c1 ?_;refine an ?_;refine gi (Eu u5 ad t.1) ?_;refine af b15 ((some a,l,c),()) rfl ?_;refine an ?_;refine ay ⟨ad,ad⟩ (av rfl ?_);refine az (t.1,(t.2:Int),()) hc ?_;refine an ?_;refine ml Gt sC ad ad (Gj _ _) ?_;intro h6 b6 e6 z6;refine bm ?_;intro h7 b7 e7 z7;refine aw b7 rfl aj ?_;intro h8 b8 k8 z8;have b8:bz h8 h6.size 60 [.slice (some ⟨h5.size,0,none⟩) 1 1,.int .u32 ((0:Nat):Int)]:=b8;have e58:Ext h5 h8:=Ch.trans (e6.trans e7) k8 (fun j hj hl=>by simp at hj; omega);have b68:=b6.ao (Ch.trans e7 k8 (fun j hj hl=>by simp at hj; omega):Ext h6 h8) aj;have b58:=b5.ao e58 aj;have b18:=b15.ao e58 aj;have s8:=s5.bF e58 (fun j hj=>aj)
  have hback:∀ y:bX,Hc (cj es) t=y->∀ p' l' c' h',Ext h5 h8->∀ h9,Ch [h6.size] h8 h9->Ch [h2.size] h9 h'->bz h' h2.size 60 [.slice p' l' c',.int .u32 (xe A y).num] ->
    SL h' h9.size 66 2 p' l' c' ((xe A y).ai.map cR)->Ch [h2.size] h4 h'/\bz h' h2.size 60 [.slice p' l' c',.int .u32 (((x.ai.take (i+1)).foldl (fy (cj es)) ⟨[],x.num⟩).num:Int)] /\
     SL h' h4.size 66 2 p' l' c' (((x.ai.take (i+1)).foldl (fy (cj es)) ⟨[],x.num⟩).ai.map cR):=by
   intro y hy p' l' c' h' _ h9 e9 k9 b9 s9;rw [htk];unfold fy;rw [hy]
   have:=e58.size
   have:=e9.size
   exact ⟨Ch.trans (Ch.trans (Ch.trans k5 e58 aj) e9 (fun j hj hl=>by simp at hj; omega)) k9 (fun j hj _=>hj),b9,s9.mono ad⟩
  refine ak (fun g2=>?_) (fun g2=>?_)
  ·have g2:=WR g2;cases hpl:jO es t.1 with
   | none=>rw [hpl] at g2; exact absurd g2 (by unfold OK; decide)
   | some k =>
    obtain ⟨hk,hlo⟩:=BX hpl;obtain ⟨ae,rfl,hce⟩:=(u5.ao e58).cells k hk;have hem:=WZ hk;have vy:=(u5.ao e58).fe _ hem;generalize es[k]=e at hce hem vy hlo;have hble:=hb e hem;have hyl:=yx (hes e hem) (hSe e hem);refine ay ⟨by show (0:Int)<=(k:Int); omega,by show (k:Int)<_; omega⟩ (av rfl ?_);rw [show Int.toNat (OK (some k))=k from Int.toNat_natCast k];refine az ((e.p,e.l,e.c),(e.x.num:Int),()) ⟨by rw [add_add]; exact hce.2.1,by rw [add_add]; exact hce.2.2.1,trivial⟩ ?_;refine an ?_;refine af b18 ((some a,l,c),()) rfl ?_;refine an ?_;refine ay ⟨ad,ad⟩ (av rfl ?_);refine az ((t.2:Int),()) (aT e58 aj _ _ c2) ?_;refine an ?_
    have:=e58.size
    refine aH (F2 vy ad (fun j hj=>by have:=hble j hj; omega) t.2) ?_;rintro _ h9 ⟨e9,p9,l9,c9,rfl,s9⟩;refine ⟨((p9,l9,c9),((Cp e.x t.2).num:Int),()),rfl,?_⟩;refine an ?_;refine ⟨⟨(b18.ao e9 aj).cells _ rfl,trivial⟩,?_⟩;refine aw (b8.ao e9 aj) rfl aj ?_;intro h10 b10 k10 z10;have b10:bz h10 h6.size 60 [.slice p9 l9 c9,.int .u32 ((Cp e.x t.2).num:Int)]:=b10;have k810:Ch [h6.size] h8 h10:=Ch.trans (Ch.mono e9 aj) k10 (fun j hj hl=>hj);have e510:Ext h5 h10:=Ch.trans e58 k810 (fun j hj hl=>by simp at hj; omega);refine EM (lv:=0) (o:=A) (y:=Cp e.x t.2) (b5.ao e510 aj) b10 (s5.bF e510 (fun j hj=>aj)).Rq (s9.bF k10 (fun j hj=>by have:=(s9.bY hj).1; simp; omega)).Rq
     (fun j hj=>by have:=(s5.bY hj).2; have:=e510.size; omega) (fun j hj=>by have:=(s9.bY hj).2; omega) (by have:=Az t.2 e.x.ai; show A.ai.length+(eW t.2 e.x.ai).length<=_; omega) ?_
    intro p' l' c' h11 k11 b11 s11;obtain ⟨r1,r2,r3⟩:=hback (Cp e.x t.2) (by unfold Hc; rw [hlo]) p' l' c' h11 e58 h10 k810 k11 b11 s11;exact aF (cs:=[(false,[.int .i64])]) (((i+1:Nat):Int),()) (x.ai.length-(i+1)) rfl ad (Xa (fun z=>[Value.int .i64 z]) hw) ⟨i+1,p',l',c',rfl,ad,rfl,r1,r2,r3⟩
  ·have g2:=WS g2;have hpl:jO es t.1=none:=by
    cases hpl:jO es t.1 with
    | none=>rfl
    | some k=>rw [hpl] at g2; exact absurd (show (0:Int)<=((k:Nat):Int) from ad) g2
   refine EM (lv:=0) (o:=A) (y:=⟨[t],0⟩) b58 b8 s8.Rq (UO b68) (fun j hj=>by have:=(s5.bY hj).2; have:=e58.size; omega) (fun j hj=>by simp [aJ] at hj; have:=e58.size; have:=b68.lt; omega) (by show A.ai.length+1<=_; omega) ?_;intro p' l' c' h11 k11 b11 s11;obtain ⟨r1,r2,r3⟩:=hback ⟨[t],0⟩ (by unfold Hc; rw [Bz hpl]) p' l' c' h11 e58 h8 ((Ch.refl [h6.size] h8)) k11 b11 s11;exact aF (cs:=[(false,[.int .i64])]) (((i+1:Nat):Int),()) (x.ai.length-(i+1)) rfl ad (Xa (fun z=>[Value.int .i64 z]) hw) ⟨i+1,p',l',c',rfl,ad,rfl,r1,r2,r3⟩
 ·have g1:=WS g1;have hi:i=x.ai.length:=ad
  subst hi;rw [XG,B8 hof hx hn] at b5 s5;refine af b5 ((q5,m5,d5),((cV (cj es) x).num:Int),()) rfl ?_;refine an ?_;refine aw (b2.ao k5 (by simp; omega)) rfl aj ?_;intro h7 b7 k7 z7;have b7:bz h7 h1.size 60 [.slice q5 m5 d5,.int .u32 ((cV (cj es) x).num:Int)]:=b7;refine af b7 ((q5,m5,d5),((cV (cj es) x).num:Int),()) rfl ?_;exact ⟨Ch.trans e05 k7 (fun j hj hl=>by simp at hj; omega),q5,m5,d5,rfl,(s5.bF k7 (fun j hj=>by have:=(s5.bY hj).1; simp; omega)).mono ad⟩
theorem uZ {es:List cE} {s:ZA} {j:Nat} (h:jO es s=some j):∃ e,es[j]?=some e/\e.name=s:=by
 unfold jO at h;rw [Xd] at h;obtain ⟨hj,h1,_⟩:=h;exact ⟨es[j],WT hj,by simpa using h1⟩
theorem PW {es:List cE} (hn:(aS es).Nodup) {i j:Nat} {d e:cE} (hi:es[i]?=some d) (hj:es[j]?=some e) (h:d.name=e.name):i=j:=by
 obtain ⟨h1,rfl⟩:=W6.1 hi;obtain ⟨h2,rfl⟩:=W6.1 hj;refine (List.getElem_inj (h₀:=by unfold aS; rw [WQ]; exact h1) (h₁:=by unfold aS; rw [WQ]; exact h2) hn).1 ?_;unfold aS;rw [WY,WY];exact h
theorem Iy {es:List cE} (hn:(aS es).Nodup) {k j:Nat} {e:cE} (he:es[k]?=some e) {t:ZA × Nat} (ht:t∈e.x.ai) (hp:jO es t.1=some j):∃ d,es[j]?=some d/\da es e.name d.name:=by
 obtain ⟨d,hd,hdn⟩:=uZ hp;refine ⟨d,hd,?_,?_⟩
 ·rw [kx,oD hn (XD he)];exact ⟨t,ht,hdn.symm⟩
 ·unfold cm;rw [hdn,hp] <;> rfl
theorem Pf {es:List cE} (hn:(aS es).Nodup) {k:Nat} {e:cE} (he:es[k]?=some e) {z:ZA} (h:da es e.name z):∃ t,t∈e.x.ai/\∃ j d,jO es t.1=some j/\es[j]?=some d/\d.name=z:=by
 obtain ⟨h1,h2⟩:=h;rw [kx,oD hn (XD he)] at h1;obtain ⟨t,ht,rfl⟩:=h1;unfold cm at h2;obtain ⟨j,hj⟩:=XJ.1 h2;obtain ⟨d,hd,hdn⟩:=uZ hj;exact ⟨t,ht,j,d,hj,hd,hdn⟩
structure oS (es:List cE) (i0:Nat) (a:ZA) (kc i:Nat) (W:List Nat) (sn:List Bool):Prop where
 len:sn.length=es.length
 Ri:∀ w,w∈W->∃ e,es[w]?=some e/\oL (da es) a e.name
 src:sn[i0]?≠some true
 cl:∀ k e,es[k]?=some e->(k=i0\/sn[k]?=some true)->k∉W->∀ m t,e.x.ai[m]?=some t->(k=kc->m<i)->∀ j,jO es t.1=some j->j≠i0/\sn[j]?=some true
variable {es:List cE} {i0 kc i:Nat} {a:ZA} {W:List Nat} {sn:List Bool}
theorem oS.start {e:cE} (he:es[i0]?=some e) (ha:e.name=a):oS es i0 a es.length 0 [i0] (List.replicate es.length false):=by
 have hf:∀ k:Nat,(List.replicate es.length false)[k]?≠some true:=by
  intro k h
  have:=XD h
  rw [List.mem_replicate] at this;cases this.2
 refine ⟨aj,fun w hw=>?_,hf i0,fun k e he h hk=>?_⟩
 ·rw [Xu] at hw;subst hw;exact ⟨e,he,by rw [ha]; exact .refl _⟩
 ·rcases h with h | h
  ·subst h; simp at hk
  ·exact absurd h (hf k)
theorem oS.pop (s:oS es i0 a es.length 0 (W++[kc]) sn):oS es i0 a kc 0 W sn/\∃ e,es[kc]?=some e/\oL (da es) a e.name:=by
 refine ⟨⟨s.len,fun w hw=>s.Ri w (by simp [hw]),s.src,fun k e he h hk m t ht hm j hj=>?_⟩,s.Ri kc aj⟩
 by_cases hkk:k=kc
 ·exact absurd (hm hkk) ad
 ·refine s.cl k e he h (by simp [hk,hkk]) m t ht (fun hh=>?_) j hj;obtain ⟨hl,_⟩:=W6.1 he;omega
theorem oS.skip (s:oS es i0 a kc i W sn) {e:cE} (he:es[kc]?=some e) {t:ZA × Nat} (ht:e.x.ai[i]?=some t) (h:∀ j,jO es t.1=some j->j≠i0/\sn[j]?=some true):oS es i0 a kc (i+1) W sn:=by
 refine ⟨s.len,s.Ri,s.src,fun k d hd hh hk m u hu hm j hj=>?_⟩
 by_cases hc:k=kc/\m=i
 ·obtain ⟨rfl,rfl⟩:=hc;rw [he] at hd;cases hd;rw [ht] at hu;cases hu;exact h j hj
 ·refine s.cl k d hd hh hk m u hu (fun hkk=>?_) j hj
  have:=hm hkk
  have:m≠i:=fun hmi=>hc ⟨hkk,hmi⟩
  omega
theorem oS.push (s:oS es i0 a kc i W sn) (hn:(aS es).Nodup) {e:cE} (he:es[kc]?=some e) (hr:oL (da es) a e.name) {t:ZA × Nat} (ht:e.x.ai[i]?=some t) {j:Nat} (hj:jO es t.1=some j) (h0:j≠i0) :
  oS es i0 a kc (i+1) (W++[j]) (sn.set j true):=by
 obtain ⟨d,hd,hed⟩:=Iy hn he (XD ht) hj;obtain ⟨hjl,_⟩:=W6.1 hd;have hjs:(sn.set j true)[j]?=some true:=by rw [YD (by rw [s.len]; exact hjl)]
 have hup:∀ x:Nat,sn[x]?=some true->(sn.set j true)[x]?=some true:=by
  intro x hx
  by_cases hxj:j=x
  ·subst hxj; exact hjs
  ·rw [Yp hxj]; exact hx
 refine ⟨by rw [Ya]; exact s.len,fun w hw=>?_,by rw [Yp h0]; exact s.src,fun k f hf hh hk m u hu hm j' hj'=>?_⟩
 ·rw [Xj,Xu] at hw;rcases hw with hw | rfl
  ·exact s.Ri w hw
  ·exact ⟨d,hd,hr.trans (.one hed)⟩
 ·rw [Xj,Xu] at hk;have hkj:j≠k:=fun e=>hk (Or.inr e.symm)
  rw [Yp hkj] at hh
  by_cases hc:k=kc/\m=i
  ·obtain ⟨rfl,rfl⟩:=hc;rw [he] at hf;cases hf;rw [ht] at hu;cases hu;rw [hj] at hj';cases hj';exact ⟨h0,hjs⟩
  ·obtain ⟨h1,h2⟩:=s.cl k f hf hh (fun hx=>hk (Or.inl hx)) m u hu (fun hkk=>by
    have:=hm hkk
    have:m≠i:=fun hmi=>hc ⟨hkk,hmi⟩
    omega) j' hj'
   exact ⟨h1,hup _ h2⟩
theorem oS.done (s:oS es i0 a kc i W sn) {e:cE} (he:es[kc]?=some e) (hi:e.x.ai.length<=i):oS es i0 a es.length 0 W sn:=by
 refine ⟨s.len,s.Ri,s.src,fun k d hd hh hk m u hu hm j hj=>s.cl k d hd hh hk m u hu (fun hkk=>?_) j hj⟩;subst hkk;rw [he] at hd;cases hd;obtain ⟨hl,_⟩:=W6.1 hu;omega
theorem oS.no (s:oS es i0 a es.length 0 [] sn) (hn:(aS es).Nodup) {e:cE} (he:es[i0]?=some e) (ha:e.name=a):¬ jT (da es) a:=by
 have hcl:∀ k e,es[k]?=some e->(k=i0\/sn[k]?=some true)->∀ z,da es e.name z->∃ j d,es[j]?=some d/\d.name=z/\j≠i0/\sn[j]?=some true:=by
  intro k e he h z hz;obtain ⟨t,ht,j,d,hj,hd,hdz⟩:=Pf hn he hz;obtain ⟨m,hm⟩:=List.getElem?_of_mem ht;obtain ⟨hkl,_⟩:=W6.1 he;obtain ⟨h1,h2⟩:=s.cl k e he h aj m t hm (fun hh=>ad) j hj;exact ⟨j,d,hd,hdz,h1,h2⟩
 have key:∀ y z,oL (da es) y z->z=a->(∃ j d,es[j]?=some d/\d.name=y/\j≠i0/\sn[j]?=some true)->False:=by
  intro y z r
  induction r with
  | refl y =>
   rintro rfl ⟨j,d,hd,hdn,h1,_⟩;exact h1 (PW hn hd he (hdn.trans ha.symm))
  | head hE r ih =>
   rintro rfl ⟨j,d,hd,rfl,h1,h2⟩;exact ih rfl (hcl j d hd (Or.inr h2) _ hE)
 rintro ⟨y,hy,r⟩;rw [<- ha] at hy;exact key y a r rfl (hcl i0 e he (Or.inl rfl) y hy)
theorem O' (hn:(aS es).Nodup) {e:cE} (he:es[kc]?=some e) (hr:oL (da es) a e.name) {t:ZA × Nat} (ht:t∈e.x.ai) {d:cE} (hd:es[i0]?=some d) (ha:d.name=a) (hj:jO es t.1=some i0):jT (da es) a:=by
 obtain ⟨d',hd',hed⟩:=Iy hn he ht hj;rw [hd] at hd';cases hd';rw [ha] at hed;cases hr with
 | refl _=>exact ⟨_,hed,.refl _⟩
 | head h1 h2=>exact ⟨_,h1,h2.trans (.one hed)⟩
theorem Tn:Tryz.prog.underlying 204=some (.slice 4):=ax
theorem U5:(Tryz.prog.info? 4).map (fun i=>(i.zero,i.size,i.bytes))=some (some (.bool false),1,1):=ax
theorem Df:Tryz.prog.underlying 126=some (.slice 3):=ax
theorem OJ:(Tryz.prog.info? 3).map (fun i=>(i.zero,i.size,i.bytes))=some (some (.int .i64 0),1,8):=ax
def Rp (b:Bool):List ZB:=[.bool b]
def Kf (n:Nat):List ZB:=[.int .i64 (n:Int)]
theorem MD {α:Type} (f:α->ZB) (l:List α):(l.map fun x=>[f x]).flatten=l.map f:=by
 induction l with
 | nil=>rfl
 | cons a l ih=>rw [Xy,Yq,ih]; rfl
theorem US {h:Hp} {g:Nat} {e:TypeId} {sz:Nat} {cells:List ZB} (xs:List (List ZB)) (b:bz h g e cells) (hc:cells=xs.flatten) (hl:∀ x,x∈xs->x.length=sz) (hn:xs.length<9223372036854775808):SL h g e sz (some ⟨g,0,none⟩) xs.length xs.length xs:=by
 subst hc;exact ⟨rfl,hl,g,[],[],rfl,W9 _,⟨W9 _,hn⟩,by simpa using b,aj⟩
theorem CR (n:Int):Instr.fill (fun j=>some (j*1,1)) ((Array.range (1*1)).map ((Value.int .i64 0).cells[· % (Value.int .i64 0).cells.size]!)) [(0,.int .i64 n)]=some ([.int .i64 n]:List ZB).toArray:=ax
theorem Nq {L:Lp} {K:ZB->Hp->Prop} {h:Hp} {n:Nat} (hn:n<=2^40) {k:Option ZC->Nat->Nat->T} (hk:∀ h',SL h' h.size 4 1 (some ⟨h.size,0,none⟩) n n ((List.replicate n false).map Rp)->Ext h h'->h'.size=h.size+1->k (some ⟨h.size,0,none⟩) n n L K h') :
  T.dY Tryz.prog (Instr.makeSlice 204 (.int .i64 (n:Int)) (.int .i64 (n:Int))) false [(false,[.slice 0])] k L K h:=by
 obtain ⟨i5,hi5,hz5,hs5,hb5⟩:=oW U5;refine dm (oQ (l:=n) (c:=n) Tn hi5 hz5 (W9 _) (by rw [hb5]; omega) ad ?_);intro h14 b14 e14 z14;refine ⟨_,_,_,rfl,hk h14 ?_ e14 z14⟩;have hc:(List.range (n*i5.size)).map ((Value.bool false).cells[· % (Value.bool false).cells.size]!)=((List.replicate n false).map Rp).flatten:=by
  rw [hs5,Nat.mul_one];show _=((List.replicate n false).map fun b=>[Value.bool b]).flatten;rw [MD];apply YP
  ·simp
  ·intro i h1 h2;rw [WY,WY,List.getElem_replicate];show (#[Value.bool false]:Array ZB)[((List.range n)[i]'(by simpa using h1)) % 1]! = _;rw [Nat.mod_one] <;> rfl
 have:=US ((List.replicate n false).map Rp) b14 hc (fun x hx=>by obtain ⟨b,_,rfl⟩:=WX.1 hx; rfl) (by simp; omega)
 rw [WQ,List.length_replicate] at this;exact this
def nF (sn:List Bool):Nat:=sn.count false
theorem Kn:∀ (sn:List Bool) (j:Nat),sn[j]?=some false->nF (sn.set j true)+1=nF sn
 | [],j,h=>by simp at h
 | b::l,0,h=>by
  simp at h;subst h;simp [nF]
 | b::l,j+1,h=>by
  have ih:=Kn l j (by simpa using h);unfold nF at ih ⊢;rw [List.set_cons_succ,List.count_cons,List.count_cons];omega
theorem OF (sn:List Bool) (j:Nat):(sn.map Rp).set j [.bool true]=(sn.set j true).map Rp:=by rw [YN]; rfl
theorem KB (p:Option ZC) (c:Nat):(if c=0 then p else Option.map (fun a=>Addr.add a 0) p)=p:=by
 split
 ·rfl
 ·cases p with
  | none=>rfl
  | some a=>show some (a.add 0)=some a; rw [add_zero']
open Classical in
theorem OW {h:Hp} {p:Option ZC} {l c:Nat} {es:List cE} (v:tH h p l es) (hn:(aS es).Nodup) (hl:es.length<=2^40) (ht:∀ e,e∈es->e.x.ai.length<=2^40) {i0:Nat} {e0:cE} (he0:es[i0]?=some e0) :
  HC Tryz.prog 114 #[.slice p l c,.int .i64 (i0:Int),.int .i64 (i0:Int)] h fun w h'=>Ext h h'/\w=.bool (decide (jT (da es) e0.name)):=by
 refine aX (args:=[.slice p l c,.int .i64 (i0:Int),.int .i64 (i0:Int)]) mixed Tryz.func114 ax (oY p l c i0 i0) ?_;unfold jV aZ bg bq aK cD bh bi bt dH aM cd db;obtain rfl:=v.len;obtain ⟨hi0,_⟩:=W6.1 he0;refine Nq hl ?_;intro h1 sB1 e1 z1;refine ml Df OJ ad ad (CR _) ?_;intro h2 b2 e2 z2;have sW2:SL h2 h1.size 3 1 (some ⟨h1.size,0,none⟩) 1 1 ([i0].map Kf):=US [[.int .i64 (i0:Int)]] b2 rfl aj aj;have sB2:=sB1.bF e2 aj;have e02:=e1.trans e2;refine aR (cs:=[(false,[.bool]),(false,[.slice 0])]) (fun y m h'=>∃ (W:List Nat) (sn:List Bool),m=nF sn+W.length/\m<=es.length+1/\Ext h h'/\h1.size<=h'.size/\SL h' h.size 4 1 (some ⟨h.size,0,none⟩) es.length es.length (sn.map Rp)/\SL h' h1.size 3 1 y.2.1.1 y.2.1.2.1 y.2.1.2.2 (W.map Kf)/\oS es i0 e0.name es.length 0 W sn)
  (false,(some ⟨h1.size,0,none⟩,1,1),()) _ rfl ⟨[i0],List.replicate es.length false,rfl,by simp [nF],e02,ad,sB2,sW2,oS.start he0 rfl⟩ ?_
 rintro ⟨b9,⟨p10,l11,l12⟩,⟨⟩⟩ m h3 ⟨W,sn,rfl,hM,e3,z3,sB3,sW3,I3⟩;simp only at sW3;refine an ?_;have hlW:l11=W.length:=by have:=sW3.1; rwa [WQ] at this
 have hWn:∀ w,w∈W->w<es.length:=fun w hw=>by
  obtain ⟨e,he,_⟩:=I3.Ri w hw;exact (W6.1 he).1
 refine ak (fun g1=>?_) (fun g1=>?_)
 ·have g1:=WR g1;rcases List.eq_nil_or_concat W with rfl | ⟨W0,kc,rfl⟩
  ·simp at hlW; omega
  ·rw [List.concat_eq_append] at hlW sW3 I3 hWn hM;have hM':nF sn+(W0.length+1)<=es.length+1:=by simpa using hM
   have hlW:l11=W0.length+1:=by simpa using hlW
   subst hlW;obtain ⟨I4,e,he,hr⟩:=I3.pop;have hkc:=(W6.1 he).1;have hem:=XD he;have hw1:IntKind.wrap .i64 (((W0.length+1:Nat):Int)-1)=(W0.length:Int):=by rw [wrap_i64 ad ad]; omega
   obtain ⟨a,rfl,hc⟩:=SL.cells sW3 (i:=W0.length) aj;have hc:aG h3 (a.add (W0.length*1)) 0 [.int .i64 (kc:Int)]:=by simpa [Kf] using hc
   rw [hw1,show Int.toNat (W0.length:Int)=W0.length from ad];refine ay ⟨ad,ad⟩ (av rfl ?_);refine az ((kc:Int),()) hc ?_;refine an ?_;have hcap:W0.length+1<=l12:=by
    obtain ⟨g,pre,rest,_,_,hlc,_⟩:=sW3.2.2;exact hlc.1
   refine ay ⟨ad,ad,ad⟩ ?_;rw [KB,YW,YW];have sW4:=SL.take sW3 (k:=W0.length) ad;rw [<- List.map_take,YS] at sW4;have hte:=ht e hem;refine aR (cs:=[(false,[.bool]),(false,[.slice 0]),(false,[.int .i64])]) (fun y m h'=>∃ (W:List Nat) (sn':List Bool) (i:Nat),y.2.2.1=(i:Int)/\i<=e.x.ai.length/\m=e.x.ai.length-i/\nF sn'+W.length+1=nF sn+(W0.length+1)/\Ext h h'/\h1.size<=h'.size /\
    SL h' h.size 4 1 (some ⟨h.size,0,none⟩) es.length es.length (sn'.map Rp)/\SL h' h1.size 3 1 y.2.1.1 y.2.1.2.1 y.2.1.2.2 (W.map Kf)/\oS es i0 e0.name kc i W sn')
    (b9,(some a,W0.length,l12),(0:Int),()) _ rfl ⟨W0,sn,0,rfl,ad,rfl,ad,e3,z3,sB3,sW4,I4⟩ ?_
   rintro ⟨b15,⟨p16,l17,c18⟩,n19,⟨⟩⟩ m5 h5 ⟨W,sn',i,hi,hile,rfl,hMM,e5,z5,sB5,sW5,I5⟩;simp only at hi sW5;subst hi;refine an ?_;have hl17:l17=W.length:=by have:=sW5.1; rwa [WQ] at this
   subst hl17;have v5:=v.ao e5;obtain ⟨ae,rfl,hce⟩:=v5.cells kc hkc;have hek:es[kc]=e:=(W6.1 he).2;rw [hek] at hce;have vt:=v5.fe e hem;have hll:=vt.len;have hw:IntKind.wrap .i64 ((i:Int)+1)=((i+1:Nat):Int):=by rw [wrap_i64 ad ad]; omega
   have hsl:aG h5 ((ae.add (kc*3)).add 1) 0 [.slice e.p e.l e.c]:=⟨by rw [add_add]; exact hce.2.1,trivial⟩
   refine ay ⟨ad,ad⟩ (av rfl ?_);rw [show Int.toNat (kc:Int)=kc from ad];refine az ((e.p,e.l,e.c),()) hsl ?_;refine an ?_;refine ak (fun g2=>?_) (fun g2=>?_)
   ·have g2:=WR g2;have hil:i<e.x.ai.length:=ad
    refine ay ⟨ad,ad⟩ (av rfl ?_);refine az ((e.p,e.l,e.c),()) hsl ?_;refine an ?_;obtain ⟨at',hp',hct⟩:=vt.cells i hil;have hti:e.x.ai[i]?=some e.x.ai[i]:=WT hil;have htm:=WZ hil;generalize e.x.ai[i]=t at hct hti htm;refine ay ⟨ad,ad⟩ (av hp' ?_);rw [show Int.toNat (i:Int)=i from ad];refine az (t.1,()) ⟨hct.1,trivial⟩ ?_;refine an ?_;refine gi (Eu v5 ad t.1) ?_;refine ak (fun g3=>?_) (fun g3=>?_)
    ·have g3:OK (jO es t.1)=(i0:Int):=by simpa using g3
     have hj:jO es t.1=some i0:=by
      cases hq:jO es t.1 with
      | none=>rw [hq] at g3; exact absurd g3 (by show ¬ ((-1:Int)=_); omega)
      | some j =>
       rw [hq] at g3
       have:(j:Int)=i0:=g3
       rw [show j=i0 from ad]
     refine ⟨e5,?_⟩;rw [W1 (O' hn he hr htm he0 rfl hj)]
    ·have g3:¬ OK (jO es t.1)=(i0:Int):=by simpa using g3
     cases hq:jO es t.1 with
     | none =>
      refine bZ (by show decide ((-1:Int)>=0)=false; decide) ?_;refine aF (cs:=[(false,[.bool]),(false,[.slice 0]),(false,[.int .i64])]) (b15,(p16,W.length,c18),((i+1:Nat):Int),()) (e.x.ai.length-(i+1)) rfl ad (Xa (fun z=>[Value.bool b15,.slice p16 W.length c18,Value.int .i64 z]) hw)
       ⟨W,sn',i+1,rfl,ad,rfl,hMM,e5,z5,sB5,sW5,I5.skip he hti (fun j hj=>by rw [hq] at hj; cases hj)⟩
     | some j =>
      rw [hq] at g3;have hj0:j≠i0:=fun hh=>g3 (by rw [hh]; rfl)
      obtain ⟨d,hd,_⟩:=uZ hq;have hjl:=(W6.1 hd).1;refine bT (W1 (show (0:Int)<=((j:Nat):Int) from ad)) ?_;have hjs:j<sn'.length:=by rw [I5.len]; exact hjl
      obtain ⟨ab,hab,hcb⟩:=SL.cells sB5 (i:=j) (by rw [WQ]; exact hjs);rw [WY] at hcb;refine ay ⟨by show (0:Int)<=(j:Int); omega,by show (j:Int)<_; omega⟩ (av hab ?_);rw [show Int.toNat (OK (some j))=j from Int.toNat_natCast j];refine az (sn'[j],()) hcb ?_;refine an ?_;have hjg:sn'[j]?=some sn'[j]:=WT hjs;cases hb:sn'[j] with
      | true =>
       rw [hb] at hjg;refine bZ rfl ?_;refine aF (cs:=[(false,[.bool]),(false,[.slice 0]),(false,[.int .i64])]) (b15,(p16,W.length,c18),((i+1:Nat):Int),()) (e.x.ai.length-(i+1)) rfl ad (Xa (fun z=>[Value.bool b15,.slice p16 W.length c18,Value.int .i64 z]) hw)
        ⟨W,sn',i+1,rfl,ad,rfl,hMM,e5,z5,sB5,sW5,I5.skip he hti (fun j' hj=>by rw [hq] at hj; cases hj; exact ⟨hj0,hjg⟩)⟩
      | false =>
       rw [hb] at hjg;refine bT rfl ?_;refine ay ⟨by show (0:Int)<=(j:Int); omega,by show (j:Int)<_; omega⟩ (av hab ?_);refine SL.store (P:=Tryz.prog) sB5 (i:=j) (by rw [WQ]; exact hjs) (vs:=[.bool true]) rfl rfl hab ?_;intro h6 sB6 k6 z6;rw [OF] at sB6;have hbb:∀ q,q∈aJ (some (⟨h.size,0,none⟩:ZC))->q=h.size:=fun q hq=>by simpa [aJ] using hq
       have sW6:=sW5.bF k6 (fun q hq hm=>by have:=(sW5.bY hq).1; have:=hbb q hm; omega);have e6:Ext h h6:=Ch.trans e5 k6 (fun q hq hl=>by have:=hbb q hq; omega);refine kh (vs:=Kf j) Df OJ rfl ad ad (CR _) rfl rfl sW6 ad ad ad ?_;intro p' c' h7 sW7 k7 hp7;have e7:Ext h h7:=Ch.trans e6 k7 (fun q hq hl=>by have:=(sW6.bY hq).1; omega);have sB7:=sB6.bF k7 (fun q hq hm=>by have:=hbb q hq; have:=(sW6.bY hm).1; omega);have hnf:=Kn sn' j hjg;refine aF (cs:=[(false,[.bool]),(false,[.slice 0]),(false,[.int .i64])]) (b15,(p',W.length+1,c'),((i+1:Nat):Int),()) (e.x.ai.length-(i+1)) rfl ad (Xa (fun z=>[Value.bool b15,.slice p' (W.length+1) c',Value.int .i64 z]) hw)
        ⟨W++[j],sn'.set j true,i+1,rfl,ad,rfl,by rw [WU]; show nF (sn'.set j true)+(W.length+1)+1=_; omega,e7,by have:=k7.size; omega,sB7,by rw [W5]; exact sW7,I5.push hn he hr hti hq hj0⟩
   ·have g2:=WS g2;refine aF (cs:=[(false,[.bool]),(false,[.slice 0])]) (b15,(p16,W.length,c18),()) (nF sn'+W.length) rfl (by rw [List.concat_eq_append,WU]; show nF sn'+W.length<nF sn+(W0.length+1); omega) rfl ⟨W,sn',rfl,ad,e5,z5,sB5,sW5,I5.done he ad⟩
 ·have g1:=WS g1;have hW:W=[]:=Yr.1 ad;subst hW;refine ⟨e3,?_⟩;rw [W4 (I3.no hn he0 rfl)]
noncomputable def S6 (es:List cE) (i:Nat):Bool:=by
 classical
 exact decide (∃ e,es[i]?=some e/\jT (da es) e.name)
theorem CJ {es:List cE} {i:Nat} {e:cE} (he:es[i]?=some e) {d:Decidable (jT (da es) e.name)}:decide (jT (da es) e.name)=S6 es i:=by
 unfold S6;refine YL.2 ⟨fun h=>⟨e,he,h⟩,?_⟩;rintro ⟨e',he',h⟩;rw [he] at he';cases he';exact h
noncomputable def kN (es:List cE) (n:Nat):List Nat:=(List.range n).filter (S6 es)
theorem Gx (es:List cE) (i:Nat):kN es (i+1)=kN es i++if S6 es i=true then [i] else []:=by
 unfold kN;rw [List.range_succ,List.filter_append]
 congr 1
 by_cases h:S6 es i=true <;> simp [h]
theorem JH (es:List cE) (i:Nat):(kN es i).length<=i:=by
 unfold kN
 have:=Yd (S6 es) (List.range i)
 simpa using this
theorem KY {h:Hp} {p:Option ZC} {l c:Nat} {es:List cE} (v:tH h p l es) (hn:(aS es).Nodup) (hl:es.length<=2^40) (ht:∀ e,e∈es->e.x.ai.length<=2^40) :
  HC Tryz.prog 93 #[.slice p l c] h fun w h'=>Ext h h'/\∃ p' l' c',w=.slice p' l' c'/\SL h' h.size 3 1 p' l' c' ((kN es es.length).map Kf):=by
 refine aX (args:=[.slice p l c]) mixed Tryz.func93 ax (mX p l c) ?_;unfold jH bg bq aU bh bd aM db;have hll:=v.len;refine aR (cs:=[(false,[.slice 0]),(false,[.int .i64])]) (fun y m h'=>∃ i:Nat,y.2.1=(i:Int)/\m=es.length-i/\i<=es.length/\Ext h h'/\SL h' h.size 3 1 y.1.1 y.1.2.1 y.1.2.2 ((kN es i).map Kf)) ((none,0,0),(0:Int),()) es.length rfl
  ⟨0,rfl,rfl,ad,Ch.refl _ _,SL.nil _ _ _ _⟩ ?_
 rintro ⟨⟨p1,l1,c1⟩,n4,⟨⟩⟩ m h1 ⟨i,hi,rfl,hle,e1,s1⟩;simp only at hi s1;subst hi;refine an ?_;have hl1:l1=(kN es i).length:=by have:=s1.1; rwa [WQ] at this
 have hbl:=JH es i;refine ak (fun q=>?_) (fun q=>?_)
 ·have q:=WR q;have hil:i<es.length:=ad
  have hw:IntKind.wrap .i64 ((i:Int)+1)=((i+1:Nat):Int):=by rw [wrap_i64 ad ad]; omega
  have he:=WT hil;have hbs:=Gx es i;refine aH (OW (c:=c) (v.ao e1) hn hl ht he) ?_;rintro _ h2 ⟨e2,rfl⟩;rw [CJ he];refine ⟨(S6 es i,()),rfl,?_⟩;refine an ?_;have s2:=s1.bF e2 aj;refine ak (fun r=>?_) (fun r=>?_)
  ·rw [W2 r] at hbs
   have:=(e1.trans e2).size
   refine kh (vs:=Kf i) Df OJ rfl ad ad (CR _) rfl rfl s2 ad ad ad ?_;intro p' c' h3 s3 k3 hp3;refine aF (cs:=[(false,[.slice 0]),(false,[.int .i64])]) ((p',l1+1,c'),((i+1:Nat):Int),()) (es.length-(i+1)) rfl ad (Xa (fun z=>[Value.slice p' (l1+1) c',Value.int .i64 z]) hw) ?_;exact ⟨i+1,rfl,rfl,ad,Ch.trans (e1.trans e2) k3 (fun j hj hl=>by have:=(s2.bY hj).1; omega),by rw [hbs,W5]; exact s3⟩
  ·rw [WV (by rw [r]; simp),XP] at hbs;refine aF (cs:=[(false,[.slice 0]),(false,[.int .i64])]) ((p1,l1,c1),((i+1:Nat):Int),()) (es.length-(i+1)) rfl ad (Xa (fun z=>[Value.slice p1 l1 c1,Value.int .i64 z]) hw) ?_;exact ⟨i+1,rfl,rfl,ad,e1.trans e2,by rw [hbs]; exact s2⟩
 ·have q:=WS q
  have:i=es.length:=ad
  subst this;exact ⟨e1,p1,l1,c1,rfl,s1⟩
noncomputable def dr (es:List cE):Option Nat:=by
 classical
 exact es.findIdx? fun e=>decide (jT (da es) e.name)
theorem Gz {es:List cE} {i:Nat} {r:List Nat} (h:kN es es.length=i::r):i<es.length/\dr es=some i:=by
 unfold kN at h;obtain ⟨l1,l2,h1,h2,h3,_⟩:=List.filter_eq_cons_iff.1 h;have hlen:es.length=l1.length+(l2.length+1):=by
  have:=Xa List.length h1
  simpa using this
 have hil:l1.length=i:=by
  have:=Xa (fun l:List Nat=>l[l1.length]?) h1
  simp only [List.getElem?_append_right (Nat.le_refl _),Nat.sub_self,List.getElem?_cons_zero] at this;rw [X4 ad] at this;exact Xc this
 subst hil;have hb:l1.length<es.length:=ad
 refine ⟨hb,?_⟩;unfold dr;rw [Xd];refine ⟨hb,?_,fun j hj=>?_⟩
 ·rw [CJ (WT hb)];exact h3
 ·rw [CJ (WT ad)];refine h2 j ?_
  have:=Xa (fun l:List Nat=>l[j]?) h1
  simp only [List.getElem?_append_left hj] at this;rw [X4 ad] at this;exact XD this.symm
theorem IH {es:List cE} (h:kN es es.length=[]):dr es=none:=by
 unfold kN at h;unfold dr;rw [Xp];intro e he;obtain ⟨i,hi⟩:=List.getElem?_of_mem he;rw [CJ hi]
 have:=List.filter_eq_nil_iff.1 h i (Yo.2 (W6.1 hi).1)
 simpa using this
def Q8 (of:ZA->Option bX):Nat->bX->bX
 | 0,x=>x
 | t+1,x=>cV of (Q8 of t x)
theorem rJ (of:ZA->Option bX):∀ (l:cU) (n:Nat),n<4294967296->l.foldl (fM of) n<4294967296
 | [],n,h=>h
 | t::l,n,h=>by
  rw [XI];refine rJ of l _ ?_;unfold fM;split
  ·exact h
  ·exact YY _ bU
structure rX (S:List ZA) (x:bX):Prop where
 nf:Nf x.ai
 num:x.num<4294967296
 fe:∀ t,t∈x.ai->t.1∈S
theorem rX.put {S:List ZA} {es:List cE} (hes:∀ e,e∈es->rX S e.x) {x:bX} (h:rX S x):rX S (cV (cj es) x) :=
 ⟨eF _ _,rJ _ _ _ h.num,Hk h.fe fun e he=>(hes e he).fe⟩
theorem rX.it {S:List ZA} {es:List cE} (hes:∀ e,e∈es->rX S e.x) {x:bX} (h:rX S x):∀ t,rX S (Q8 (cj es) t x)
 | 0=>h
 | t+1=>(rX.it hes h t).put hes
structure OH (B:Nat) (h0 h':Hp) (p:Option ZC) (l c:Nat) (es ms:List cE) (f:Nat->Nat):Prop where
 out:SL h' h0.size 88 3 p l c (ms.map zi)
 len:ms.length=es.length
 eq:∀ j e m,es[j]?=some e->ms[j]?=some m->m.name=e.name/\m.x=Q8 (cj es) (f j) e.x
 fe:∀ m,m∈ms->gn h' m.p m.l m.x.ai
 low:∀ m,m∈ms->∀ i,i∈aJ m.p->(B<=i/\i<h'.size)/\i∉aJ p
theorem Pe (ms:List cE) (i:Nat) (m:cE):(ms.map zi).set i (zi m)=(ms.set i m).map zi:=by rw [YN]
theorem OS {h:Hp} {p:Option ZC} {l:Nat} {es:List cE} (v:tH h p l es):(p=none/\es.map zi=[])\/∃ a,p=some a/\aG h a 0 (es.map zi).flatten:=by
 cases p with
 | none =>
  refine .inl ⟨rfl,?_⟩;cases es with
  | nil=>rfl
  | cons e es =>
   obtain ⟨a,ha,_⟩:=v.cells 0 aj;cases ha
 | some a =>
  refine .inr ⟨a,rfl,?_⟩
  have:=fD (h:=h) (a:=a) (sz:=3) (es.map zi) 0 (fun x hx=>by obtain ⟨e,_,rfl⟩:=WX.1 hx; rfl) (fun i hi=>by
   obtain ⟨a',ha,hc⟩:=v.cells i (by simpa using hi);cases ha;rw [WY,Xq];exact hc)
  rwa [YX] at this
theorem JM (e:cE):(zi e).all cP=true:=by unfold zi; simp [cP]
theorem GL (es:List cE):(es.map zi).flatten.all cP=true:=by
 rw [Xn];intro x hx;obtain ⟨l,hl,hxl⟩:=YM.1 hx;obtain ⟨e,_,rfl⟩:=WX.1 hl;exact Xn.1 (JM e) x hxl
theorem Ke {h:Hp} {p:Option ZC} {l c:Nat} {es:List cE} {B:Nat} (hB:B<=h.size) (v:tH h p l es) (hb:∀ e,e∈es->∀ i,i∈aJ e.p->B<=i/\i<h.size) (hn:(aS es).Nodup) (hl:es.length<=2^30) {S:List ZA} (hS:S.length<=2^30) (hes:∀ e,e∈es->rX S e.x) :
  HC Tryz.prog 64 #[.slice p l c] h fun w h'=>Ext h h'/\match dr es with
   | some i=>w=.tuple #[.slice none 0 0,.int .i64 (i:Int),.int .i64 24]
   | none=>∃ p' l' c' ms,w=.tuple #[.slice p' l' c',.int .i64 0,.int .i64 0]/\OH B h h' p' l' c' es ms (fun _=>es.length):=by
 refine aX (args:=[.slice p l c]) mixed Tryz.func64 ax (mF p l c) ?_;unfold iO aZ bg bq aK bG bh bd aM;have hll:=v.len;have hlt:∀ e,e∈es->e.x.ai.length<=2^40:=fun e he=>by have:=yx (hes e he).nf (hes e he).fe; omega
 refine aH (KY (c:=c) v hn ad hlt) ?_;rintro _ h1 ⟨e1,p1,l1,c1,rfl,s1⟩;refine ⟨((p1,l1,c1),()),rfl,?_⟩;refine an ?_;have hl1:l1=(kN es es.length).length:=by have:=s1.1; rwa [WQ] at this
 refine ak (fun g=>?_) (fun g=>?_)
 ·have g:=WR g;cases hbl:kN es es.length with
  | nil=>rw [hbl] at hl1; simp at hl1; omega
  | cons i r =>
   obtain ⟨hi,hf⟩:=Gz hbl;obtain ⟨a,rfl,hc⟩:=SL.cells s1 (i:=0) (by rw [WQ,hbl]; simp);have hc:aG h1 a 0 [.int .i64 (i:Int)]:=by
    rw [WY,YX,add_zero'] at hc;simp only [hbl,List.getElem_cons_zero] at hc;exact hc
   refine ay ⟨ad,ad⟩ (av rfl ?_);refine az ((i:Int),()) hc ?_;refine an ?_;refine ⟨⟨hc,trivial⟩,e1,?_⟩;rw [hf]
 ·have g:=WS g;have hbn:kN es es.length=[]:=Yr.1 ad;rw [IH hbn];refine lf (ys:=es.map zi) A6 Jf rfl (OS (v.ao e1)) (by rw [WQ]; exact hll) (fun y hy=>by obtain ⟨e,_,rfl⟩:=WX.1 hy; rfl) (GL es) ad ad ?_;intro p2 c2 h2 s2 e2;have z1:=e1.size;have e02:=e1.trans e2;have o0:OH B h h2 p2 l c2 es es fun _=>0:=⟨s2.mono z1,rfl,fun j e m he hm=>by rw [he] at hm; cases hm; exact ⟨rfl,rfl⟩,fun m hm=>(v.fe m hm).ao e02 aj,fun m hm i hi=>by
   have h1:=hb m hm i hi
   have:=e02.size
   exact ⟨⟨h1.1,ad⟩,fun hh=>by have:=(s2.bY hh).1; omega⟩⟩
  refine aR (cs:=[(false,[.int .i64])]) (fun y m h'=>∃ (t:Nat) (ms:List cE),y.1=(t:Int)/\m=es.length-t/\t<=es.length/\Ext h h'/\OH B h h' p2 l c2 es ms fun _=>t) ((0:Int),()) es.length rfl ⟨0,es,rfl,rfl,ad,e02,o0⟩ ?_;rintro ⟨n10,⟨⟩⟩ m3 h3 ⟨t,ms,hi,rfl,hle,e3,o3⟩;simp only at hi;subst hi;refine an ?_;refine ak (fun q=>?_) (fun q=>?_)
  ·have q:=WR q;have hwt:IntKind.wrap .i64 ((t:Int)+1)=((t+1:Nat):Int):=by rw [wrap_i64 ad ad]; omega
   refine aR (cs:=[(false,[.int .i64])]) (fun y m h'=>∃ (i:Nat) (ms:List cE),y.1=(i:Int)/\m=es.length-i/\i<=es.length/\Ext h h'/\OH B h h' p2 l c2 es ms fun j=>if j<i then t+1 else t) ((0:Int),()) es.length rfl ⟨0,ms,rfl,rfl,ad,e3,by simpa using o3⟩ ?_;rintro ⟨n11,⟨⟩⟩ m4 h4 ⟨i,ms4,hi,rfl,hle4,e4,o4⟩;simp only at hi;subst hi;refine an ?_;refine ak (fun r=>?_) (fun r=>?_)
   ·have r:=WR r;have hil:i<es.length:=ad
    have him:i<ms4.length:=by rw [o4.len]; exact hil
    have hwi:IntKind.wrap .i64 ((i:Int)+1)=((i+1:Nat):Int):=by rw [wrap_i64 ad ad]; omega
    obtain ⟨a,rfl,hc⟩:=SL.cells o4.out (i:=i) (by rw [WQ]; exact him);rw [WY] at hc;obtain ⟨hnm,hx⟩:=o4.eq i es[i] ms4[i] (WT hil) (WT him);have hmm:=WZ him;have hemm:=WZ hil;have vm:=o4.fe _ hmm;have lm:=o4.low _ hmm;rw [WV ad] at hx;have hmi:ms4[i]?=some ms4[i]:=WT him;have hei:es[i]?=some es[i]:=WT hil;generalize ms4[i]=m at hc hnm hx hmm vm lm hmi;generalize es[i]=e at hnm hx hemm hei;have hsx:rX S m.x:=by rw [hx]; exact rX.it hes (hes e hemm) t
    refine ay ⟨ad,ad⟩ (av rfl ?_);rw [show Int.toNat (i:Int)=i from ad];refine az ((m.p,m.l,m.c),(m.x.num:Int),()) ⟨by rw [add_add]; exact hc.2.1,by rw [add_add]; exact hc.2.2.1,trivial⟩ ?_;refine an ?_;have z4:=e4.size;refine aH (HR (c:=m.c) (d:=c) vm (v.ao e4) (fun j hj=>(lm j hj).1.2) (fun e he j hj=>by have:=hb e he j hj; omega) ad hsx.nf hsx.num (fun e he=>(hes e he).nf) hS hsx.fe fun e he=>(hes e he).fe) ?_;rintro _ h5 ⟨e5,p5,l5,c5,rfl,s5⟩;refine ⟨((p5,l5,c5),((cV (cj es) m.x).num:Int),()),rfl,?_⟩;refine an ?_;have z5:=e5.size;refine ay ⟨ad,ad⟩ (av rfl ?_);have so:=o4.out.bF e5 aj;refine SL.part (P:=Tryz.prog) so (i:=i) (by rw [WQ]; exact him) (vs:=[.slice p5 l5 c5,.int .u32 ((cV (cj es) m.x).num:Int)]) (o:=1) aj (by simp [cP]) rfl ?_;intro h6 s6 k6 z6;have hse:(ms4.map zi).set i (kM ((ms4.map zi)[i]'(by rw [WQ]; exact him)) 1 [.slice p5 l5 c5,.int .u32 ((cV (cj es) m.x).num:Int)])=(ms4.set i ⟨m.name,p5,l5,c5,cV (cj es) m.x⟩).map zi:=by
     rw [<- Pe]
     congr 1
     rw [WY]
     have:ms4[i]=m:=(W6.1 hmi).2
     rw [this] <;> rfl
    rw [hse] at s6;have hgb:∀ j,j∈aJ (some a)->h.size<=j/\j<h4.size:=fun j hj=>o4.out.bY hj
    have e6:Ext h h6:=Ch.trans (e4.trans e5) k6 (fun j hj hl=>by have:=hgb j hj; omega);refine aF (cs:=[(false,[.int .i64])]) (((i+1:Nat):Int),()) (es.length-(i+1)) rfl ad (Xa (fun z=>[Value.int .i64 z]) hwi) ⟨i+1,_,rfl,rfl,ad,e6,⟨s6,by rw [Ya]; exact o4.len,fun j e' m' he' hm'=>?_,fun m' hm'=>?_,fun m' hm' j hj=>?_⟩⟩
    ·by_cases hji:i=j
     ·subst hji;rw [YD him] at hm';cases hm';rw [hei] at he';cases he';refine ⟨hnm,?_⟩;rw [W2 ad];show cV (cj es) m.x=cV (cj es) (Q8 (cj es) t e.x);rw [hx]
     ·rw [Yp hji] at hm';obtain ⟨h1,h2⟩:=o4.eq j e' m' he' hm';refine ⟨h1,h2.trans ?_⟩
      by_cases hj2:j<i
      ·rw [W2 hj2,W2 ad]
      ·rw [WV hj2,WV ad]
    ·rcases X1 hm' with hm' | rfl
     ·exact ((o4.fe m' hm').ao e5 aj).ao k6 (fun j hj=>(o4.low m' hm' j hj).2)
     ·exact (s5.bF k6 (fun j hj hh=>by have:=(s5.bY hj).1; have:=hgb j hh; omega)).Rq
    ·rcases X1 hm' with hm' | rfl
     ·obtain ⟨h1,h2⟩:=o4.low m' hm' j hj;exact ⟨⟨h1.1,ad⟩,h2⟩
     ·obtain ⟨h1,h2⟩:=s5.bY hj;exact ⟨⟨ad,ad⟩,fun hh=>by have:=hgb j hh; omega⟩
   ·have r:=WS r
    have:i=es.length:=ad
    subst this;refine aF (cs:=[(false,[.int .i64])]) (((t+1:Nat):Int),()) (es.length-(t+1)) rfl ad (Xa (fun z=>[Value.int .i64 z]) hwt) ⟨t+1,ms4,rfl,rfl,ad,e4,⟨o4.out,o4.len,fun j e m he hm=>?_,o4.fe,o4.low⟩⟩;obtain ⟨h1,h2⟩:=o4.eq j e m he hm;rw [W2 (W6.1 he).1] at h2;exact ⟨h1,h2⟩
  ·have q:=WS q
   have:t=es.length:=ad
   subst this;exact ⟨e3,p2,l,c2,ms,rfl,o3⟩
theorem qv (s:ZA):∀ l:cU,fP (fun r=>if r=s then 1 else 0) l=cf l s
 | []=>rfl
 | p::l=>by
  rw [eN,eG,qv s l]
  congr 1
  split <;> simp
theorem nD:∀ l:cU,fP (fun _=>0) l=0
 | []=>rfl
 | p::l=>by rw [eN,nD l]; simp
theorem HA {x y:bX} (hx:Nf x.ai) (hy:Nf y.ai) (nx:x.num<4294967296) (ny:y.num<4294967296) (h:∀ f,jc f x=jc f y):x=y:=by
 have h0:=h fun _=>0
 unfold jc at h0;rw [nD,nD] at h0;have hn:x.num=y.num:=ad
 have ht:x.ai=y.ai:=hx.OZ hy fun s=>by
  have h1:=h fun r=>if r=s then 1 else 0
  unfold jc at h1;rw [qv,qv] at h1;omega
 obtain ⟨a,b⟩:=x;obtain ⟨c,d⟩:=y;simp only at hn ht;rw [hn,ht]
def Gf (of:ZA->Option bX) (f:ZA->Nat) (s:ZA):Nat:=match of s with
 | none=>f s
 | some y=>jc f y
theorem fp (of:ZA->Option bX) (f:ZA->Nat) (x:bX):jc f (cV of x)=jc (Gf of f) x:=N5 (fun s=>by unfold Gf; rfl) x
theorem Ah {f g:ZA->Nat}:∀ {l:cU},(∀ t,t∈l->f t.1=g t.1)->fP f l=fP g l
 | [],_=>rfl
 | p::l,h=>by rw [eN,eN,h p aj,Ah fun t ht=>h t (Xb _ ht)]
theorem oB {f g:ZA->Nat} {x:bX} (h:∀ t,t∈x.ai->f t.1=g t.1):jc f x=jc g x:=by
 unfold jc;rw [Ah h]
section
variable {own:ZA->Bool} {lin:ZA->bX}
def R5 (own:ZA->Bool) (lin:ZA->bX) (t:Nat) (s:ZA):Option bX:=if own s=true then some (qh own lin t s) else none
def xh (own:ZA->Bool) (lin:ZA->bX) (s:ZA):Option bX:=if own s=true then some (lin s) else none
theorem rB (t:Nat) (v:ZA):qh own lin (t+1) v=cV (R5 own lin t) (lin v):=rfl
theorem A8 (hnum:∀ v,own v=true->(lin v).num<4294967296):∀ (t:Nat) (v:ZA),own v=true->cV (xh own lin) (qh own lin t v)=qh own lin (t+1) v
 | 0,v,hv=>rfl
 | t+1,v,hv=>by
  rw [rB (t+1) v,rB t v];refine HA (eF _ _) (eF _ _) (rJ _ _ _ (rJ _ _ _ (hnum v hv))) (rJ _ _ _ (hnum v hv)) fun f=>?_
  rw [fp,fp,fp];refine oB fun u _=>?_
  generalize u.1=s;unfold Gf R5
  by_cases ho:own s=true
  ·rw [W2 ho,W2 ho];show jc (Gf (xh own lin) f) (qh own lin t s)=jc f (qh own lin (t+1) s);rw [<- A8 hnum t s ho,fp]
  ·rw [WV ho,WV ho];show (match xh own lin s with | none=>f s | some y=>jc f y)=f s;unfold xh;rw [WV ho]
theorem DO (hnum:∀ v,own v=true->(lin v).num<4294967296):∀ (t:Nat) (v:ZA),own v=true->Q8 (xh own lin) t (lin v)=qh own lin t v
 | 0,v,hv=>rfl
 | t+1,v,hv=>by
  show cV (xh own lin) (Q8 (xh own lin) t (lin v))=_;rw [DO hnum t v hv,A8 hnum t v hv]
end
theorem QK {es:List cE} (hn:(aS es).Nodup) (hnum:∀ e,e∈es->e.x.num<4294967296) {e:cE} (he:e∈es):Q8 (cj es) es.length e.x=eC es e.name:=by
 have hown:cm es e.name=true:=by
  unfold cm;cases hp:jO es e.name with
  | some k=>rfl
  | none =>
   unfold jO at hp;rw [Xp] at hp
   have:=hp e he
   simp at this
 have hnum':∀ v,cm es v=true->(cY es v).num<4294967296:=by
  intro v hv;unfold cm at hv;obtain ⟨k,hk⟩:=XJ.1 hv;obtain ⟨d,hd,hdn⟩:=uZ hk;rw [<- hdn,oD hn (XD hd)];exact hnum d (XD hd)
 have h1:=DO hnum' es.length e.name hown;rw [oD hn he] at h1;have h2:xh (cm es) (cY es)=cj es:=rfl;rw [h2] at h1;rw [h1];unfold eC H7 aS;rw [WQ]
def xV (K:Ky->Prop) (a b:Ky->ZA) (x y:bX):Prop:=∀ f g:ZA->Nat,(∀ k,K k->f (a k)=g (b k))->jc f x=jc g y
theorem xV.symm {K:Ky->Prop} {a b:Ky->ZA} {x y:bX} (h:xV K a b x y):xV K b a y x:=fun f g hh=>(h g f fun k hk=>(hh k hk).symm).symm
structure uK {δ:Type} (Q:List δ) (ky:δ->Ky) (K:Ky->Prop) (a b:Ky->ZA) (xa xb:δ->bX):Prop where
 nd:(Q.map ky).Nodup
 Ou:∀ q,q∈Q->K (ky q)
 ia:∀ k k',K k->K k'->a k=a k'->k=k'
 ib:∀ k k',K k->K k'->b k=b k'->k=k'
 Hv:∀ k,K k->k∉Q.map ky->a k=b k
 rel:∀ q,q∈Q->xV K a b (xa q) (xb q)
 fa:∀ q,q∈Q->Nf (xa q).ai
 fb:∀ q,q∈Q->Nf (xb q).ai
theorem uK.symm {δ:Type} {Q:List δ} {ky:δ->Ky} {K:Ky->Prop} {a b:Ky->ZA} {xa xb:δ->bX} (t:uK Q ky K a b xa xb):uK Q ky K b a xb xa :=
 ⟨t.nd,t.Ou,t.ib,t.ia,fun k hk hn=>(t.Hv k hk hn).symm,fun q hq=>(t.rel q hq).symm,t.fb,t.fa⟩
def wD {δ:Type} (Q:List δ) (ky:δ->Ky) (a:Ky->ZA) (xa:δ->bX):List (ZA × bX):=Q.map fun q=>(a (ky q),xa q)
theorem uk (D:List (ZA × bX)):Sx.aS (eE D)=D.map (·.1):=by
 have:=Xa (List.map (·.1)) (mf D)
 rw [Xf] at this;exact this
theorem rN {D:List (ZA × bX)} {s:ZA}:cm (eE D) s=true↔s∈D.map (·.1):=by rw [dV,uk]
theorem RL:∀ {l:cU} {t:ZA × Nat},Nf l->t∈l->cf l t.1=t.2
 | [],t,_,h=>by simp at h
 | p::l,t,n,h=>by
  rcases Xo.1 h with h | h
  ·subst h;exact n.lQ
  ·rw [eG,WV (jk (n.head t h)),Xq];exact RL n.tail h
theorem Mk {l:cU} (n:Nf l) {s:ZA}:s∈l.map (·.1)↔cf l s % 4294967296≠0:=by
 constructor
 ·intro h;obtain ⟨t,ht,rfl⟩:=WX.1 h;rw [RL n ht]
  have:=n.2 t ht
  omega
 ·intro h;apply Classical.byContradiction;intro k;exact h (by rw [yo fun p hp e=>k (WX.2 ⟨p,hp,e⟩)])
section
variable {δ:Type} {Q:List δ} {ky:δ->Ky} {K:Ky->Prop} {a b:Ky->ZA} {xa xb:δ->bX}
theorem Al:(wD Q ky a xa).map (·.1)=(Q.map ky).map a:=by
 unfold wD;rw [Xf,Xf] <;> rfl
theorem uK.TR (t:uK Q ky K a b xa xb):((wD Q ky a xa).map (·.1)).Nodup:=by
 rw [Al];have h:=t.nd;rw [Yg] at h ⊢;rw [XM];refine List.Pairwise.imp_of_mem ?_ h;intro k k' hk hk' hne e;obtain ⟨q,hq,rfl⟩:=WX.1 hk;obtain ⟨r,hr,rfl⟩:=WX.1 hk';exact hne (t.ia _ _ (t.Ou q hq) (t.Ou r hr) e)
theorem uK.own (t:uK Q ky K a b xa xb) {k:Ky} (hk:K k):cm (eE (wD Q ky a xa)) (a k)=true↔k∈Q.map ky:=by
 rw [rN,Al,WX];constructor
 ·rintro ⟨k',hk',e⟩;obtain ⟨q,hq,rfl⟩:=WX.1 hk';rw [<- t.ia _ _ (t.Ou q hq) hk e];exact hk'
 ·intro h;exact ⟨k,h,rfl⟩
theorem uK.lin (t:uK Q ky K a b xa xb) {q:δ} (hq:q∈Q):cY (eE (wD Q ky a xa)) (a (ky q))=xa q:=by
 have h2:(⟨a (ky q),none,0,0,xa q⟩:cE)∈eE (wD Q ky a xa):=WX.2 ⟨(a (ky q),xa q),WX.2 ⟨q,hq,rfl⟩,rfl⟩;exact oD (by rw [uk]; exact t.TR) h2
theorem xV.cf {x y:bX} (h:xV K a b x y) {k:Ky} (ha:∀ k',K k'->a k'=a k->k'=k) (hb:∀ k',K k'->b k'=b k->k'=k):cf x.ai (a k) % 4294967296=cf y.ai (b k) % 4294967296:=by
 have h0:=h (fun _=>0) (fun _=>0) fun _ _=>rfl
 have h1:=h (fun r=>if r=a k then 1 else 0) (fun r=>if r=b k then 1 else 0) fun k' hk'=>by
  by_cases e:k'=k
  ·subst e
   simp
  ·rw [WV fun x=>e (ha k' hk' x),WV fun x=>e (hb k' hk' x)]
 unfold jc at h0 h1;rw [nD,nD] at h0;rw [qv,qv] at h1;omega
theorem uK.Ud (t:uK Q ky K a b xa xb) {q r:δ} (hq:q∈Q) (hr:r∈Q) (h:da (eE (wD Q ky a xa)) (a (ky q)) (a (ky r))):da (eE (wD Q ky b xb)) (b (ky q)) (b (ky r)):=by
 obtain ⟨h1,h2⟩:=h;refine ⟨?_,(t.symm.own (t.Ou r hr)).2 (W7 hr)⟩;unfold cF at h1 ⊢;rw [t.lin hq,Mk (t.fa q hq)] at h1;rw [t.symm.lin hq,Mk (t.fb q hq)];rw [(t.rel q hq).cf (fun k' hk' e=>t.ia _ _ hk' (t.Ou r hr) e) (fun k' hk' e=>t.ib _ _ hk' (t.Ou r hr) e)] at h1;exact h1
theorem uK.Wr (t:uK Q ky K a b xa xb) {s u:ZA} (h:da (eE (wD Q ky a xa)) s u):∃ r,r∈Q/\u=a (ky r):=by
 have h2:=h.2;rw [rN,Al] at h2;obtain ⟨k,hk,rfl⟩:=WX.1 h2;obtain ⟨r,hr,rfl⟩:=WX.1 hk;exact ⟨r,hr,rfl⟩
theorem uK.Ri (t:uK Q ky K a b xa xb) {u v:ZA} (h:oL (da (eE (wD Q ky a xa))) u v):∀ q r,q∈Q->r∈Q->u=a (ky q)->v=a (ky r)->oL (da (eE (wD Q ky b xb))) (b (ky q)) (b (ky r)):=by
 induction h with
 | refl u =>
  intro q r hq hr e1 e2;rw [t.ia _ _ (t.Ou q hq) (t.Ou r hr) (e1.symm.trans e2)];exact .refl _
 | head e _ ih =>
  intro q r hq hr e1 e2;subst e1;obtain ⟨m,hm,rfl⟩:=t.Wr e;exact .head (t.Ud hq hm e) (ih m r hm hr rfl e2)
theorem uK.U8 (t:uK Q ky K a b xa xb) {q:δ} (hq:q∈Q) (h:jT (da (eE (wD Q ky a xa))) (a (ky q))):jT (da (eE (wD Q ky b xb))) (b (ky q)):=by
 obtain ⟨y,h1,h2⟩:=h;obtain ⟨m,hm,rfl⟩:=t.Wr h1;exact ⟨_,t.Ud hq hm h1,t.Ri h2 m q hm hq rfl rfl⟩
theorem uK.WC (t:uK Q ky K a b xa xb) {q:δ} (hq:q∈Q):jT (da (eE (wD Q ky a xa))) (a (ky q))↔jT (da (eE (wD Q ky b xb))) (b (ky q)):=⟨t.U8 hq,t.symm.U8 hq⟩
theorem uK.UY (t:uK Q ky K a b xa xb):mu (wD Q ky a xa)=dr (eE (wD Q ky b xb)):=by
 classical
 unfold mu dr;have h2:∀ D:List (ZA × bX),∀ P:ZA->Bool,(eE D).findIdx? (fun e=>P e.name)=D.findIdx? fun y=>P y.1:=by
  intro D P;unfold eE;rw [YI] <;> rfl
 have h3:=h2 (wD Q ky b xb) (fun s=>decide (jT (da (eE (wD Q ky b xb))) s));rw [h3];have key:∀ l:List δ,(∀ q,q∈l->q∈Q)->(l.map fun q=>(a (ky q),xa q)).findIdx? (fun y=>decide (jT (da (eE (wD Q ky a xa))) y.1))=(l.map fun q=>(b (ky q),xb q)).findIdx? (fun y=>decide (jT (da (eE (wD Q ky b xb))) y.1)):=by
  intro l
  induction l with
  | nil=>intro _; rfl
  | cons q l ih =>
   intro hl;rw [Xy,Xy,List.findIdx?_cons,List.findIdx?_cons,ih fun r hr=>hl r (Xb _ hr)];have h4:decide (jT (da (eE (wD Q ky a xa))) (a (ky q)))=decide (jT (da (eE (wD Q ky b xb))) (b (ky q))):=YL.2 (t.WC (hl q (Yn ..)));simp only [h4]
 exact key Q fun q hq=>hq
theorem uK.H7 (t:uK Q ky K a b xa xb):∀ (n:Nat) (q:δ),q∈Q->xV K a b (qh (cm (eE (wD Q ky a xa))) (cY (eE (wD Q ky a xa))) n (a (ky q))) (qh (cm (eE (wD Q ky b xb))) (cY (eE (wD Q ky b xb))) n (b (ky q)))
 | 0,q,hq=>by
  show xV K a b (cY (eE (wD Q ky a xa)) (a (ky q))) (cY (eE (wD Q ky b xb)) (b (ky q)));rw [t.lin hq,t.symm.lin hq];exact t.rel q hq
 | n+1,q,hq=>by
  intro f g hfg;rw [rB,rB,fp,fp,t.lin hq,t.symm.lin hq];refine t.rel q hq _ _ fun k hk=>?_
  unfold Gf R5
  by_cases hE:k∈Q.map ky
  ·rw [W2 ((t.own hk).2 hE),W2 ((t.symm.own hk).2 hE)];obtain ⟨r,hr,rfl⟩:=WX.1 hE;exact uK.H7 t n r hr f g hfg
  ·rw [WV fun h=>hE ((t.own hk).1 h),WV fun h=>hE ((t.symm.own hk).1 h)];exact hfg k hk
theorem Qv {D:List (ZA × bX)} (s:ZA):eC (eE D) s=qh (cm (eE D)) (cY (eE D)) D.length s:=by
 unfold eC H7;rw [uk,WQ]
theorem KH {D:List (ZA × bX)} (s:ZA):cm (eE (lL D)) s=cm (eE D) s:=by
 have h:(lL D).map (·.1)=D.map (·.1):=by
  unfold lL;rw [Xf] <;> rfl
 rw [Bool.eq_iff_iff,rN,rN,h]
theorem uI {D:List (ZA × bX)} (hn:(D.map (·.1)).Nodup) (s:ZA):cj (eE (lL D)) s=if cm (eE D) s=true then some (eC (eE D) s) else none:=by
 unfold cj;rw [KH]
 by_cases h:cm (eE D) s=true
 ·rw [W2 h,W2 h];rw [rN] at h;obtain ⟨y,hy,rfl⟩:=WX.1 h;have h0:(lL D).map (·.1)=D.map (·.1):=by
   unfold lL;rw [Xf] <;> rfl
  have h2:(⟨y.1,none,0,0,eC (eE D) y.1⟩:cE)∈eE (lL D):=WX.2 ⟨(y.1,eC (eE D) y.1),WX.2 ⟨y,hy,rfl⟩,rfl⟩;exact Xa some (oD (by rw [uk,h0]; exact hn) h2)
 ·rw [WV h,WV h]
theorem uK.put (t:uK Q ky K a b xa xb) {x y:bX} (h:xV K a b x y):xV K a b (uY (lL (wD Q ky a xa)) x) (uY (lL (wD Q ky b xb)) y):=by
 intro f g hfg;unfold uY;rw [fp,fp];refine h _ _ fun k hk=>?_
 unfold Gf;rw [uI t.TR,uI t.symm.TR]
 by_cases hE:k∈Q.map ky
 ·rw [W2 ((t.own hk).2 hE),W2 ((t.symm.own hk).2 hE)];obtain ⟨r,hr,rfl⟩:=WX.1 hE;have e1:(wD Q ky a xa).length=Q.length:=by unfold wD; rw [WQ]
  have e2:(wD Q ky b xb).length=Q.length:=by unfold wD; rw [WQ]
  simp only [Qv,e1,e2];exact t.H7 Q.length r hr f g hfg
 ·rw [WV fun h=>hE ((t.own hk).1 h),WV fun h=>hE ((t.symm.own hk).1 h)];exact hfg k hk
theorem Hn {D:List (ZA × bX)} (hn:(D.map (·.1)).Nodup) (hc:∀ v,¬ jT (da (eE D)) v) {x:bX}:∀ u,u∈(uY (lL D) x).ai->cm (eE D) u.1=false:=by
 intro u hu;unfold uY at hu;rcases rT hu with ⟨p,hp,e,ho⟩ | ⟨p,y,v,hp,ho,hv,e⟩
 ·rw [uI hn] at ho;cases hb:cm (eE D) u.1 with
  | false=>rfl
  | true=>rw [W2 hb] at ho; cases ho
 ·rw [uI hn] at ho
  by_cases hb:cm (eE D) p.1=true
  ·rw [W2 hb] at ho;have ho:=Xc ho;subst ho
   have:=(wZ (own:=cm (eE D)) (lin:=cY (eE D)) (names:=Sx.aS (eE D)) (fun s=>dV _ s) hc ((dV _ _).1 hb) v hv).1
   rw [<- e];exact this
  ·rw [WV hb] at ho; cases ho
theorem NO {D:List (ZA × bX)} (h:mu D=none):∀ v,¬ jT (da (eE D)) v:=by
 classical
 intro v hv;unfold mu at h;rw [Xp] at h;have key:∃ u,cm (eE D) u=true/\jT (da (eE D)) u:=by
  obtain ⟨y,h1,h2⟩:=hv;refine ⟨y,h1.2,?_⟩;have h3:oL (da (eE D)) v y:=.one h1;cases h2 with
  | refl=>exact ⟨_,h1,.refl _⟩
  | head e r=>exact ⟨_,e,r.trans h3⟩
 obtain ⟨u,h1,h2⟩:=key;rw [rN] at h1;obtain ⟨q,hq,rfl⟩:=WX.1 h1
 have:=h q hq
 exact absurd h2 (WS this)
theorem uK.same (t:uK Q ky K a b xa xb) (hc:mu (wD Q ky a xa)=none) {x y:bX} (h:xV K a b x y) (hx:x.num<4294967296) (hy:y.num<4294967296):uY (lL (wD Q ky a xa)) x=uY (lL (wD Q ky b xb)) y:=by
 classical
 have ca:=NO hc;have cb:∀ v,¬ jT (da (eE (wD Q ky b xb))) v:=NO (by
  have h1:=t.UY;have h2:=t.symm.UY;rw [hc] at h1
  have:mu (wD Q ky b xb)=dr (eE (wD Q ky b xb)):=by
   unfold mu dr eE;rw [YI] <;> rfl
  rw [this,<- h1])
 refine HA (eF _ _) (eF _ _) (kE hx) (kE hy) fun f=>?_
 have e1:jc f (uY (lL (wD Q ky a xa)) x)=jc (fun s=>if cm (eE (wD Q ky a xa)) s=true then 0 else f s) (uY (lL (wD Q ky a xa)) x):=oB fun u hu=>by
  rw [Hn t.TR ca u hu] <;> rfl
 have e2:jc f (uY (lL (wD Q ky b xb)) y)=jc (fun s=>if cm (eE (wD Q ky b xb)) s=true then 0 else f s) (uY (lL (wD Q ky b xb)) y):=oB fun u hu=>by
  rw [Hn t.symm.TR cb u hu] <;> rfl
 rw [e1,e2];refine t.put h _ _ fun k hk=>?_
 by_cases hE:k∈Q.map ky
 ·rw [W2 ((t.own hk).2 hE),W2 ((t.symm.own hk).2 hE)]
 ·rw [WV fun h=>hE ((t.own hk).1 h),WV fun h=>hE ((t.symm.own hk).1 h),t.Hv k hk hE]
end
theorem Ig {h:Hp} {p:Option ZC} {l c:Nat} {xs:List ZA} (n:l=xs.length) (hc:∀ i,(hi:i<xs.length)->∃ a,p=some a/\aG h (a.add (i*1)) 0 [.string xs[i]]) (hl:xs.length<=2^61) (s:ZA):vM Tryz.prog 38 [.slice p l c,.string s] h (.bool (fz xs s)):=by
 refine ee mixed Tryz.func38 ax (iU p l c s) ?_;unfold gJ aZ bg bq aK bt dH aM cd;refine aR (cs:=[(false,[.bool]),(false,[.int .i64])]) (fun y m h'=>∃ i:Nat,y.2.1=(i:Int)/\m=xs.length-i/\i<=xs.length/\h'=h/\fz (xs.take i) s=false) (false,(0:Int),()) xs.length rfl
  ⟨0,rfl,rfl,ad,rfl,rfl⟩ ?_
 rintro ⟨b2,n3,⟨⟩⟩ m h' ⟨i,hi,rfl,hle,rfl,hn⟩;simp only at hi;subst hi;refine an ?_;refine ak (fun q=>?_) (fun q=>?_)
 ·have q:=WR q;have hil:i<xs.length:=ad
  obtain ⟨a,ha,hca⟩:=hc i hil;refine ay ⟨ad,ad⟩ (av ha ?_);rw [show Int.toNat (i:Int)=i from ad];refine az (xs[i],()) hca ?_;refine an ?_;have hs:=U' xs s i hil;rw [ph];refine ak (fun r=>?_) (fun r=>?_)
  ·have r:=WR r;refine ⟨Xa Value.bool ?_,rfl⟩;unfold fz;exact (YB.2 ⟨_,WZ hil,W1 r⟩).symm
  ·rw [hn,r] at hs;refine aF (cs:=[(false,[.bool]),(false,[.int .i64])]) (b2,((i+1:Nat):Int),()) (xs.length-(i+1)) rfl ad (by rw [wrap_i64 ad ad]; rfl) ?_;exact ⟨i+1,rfl,rfl,ad,rfl,hs⟩
 ·have q:=WS q
  have:i=xs.length:=ad
  subst this;rw [XG] at hn;exact ⟨by rw [hn],rfl⟩
def fU (us:List bJ) (n:Nat) (s:ZA):Option Nat :=
 if (us[n]?.map fun u=>fz (ek u) s)=some true then some n else us.findIdx? fun u=>fz u.aP s
structure J2 (us:List bJ):Prop where
 many:us.length<=2^20
 text:∀ u,u∈us->u.text.length<=2^20
 data:∀ u,u∈us->u.data.length<=2^20
 aY:∀ u,u∈us->u.aY.length<=2^20
theorem Fj {h:Hp} {p:Option ZC} {l c:Nat} {us:List bJ} (v:uz h p l us) (sz:J2 us) {n:Nat} (hn:n<us.length) (s:ZA) :
  HC Tryz.prog 69 #[.slice p l c,.int .i64 (n:Int),.string s] h fun w h'=>w=.int .i64 (OK (fU us n s))/\Ext h h':=by
 refine aX (args:=[.slice p l c,.int .i64 (n:Int),.string s]) mixed Tryz.func69 ax (mK p l c n s) ?_;unfold iP aZ bg bq aK aU bG aM;have hll:=v.len;have hmany:=sz.many;have hug:us[n]?=some us[n]:=WT hn;obtain ⟨a,sa,sb,sc,sd,rfl,hc,va⟩:=v.cells n hn;have hm:=WZ hn;generalize us[n]=u at hug hc va hm;refine ay ⟨ad,ad⟩ (av rfl ?_);rw [show Int.toNat (n:Int)=n from ad];refine az ((sa.p,sa.l,sa.c),(sb.p,sb.l,sb.c),(sc.p,sc.l,sc.c),(sd.p,sd.l,sd.c),()) hc ?_;refine an ?_;refine aH (Nn va (sz.text u hm) (sz.data u hm) (sz.aY u hm)) ?_;rintro _ h1 ⟨p1,l1,c1,rfl,s1,e1⟩;refine ⟨((p1,l1,c1),()),rfl,?_⟩;refine an ?_;have hal:(ek u).length<=2^61:=by
  have h1:=sz.text u hm;have h2:=sz.data u hm;have h3:=sz.aY u hm;unfold ek dL;rw [WU,WU,WQ,WQ,WQ];have h4:=Yd (fun x:cB=>decide (x.kind=1)) u.text;have h5:=Yd (fun x:cB=>decide (x.kind=1)) u.data;omega
 refine aI (CL s1 hal s) ?_;refine ak (fun q=>?_) (fun q=>?_)
 ·refine ⟨?_,e1⟩;unfold fU;rw [hug,YQ,q,W2 rfl] <;> rfl
 ·have ho:fU us n s=us.findIdx? fun u=>fz u.aP s:=by
   unfold fU;rw [hug,YQ,q,WV aj]
  rw [ho];refine aR (cs:=[(false,[.int .i64]),(false,[.int .i64])]) (fun y m h'=>∃ i:Nat,y.2.1=(i:Int)/\m=us.length-i/\i<=us.length/\h'=h1/\∀ j,j<i->(hj:j<us.length)->fz us[j].aP s=false) ((0:Int),(0:Int),()) us.length rfl
   ⟨0,rfl,rfl,ad,rfl,fun j hj=>absurd hj ad⟩ ?_
  rintro ⟨n2,n3,⟨⟩⟩ m h' ⟨i,hi,rfl,hle,rfl,hno⟩;simp only at hi;subst hi;refine an ?_;refine ak (fun q=>?_) (fun q=>?_)
  ·have q:=WR q;have hil:i<us.length:=ad
   obtain ⟨a',ta,tb,tc,td,ha',hc',va'⟩:=(v.ao e1).cells i hil;refine ay ⟨ad,ad⟩ (av ha' ?_);rw [show Int.toNat (i:Int)=i from ad];refine az ((td.p,td.l,td.c),()) ⟨by rw [add_add]; exact hc'.2.2.2.1,trivial⟩ ?_;refine an ?_;refine aI (Ig va'.aP.len (fun j hj=>by
    obtain ⟨a,ha,hc,_⟩:=va'.aP.cells j hj;exact ⟨a,ha,hc⟩) (by have:=va'.aP.many; omega) s) ?_
   refine ak (fun r=>?_) (fun r=>?_)
   ·refine ⟨?_,e1⟩;rw [show us.findIdx? (fun u=>fz u.aP s)=some i from by
     rw [Xd];exact ⟨hil,r,fun j hj=>by rw [hno j hj ad]; simp⟩]
    rfl
   ·refine aF (cs:=[(false,[.int .i64]),(false,[.int .i64])]) (n2,((i+1:Nat):Int),()) (us.length-(i+1)) rfl ad (by rw [wrap_i64 ad ad]; rfl) ?_;exact ⟨i+1,rfl,rfl,ad,rfl,fun j hj hx=>by
     by_cases e:j=i
     ·subst e; exact r
     ·exact hno j ad hx⟩
  ·have q:=WS q
   have:i=us.length:=ad
   subst this;refine ⟨?_,e1⟩;rw [show us.findIdx? (fun u=>fz u.aP s)=none from by
    rw [Xp];intro u hu;obtain ⟨j,hj,rfl⟩:=Xg hu;exact hno j hj hj]
   rfl
def oI (n sec:Nat):Nat->List cB->List Lb
 | _,[]=>[]
 | i,x::l=>(if x.kind=1 then [⟨n,sec,i,x.name⟩] else [])++oI n sec (i+1) l
def uJ (n:Nat) (u:bJ):List Lb:=oI n 0 0 u.text++oI n 1 0 u.data
def bC:Nat->List bJ->List Lb
 | _,[]=>[]
 | n,u::us=>uJ n u++bC (n+1) us
def ya (x:Lb):Ky:=(x.u,x.n)
def jI (q:Nat × qi):Ky:=(q.1,q.2.1)
def mM (l:List Ky) (k:Ky):Option Nat:=l.findIdx? fun x=>decide (x=k)
theorem nM {l:List Ky} {k:Ky}:mM l k=none↔k∉l:=by
 unfold mM;rw [Xp];constructor
 ·intro h hk
  have:=h k hk
  simp at this
 ·intro h x hx;exact W4 fun e=>h (e▸hx)
theorem jl {l:List Ky} {k:Ky} {i:Nat} (h:mM l k=some i):∃ hi:i<l.length,l[i]=k:=by
 unfold mM at h;rw [Xd] at h;obtain ⟨h1,h2,_⟩:=h;exact ⟨h1,WR h2⟩
theorem zx {l:List Ky} {k:Ky} (h:k∈l):∃ i,mM l k=some i:=by
 cases hk:mM l k with
 | some i=>exact ⟨i,rfl⟩
 | none=>exact absurd h (nM.1 hk)
theorem BR {l:List Ky} {y:Ky} (hn:y∉l):mM (l++[y])=x7 (mM l) y l.length:=by
 funext k
 unfold x7
 by_cases hk:k=y
 ·subst hk;rw [W2 rfl];have h0:=nM.2 hn;unfold mM at h0 ⊢;rw [Yy,h0]
  simp
 ·rw [WV hk];unfold mM;rw [Yy]
  have:decide (y=k)=false:=W4 fun e=>hk e.symm
  simp [List.findIdx?_cons,this]
structure WI (w:LW) (L:List Lb) (E:List Ky):Prop where
 lb:w.lb=L
 num:w.num=mM (L.map ya)
 sD:w.sD=mM E
 ne:w.ne=E.length
theorem WI.Hv {w:LW} {L:List Lb} {E:List Ky} (i0:WI w L E) {n sec:Nat}:∀ (l:List cB) (i:Nat) {w:LW} {L:List Lb} (i0:WI w L E) (hn:(dL l).Nodup) (hd:∀ s,s∈dL l->(n,s)∉L.map ya),WI (ig n sec i l w) (L++oI n sec i l) E
 | [],i,w,L,i0,hn,hd=>by simpa [ig,oI] using i0
 | x::l,i,w,L,i0,hn,hd=>by
  rw [rL] at hn hd;rw [ig,oI,<- Xh]
  by_cases hk:x.kind=1
  ·simp only [hk,if_true,List.singleton_append,List.nodup_cons,List.mem_cons] at hn hd;have hx:=hd x.name (.inl rfl);refine WI.Hv i0 l (i+1) ?_ hn.2 (fun s hs=>?_)
   ·unfold je;rw [W2 hk,W2 hk];refine ⟨by show w.lb++_=_; rw [i0.lb],?_,i0.sD,i0.ne⟩;show x7 w.num (n,x.name) w.lb.length=_;rw [W5,List.map_singleton];show _=mM (L.map ya++[(n,x.name)]);rw [BR hx,i0.num,i0.lb,WQ]
   ·rw [W2 hk,W5,Xj];rintro (h | h)
    ·exact hd s (.inr hs) h
    ·have:(n,s)=(n,x.name):=by simpa [ya] using h
     have:s=x.name:=(Ys this).2
     exact hn.1 (this▸hs)
  ·simp only [hk,if_false,List.nil_append] at hn hd;rw [WV hk,XP];refine WI.Hv i0 l (i+1) ?_ hn hd;unfold je;rw [WV hk];exact i0
theorem WI.eqs {L:List Lb} {n:Nat}:∀ (l:List qi) {w:LW} {E:List Ky} (i0:WI w L E) (hn:(l.map (·.1)).Nodup) (hd:∀ s,s∈l.map (·.1)->(n,s)∉E),WI (l.foldl (uo n) w) L (E++l.map fun e=>(n,e.1))
 | [],w,E,i0,hn,hd=>by simpa using i0
 | x::l,w,E,i0,hn,hd=>by
  simp only [List.map_cons,List.nodup_cons,List.mem_cons] at hn hd;have hx:=hd x.1 (.inl rfl);rw [XI,Xy,show E++(n,x.1)::l.map (fun e=>(n,e.1))=(E++[(n,x.1)])++l.map fun e=>(n,e.1) from aj];refine WI.eqs l ?_ hn.2 (fun s hs=>?_)
  ·refine ⟨i0.lb,i0.num,?_,?_⟩
   ·show x7 w.sD (n,x.1) w.ne=_;rw [BR hx,i0.sD,i0.ne]
   ·show (if (w.sD (n,x.1)).isSome then w.ne else w.ne+1)=_;rw [i0.sD,nM.2 hx,WU,i0.ne] <;> rfl
  ·rw [Xj];rintro (h | h)
   ·exact hd s (.inr hs) h
   ·have:(n,s)=(n,x.1):=by simpa using h
    have:s=x.1:=(Ys this).2
    exact hn.1 (this▸hs)
theorem re (n sec:Nat):∀ (l:List cB) (i:Nat),(oI n sec i l).map ya=(dL l).map fun s=>(n,s)
 | [],i=>rfl
 | x::l,i=>by
  rw [oI,rL,W5,W5,re n sec l (i+1)]
  by_cases hk:x.kind=1 <;> simp [hk,ya]
theorem WI.Wy {w:LW} {L:List Lb} {E:List Ky} {n:Nat} (i0:WI w L E) {u:bJ} (hn:(ek u).Nodup) (h1:∀ k,k∈L.map ya->k.1<n) (h2:∀ k,k∈E->k.1<n):WI (Fe n u w) (L++uJ n u) (E++u.aY.map fun e=>(n,e.1)):=by
 unfold ek at hn;rw [X6,X6] at hn;obtain ⟨⟨n1,n2,n3⟩,n4,n5⟩:=hn;unfold Fe uJ;rw [<- Xh];refine WI.eqs _ (WI.Hv i0 _ _ (WI.Hv i0 _ _ i0 n1 (fun s hs h=>by have:=h1 _ h; simp at this)) n2 (fun s hs h=>?_)) n4 (fun s hs h=>by have:=h2 _ h; simp at this);rw [W5,Xj] at h;rcases h with h | h
 ·have:=h1 _ h; simp at this
 ·rw [re] at h;obtain ⟨t,ht,he⟩:=WX.1 h
  have:t=s:=(Ys he).2
  exact n3 t ht s hs this
theorem WI.wH:∀ (us:List bJ) (n:Nat) {w:LW} {L:List Lb} {E:List Ky} (i0:WI w L E) (hn:∀ u,u∈us->(ek u).Nodup) (h1:∀ k,k∈L.map ya->k.1<n) (h2:∀ k,k∈E->k.1<n),WI (my n us w) (L++bC n us) (E++(dX n us).map jI)
 | [],n,w,L,E,i0,hn,h1,h2=>by simpa [my,bC,dX] using i0
 | u::us,n,w,L,E,i0,hn,h1,h2=>by
  rw [my,bC,dX,W5,<- Xh,<- Xh];have he:(u.aY.map fun e=>(n,e)).map jI=u.aY.map fun e=>(n,e.1):=by rw [Xf]; rfl
  rw [he];refine WI.wH us (n+1) (WI.Wy i0 (hn u aj) h1 h2) (fun v hv=>hn v (by simp [hv])) (fun k hk=>?_) (fun k hk=>?_)
  ·rw [W5,Xj] at hk;rcases hk with hk | hk
   ·have:=h1 _ hk; omega
   ·unfold uJ at hk;rw [W5,re,re,<- W5] at hk;obtain ⟨s,_,rfl⟩:=WX.1 hk;show n<n+1;omega
  ·rcases Xj.1 hk with hk | hk
   ·have:=h2 _ hk; omega
   ·obtain ⟨s,_,rfl⟩:=WX.1 hk;show n<n+1;omega
theorem wW {u:bJ} (h:dC u=0):(ek u).Nodup:=by
 have h1:=(vW h).2;rw [wg] at h1;unfold wQ at h1;simp only [Bool.and_eq_true,decide_eq_true_eq] at h1;exact h1.2.2.2.1
theorem Q1 {us:List bJ} (hr:∀ u,u∈us->dC u=0):WI (my 0 us Rb) (bC 0 us) ((dX 0 us).map jI):=by
 have:=WI.wH us 0 (w:=Rb) (L:=[]) (E:=[]) ⟨rfl,rfl,rfl,rfl⟩ (fun u hu=>wW (hr u hu)) aj aj
 simpa using this
theorem NY {n:Nat} {u:bJ} {w:LW}:(EL n u w).lb=w.lb/\(EL n u w).num=w.num/\(EL n u w).sD=w.sD/\(EL n u w).ne=w.ne:=by
 have h:=K7 n u.aP w;exact ⟨h.1,h.2.1,h.2.2.2.1,h.2.2.2.2⟩
theorem AY:∀ (us:List bJ) (n:Nat) (w w':LW),j4 n us w=.ok w'->w'.lb=w.lb/\w'.num=w.num/\w'.sD=w.sD/\w'.ne=w.ne
 | [],n,w,w',h=>by
  unfold j4 at h;cases h;exact ⟨rfl,rfl,rfl,rfl⟩
 | u::us,n,w,w',h=>by
  rw [j4] at h;split at h
  ·cases h
  ·have h1:=AY us (n+1) _ w' h;have h2:=NY (n:=n) (u:=u) (w:=w);exact ⟨h1.1.trans h2.1,h1.2.1.trans h2.2.1,h1.2.2.1.trans h2.2.2.1,h1.2.2.2.trans h2.2.2.2⟩
theorem WI.meet {us:List bJ} {n:Nat} {w w':LW} {L:List Lb} {E:List Ky} (i0:WI w L E) (h:j4 n us w=.ok w'):WI w' L E:=by
 have:=AY us n w w' h
 exact ⟨this.1.trans i0.lb,this.2.1.trans i0.num,this.2.2.1.trans i0.sD,this.2.2.2.trans i0.ne⟩
theorem WI.IM {w:LW} {L:List Lb} {E:List Ky} (i0:WI w L E) (h1:L.length<=2^50) (h2:E.length<=2^50):Oi w:=by
 refine ⟨fun k i h=>?_,fun k i h=>?_⟩
 ·rw [i0.num] at h;obtain ⟨hi,_⟩:=jl h;rw [WQ] at hi;omega
 ·rw [i0.sD] at h;obtain ⟨hi,_⟩:=jl h;omega
theorem Iw (u:Nat):(Lib.decDigits u).foldl (fun a b=>a*10+(b.toNat-48)) 0=u:=by
 induction u using Nat.strongRecOn with
 | ind u ih =>
  rw [Lib.decDigits];split
  ·next h =>
   have h1:(UInt8.ofNat (48+u)).toNat=48+u:=by rw [UInt8.toNat_ofNat']; omega
   simp only [List.foldl_cons,List.foldl_nil,h1];omega
  ·next h =>
   have h1:(UInt8.ofNat (48+u % 10)).toNat=48+u % 10:=by rw [UInt8.toNat_ofNat']; omega
   rw [XV,ih (u / 10) ad];simp only [List.foldl_cons,List.foldl_nil,h1];omega
theorem vV (n:Nat):lW n=⟨(Lib.decDigits n).toArray⟩:=by
 unfold lW;rw [Lib.itoa_nonneg]
theorem rz {m n:Nat} (h:lW m=lW n):m=n:=by
 rw [vV,vV] at h;have h1:Lib.decDigits m=Lib.decDigits n:=by
  have:=Xa (fun b:ZA=>b.data.toList) h
  simpa using this
 rw [<- Iw m,h1,Iw]
theorem eh (a b:ZA):(a++b).data.toList=a.data.toList++b.data.toList:=by
 rw [ByteArray.data_append,Array.toList_append]
theorem ug {a b c:ZA} (h:a++b=a++c):b=c:=by
 have h1:=Xa (fun b:ZA=>b.data.toList) h;simp only [eh] at h1;have h2:=List.append_cancel_left h1;cases b; cases c;simp only at h2
 congr 1
 exact Array.ext' h2
theorem word_inj {w:LW} {L:List Lb} {E:List Ky} (i0:WI w L E) {k k':Ky} (hk:k∈L.map ya\/k∈E) (hk':k'∈L.map ya\/k'∈E) (h:w.word k=w.word k'):k=k':=by
 have hne:∀ a b:ZA,(⟨#[76]⟩:ZA)++a≠(⟨#[69]⟩:ZA)++b:=by
  intro a b e;have h1:=Xa (fun b:ZA=>b.data.toList) e;simp only [eh] at h1;simp at h1
 have hg:∀ {k:Ky},k∈L.map ya\/k∈E->w.num k=none->∃ i,w.sD k=some i/\∃ hi:i<E.length,E[i]=k:=by
  intro k hk hn;rw [i0.num] at hn
  have:=nM.1 hn
  have hk:k∈E:=hk.elim (fun h=>absurd h this) id;obtain ⟨i,hi⟩:=zx hk;exact ⟨i,by rw [i0.sD]; exact hi,jl hi⟩
 unfold LW.word at h;cases h1:w.num k with
 | some i =>
  cases h2:w.num k' with
  | some j =>
   rw [h1,h2] at h
   have:=rz (ug h)
   subst this;rw [i0.num] at h1 h2;obtain ⟨a,ha⟩:=jl h1;obtain ⟨b,hb⟩:=jl h2;rw [<- ha,<- hb]
  | none =>
   rw [h1,h2] at h;exact absurd h (hne _ _)
 | none =>
  obtain ⟨i,h3,hi,hie⟩:=hg hk h1;cases h2:w.num k' with
  | some j =>
   rw [h1,h2] at h;exact absurd h.symm (hne _ _)
  | none =>
   obtain ⟨j,h4,hj,hje⟩:=hg hk' h2;rw [h1,h2] at h;simp only [h3,h4,Option.getD_some] at h
   have:=rz (ug h)
   subst this;rw [<- hie,<- hje]
theorem Bj {w:LW} (b:Oi w) (k:Ky):(w.word k).size<=maxLen:=by
 have hml:2000<=maxLen:=bU
 unfold LW.word;cases h:w.num k with
 | some n =>
  have:=lC (n:=n) (by have:=b.n _ _ h; omega)
  show (_++_:ZA).size<=_;rw [Yl]
  have:(⟨#[76]⟩:ZA).size=1:=rfl
  omega
 | none =>
  have h1:(w.sD k).getD 0<=2^60:=by
   cases h2:w.sD k with
   | none=>simp
   | some i=>have:=b.e _ _ h2; simp; omega
  have:=lC h1
  show (_++_:ZA).size<=_;rw [Yl]
  have:(⟨#[69]⟩:ZA).size=1:=rfl
  omega
theorem Ab {w:LW} {u:Nat} {x:bX} (h:w.bad u x=none):∀ t,t∈x.ai->∃ k,w.own u t.1=some k:=by
 unfold LW.bad at h;rw [Option.map_eq_none_iff,List.find?_eq_none] at h;intro t ht
 have:=h t ht
 cases ho:w.own u t.1 with
 | none=>rw [ho] at this; simp at this
 | some k=>exact ⟨k,rfl⟩
theorem Ip {w:LW} {u:Nat} {x:bX} (h:w.bad u x=none):∀ t,t∈(w.lin u x).ai->∃ p k,p∈x.ai/\w.own u p.1=some k/\t.1=w.word k:=by
 intro t ht;have hb:=Ab h;rcases rT ht with ⟨p,hp,he,ho⟩ | ⟨p,y,v,hp,ho,hv,he⟩
 ·obtain ⟨k,hk⟩:=hb p hp;rw [he] at hk;rw [hk] at ho;cases ho
 ·obtain ⟨k,hk⟩:=hb p hp;rw [hk] at ho;simp only [Option.map_some,Option.some.injEq] at ho;subst ho;refine ⟨p,k,hp,hk,?_⟩;rw [<- he]
  have:v=(w.word k,1):=by simpa [kU] using hv
  rw [this]
theorem yh {w:LW} {u:Nat} {x:bX} (h:w.bad u x=none):(w.lin u x).ai.length<=x.ai.length:=by
 have hnf:Nf (w.lin u x).ai:=eF _ _;have h1:((w.lin u x).ai.map (·.1)).Nodup:=XM.2 (hnf.1.imp fun h=>jk h);have h2:=jy ((w.lin u x).ai.map (·.1)) (x.ai.map fun t=>w.word ((w.own u t.1).getD (0,dt))) h1 (fun s hs=>by
  obtain ⟨t,ht,rfl⟩:=WX.1 hs;obtain ⟨p,k,hp,hk,he⟩:=Ip h t ht;rw [he];refine WX.2 ⟨p,hp,?_⟩;rw [hk];rfl)
 rwa [WQ,WQ] at h2
theorem Mp {w:LW} (b:Oi w) {u:Nat} {x:bX} (h:w.bad u x=none):∀ t,t∈(w.lin u x).ai->t.1.size<=maxLen:=by
 intro t ht;obtain ⟨p,k,_,_,he⟩:=Ip h t ht;rw [he];exact Bj b k
theorem By {w:LW} {n:Nat} {u:bJ} (h:qn w n u=none):(∀ x,x∈u.text->w.bad n x.e=none)/\(∀ x,x∈u.data->w.bad n x.e=none)/\∀ e,e∈u.aY->w.bad n e.2=none:=by
 unfold qn at h;rw [Option.or_eq_none_iff,Option.or_eq_none_iff] at h;obtain ⟨h1,h2,h3⟩:=h;unfold LW.xY at h1 h2;rw [XA] at h1 h2 h3;exact ⟨h1,h2,h3⟩
theorem jb {w:LW}:∀ (us:List bJ) (n:Nat),fv w n us=none->∀ i,(hi:i<us.length)->qn w (n+i) us[i]=none
 | [],n,h,i,hi=>absurd hi aj
 | u::us,n,h,i,hi=>by
  rw [fv] at h;cases hb:qn w n u with
  | some s=>rw [hb] at h; cases h
  | none =>
   rw [hb] at h
   match i with
   | 0=>simpa using hb
   | i+1 =>
    have:=jb us (n+1) h i (by simpa using hi)
    rw [show n+1+i=n+(i+1) from ad] at this;simpa using this
theorem vJ:∀ (us:List bJ) (n:Nat) (q:Nat × qi),q∈dX n us->∃ i,∃ hi:i<us.length,q.1=n+i/\q.2∈us[i].aY
 | [],n,q,h=>by simp [dX] at h
 | u::us,n,q,h=>by
  rw [dX,Xj] at h;rcases h with h | h
  ·obtain ⟨e,he,rfl⟩:=WX.1 h;exact ⟨0,aj,rfl,he⟩
  ·obtain ⟨i,hi,h1,h2⟩:=vJ us (n+1) q h;exact ⟨i+1,by simpa using hi,ad,by simpa using h2⟩
theorem CA {w:LW} {us:List bJ} (h:fv w 0 us=none) {q:Nat × qi} (hq:q∈dX 0 us):w.bad q.1 q.2.2=none:=by
 obtain ⟨i,hi,h1,h2⟩:=vJ us 0 q hq
 have:=(By (jb us 0 h i hi)).2.2 _ h2
 rw [h1];exact this
theorem H6:∀ (us:List bJ) (n:Nat),(∀ u,u∈us->u.aY.length<=8192)->(dX n us).length<=us.length*8192
 | [],n,h=>by simp [dX]
 | u::us,n,h=>by
  rw [dX,WU,WQ,XL];have h1:=H6 us (n+1) (fun v hv=>h v (by simp [hv]));have h2:=h u aj;omega
theorem wv:∀ (us:List bJ) (n:Nat),(∀ u,u∈us->(u.aY.map (·.1)).Nodup)->((dX n us).map jI).Nodup
 | [],n,h=>by simp [dX]
 | u::us,n,h=>by
  rw [dX,W5,X6];refine ⟨?_,wv us (n+1) (fun v hv=>h v (by simp [hv])),?_⟩
  ·have:(u.aY.map fun e=>(n,e)).map jI=(u.aY.map (·.1)).map fun s=>(n,s):=by rw [Xf,Xf]; rfl
   rw [this,Yg,XM];exact (Yg.1 (h u aj)).imp fun h e=>h (Ys e).2
  ·intro a ha b hb e;obtain ⟨q,hq,rfl⟩:=WX.1 ha;obtain ⟨r,hr,rfl⟩:=WX.1 hb;obtain ⟨x,_,rfl⟩:=WX.1 hq;obtain ⟨i,_,h1,_⟩:=vJ us (n+1) r hr
   have:n=r.1:=(Ys e).1
   omega
theorem AN:∀ (us:List bJ) (n:Nat),((dX n us).map fun q=>q.2.2.ai.length).sum<=((us.flatMap cg).flatMap (·.ai)).length
 | [],n=>by simp [dX]
 | u::us,n=>by
  rw [dX,W5,List.sum_append,XH,Yc,WU];have h1:=AN us (n+1);have h2:((u.aY.map fun e=>(n,e)).map fun q=>q.2.2.ai.length).sum<=((cg u).flatMap (·.ai)).length:=by
   unfold cg;rw [Yc,WU,Xf]
   have:∀ l:List qi,(l.map ((fun q:Nat × qi=>q.2.2.ai.length) ∘ fun e=>(n,e))).sum=((l.map (·.2)).flatMap (·.ai)).length:=by
    intro l
    induction l with
    | nil=>rfl
    | cons e l ih=>rw [Xy,XW,Xy,XH,WU,ih]; rfl
   rw [this];omega
  omega
structure Ex (us:List bJ):Prop where
 right:∀ u,u∈us->dC u=0
 many:us.length<=64
theorem Ex.aY {us:List bJ} (r:Ex us) {u:bJ} (hu:u∈us):u.aY.length<=8192/\u.text.length+u.data.length<=8192:=by
 have h:=(vW (r.right u hu)).1;unfold uB at h;rw [Bool.or_eq_false_iff] at h;have h1:=WS h.1;have h2:=WS h.2;omega
theorem Ex.eqs {us:List bJ} (r:Ex us):(dX 0 us).length<=2^19:=by
 have h1:=H6 us 0 (fun u hu=>(r.aY hu).1);have h2:=r.many;omega
theorem qt (n sec:Nat):∀ (l:List cB) (i:Nat),(oI n sec i l).length<=l.length
 | [],i=>by simp [oI]
 | x::l,i=>by
  have:=qt n sec l (i+1)
  rw [oI,WU,XL];split <;> simp <;> omega
theorem AX:∀ (us:List bJ) (n:Nat),(∀ u,u∈us->u.text.length+u.data.length<=8192)->(bC n us).length<=us.length*8192
 | [],n,h=>by simp [bC]
 | u::us,n,h=>by
  rw [bC,WU,XL];have h1:=AX us (n+1) (fun v hv=>h v (by simp [hv]));have h2:=h u aj;have h3:=qt n 0 u.text 0;have h4:=qt n 1 u.data 0;unfold uJ;rw [WU];omega
theorem Ex.dL {us:List bJ} (r:Ex us):(bC 0 us).length<=2^19:=by
 have h1:=AX us 0 (fun u hu=>(r.aY hu).2);have h2:=r.many;omega
theorem Ex.IM {us:List bJ} (r:Ex us) {w:LW} (i0:WI w (bC 0 us) ((dX 0 us).map jI)):Oi w :=
 i0.IM (by have:=r.dL; omega) (by rw [WQ]; have:=r.eqs; omega)
theorem Tr {us:List bJ} (r:Ex us) (sm:FJ us) {w:LW} (i0:WI w (bC 0 us) ((dX 0 us).map jI)) (hb:fv w 0 us=none) {es:List cE} (h:es.map eU=uu w us):sK es:=by
 have lb:=r.IM i0;have hn:Sx.aS es=(dX 0 us).map fun q=>w.word (jI q):=by
  have:=Xa (List.map (·.1)) h
  unfold uu at this;rw [Xf,Xf] at this;exact this
 have hl:es.length=(dX 0 us).length:=by
  have:=Xa List.length h
  unfold uu at this;simpa using this
 have hmem:∀ e,e∈es->∃ q,q∈dX 0 us/\e.name=w.word (jI q)/\e.x=w.lin q.1 q.2.2:=by
  intro e he;have h1:eU e∈uu w us:=by rw [<- h]; exact W7 he
  unfold uu at h1;obtain ⟨q,hq,h2⟩:=WX.1 h1;exact ⟨q,hq,(Ys h2).1.symm,(Ys h2).2.symm⟩
 have htot:(es.flatMap (·.x.ai)).length<=2^20:=by
  have e1:∀ l:List cE,(l.flatMap (·.x.ai)).length=((l.map eU).map (·.2.ai.length)).sum:=by
   intro l
   induction l with
   | nil=>rfl
   | cons e l ih=>rw [XH,WU,Xy,Xy,XW,ih]; rfl
  rw [e1,h];unfold uu;rw [Xf];have e2:∀ l:List (Nat × qi),(∀ q,q∈l->w.bad q.1 q.2.2=none)->(l.map ((fun p:ZA × bX=>p.2.ai.length) ∘ fun q=>(w.word (q.1,q.2.1),w.lin q.1 q.2.2))).sum<=(l.map fun q=>q.2.2.ai.length).sum:=by
   intro l hl
   induction l with
   | nil=>simp
   | cons q l ih =>
    rw [Xy,Xy,XW,XW];have h1:=ih (fun p hp=>hl p (by simp [hp]));have h2:=yh (hl q aj);have h3:((fun p:ZA × bX=>p.2.ai.length) ∘ fun q:Nat × qi=>(w.word (q.1,q.2.1),w.lin q.1 q.2.2)) q=(w.lin q.1 q.2.2).ai.length:=rfl;omega
  have h1:=e2 (dX 0 us) (fun q hq=>CA hb hq);have h2:=AN us 0;have h3:=sm.ai;omega
 refine ⟨⟨?_,?_,?_,?_,?_⟩,htot⟩
 ·rw [hn];have h1:=wv us 0 (fun u hu=>by
   have:=wW (r.right u hu)
   unfold ek at this;rw [X6] at this;exact this.2.1)
  rw [Yg,XM] at h1 ⊢;refine List.Pairwise.imp_of_mem ?_ h1;intro a b ha hb' hne e;exact hne (word_inj i0 (.inr (W7 ha)) (.inr (W7 hb')) e)
 ·have:=r.eqs; omega
 ·intro e he;obtain ⟨q,_,h1,_⟩:=hmem e he;rw [h1];exact Bj lb _
 ·intro e he
  have:=gC (fun e:cE=>e.x.ai) he
  omega
 ·intro e he t ht;obtain ⟨q,hq,_,h2⟩:=hmem e he;rw [h2] at ht;exact Mp lb (CA hb hq) t ht
theorem J3 {es ms:List cE} (o:sK es) (hc:∀ v,¬ jT (da es) v) (hm:ms.map (fun m=>(m.name,m.x))=es.map (fun e=>(e.name,eC es e.name))) (hl:es.length<=2^19) :
  EqsOk ms/\(∀ e,e∈ms->e.x.ai.length<=2^20)/\(ms.flatMap (·.x.ai)).length<=2^39/\ms.length<=2^20:=by
 have hn:Sx.aS ms=Sx.aS es:=by
  have:=Xa (List.map (·.1)) hm
  rw [Xf,Xf] at this;exact this
 have hll:ms.length=es.length:=by
  have:=Xa List.length hm
  simpa using this
 have hmem:∀ e,e∈ms->e.name∈Sx.aS es/\e.x=eC es e.name:=by
  intro e he;have h1:(e.name,e.x)∈es.map (fun e=>(e.name,eC es e.name)):=by rw [<- hm]; exact W7 (f:=fun m:cE=>(m.name,m.x)) he
  obtain ⟨q,hq,h2⟩:=WX.1 h1;have h3:=(Ys h2).1;exact ⟨by rw [<- h3]; exact W7 hq,by rw [<- (Ys h2).2,h3]⟩
 have hlen:∀ e,e∈ms->e.x.ai.length<=2^20:=fun e he=>by rw [(hmem e he).2]; exact o.Dd hc (hmem e he).1
 refine ⟨⟨by rw [hn]; exact o.nodup,ad,fun e he=>?_,fun e he=>by have:=hlen e he; omega,fun e he t ht=>?_⟩,hlen,?_,ad⟩
 ·exact o.names _ (hmem e he).1
 ·rw [(hmem e he).2] at ht;exact o.L6 hc (hmem e he).1 t ht
 ·have e1:∀ l:List cE,(∀ e,e∈l->e.x.ai.length<=2^20)->(l.flatMap (·.x.ai)).length<=l.length*2^20:=by
   intro l h
   induction l with
   | nil=>simp
   | cons e l ih =>
    rw [XH,WU,XL];have h1:=ih (fun d hd=>h d (by simp [hd]));have h2:=h e aj;omega
  have:=e1 ms hlen
  omega
theorem S4 (n:Int):Instr.fill (fun j=>some (j*1,1)) ((Array.range (1*1)).map ((Value.int .u8 0).cells[· % (Value.int .u8 0).cells.size]!)) [(0,.int .u8 n)]=some ([.int .u8 n]:List ZB).toArray:=ax
def tf (n:Nat):ZA:=⟨[UInt8.ofNat (48+n % 10)].toArray⟩
def fI (n:Nat):ZA:=⟨(Lib.decDigits n).toArray⟩
theorem zM {n:Nat} (h:n<10):fI n=tf n:=by
 unfold fI tf;rw [Lib.decDigits_one h,Yt h]
theorem I2 {n:Nat} (h:¬ n<10) (s:ZA):fI n++s=fI (n / 10)++(tf n++s):=by
 unfold fI tf
 conv=>lhs; rw [Lib.decDigits,dif_neg h]
 apply xE;rw [eh,eh,eh];simp [List.append_assoc]
theorem xw {L:Lp} {K:ZB->Hp->Prop} {h:Hp} {n:Nat} (hn:n<=2^60) {k:ZA->T} (hk:∀ h',Ext h h'->k (tf n) L K h') :
  T.dY Tryz.prog (Instr.buildSlice 182 1 #[(0,.int .u8 (IntKind.wrap .u8 (IntKind.wrap .i64 ((48:Int)+(Int.tmod (n:Int) (10:Int))))))]) false [(false,[.slice 0])] (fun p3 l4 l5 =>
   T.dY Tryz.prog (convert 182 9 (.slice p3 l4 l5)) false [(false,[.string])] k) L K h:=by
 have hw:=R4 n;rw [hw];refine ml N8 Ww ad ad (S4 _) ?_;intro h1 b1 e1 z1;have s1:SL h1 h.size 5 1 (some ⟨h.size,0,none⟩) 1 1 (Lq [UInt8.ofNat (48+n % 10)]):=⟨rfl,by simp [Lq],h.size,[],[],rfl,W9 _,ad,by simpa [Lq] using b1,aj⟩
 exact LS s1 aj (hk h1 e1)
theorem yg (s:ZA):((ByteArray.toList s)==([]:List UInt8))=decide (s.data.toList=[]):=by
 rw [ByteArray.toList_eq];cases h:s.data.toList <;> simp
theorem wz {h:Hp} {n:Nat} (hn:n<=2^60):HC Tryz.prog 91 #[.int .i64 (n:Int)] h fun w h'=>w=.string (fI n)/\Ext h h':=by
 refine aX (args:=[.int .i64 (n:Int)]) mixed Tryz.func91 ax (lN n) ?_;unfold ix bh bK bi bS aM;have hd1:∀ m,(tf m).size=1:=fun m=>rfl
 have hde:∀ m s,¬ (tf m++s).data.toList=[]:=fun m s hh=>by rw [eh] at hh; simp [tf] at hh
 refine aR (cs:=[(false,[.int .i64]),(false,[.string])]) (fun y k h'=>∃ (m:Nat) (s:ZA),y.1=(m:Int)/\y.2.1=s/\k=2*m+(if s.data.toList=[] then 1 else 0)/\m<=n/\s.size+m<=n+1/\Ext h h'/\((s=⟨#[]⟩/\m=n)\/(¬ s.data.toList=[]/\fI n=(if m=0 then ⟨#[]⟩ else fI m)++s))) ((n:Int),(⟨#[]⟩:ZA),()) _ rfl
  ⟨n,⟨#[]⟩,rfl,rfl,rfl,W9 _,by show 0+n<=n+1; omega,Ch.refl _ _,.inl ⟨rfl,rfl⟩⟩ ?_
 rintro ⟨n1,(s:ZA),⟨⟩⟩ k h1 ⟨m,s',hi,hs',rfl,hmn,hsz,e1,hs⟩;simp only at hi hs';subst hi hs';refine an ?_;have hdiv:IntKind.wrap .i64 (Int.tdiv (m:Int) 10)=((m / 10:Nat):Int):=by
  have:Int.tdiv (m:Int) 10=((m / 10:Nat):Int):=by rw [Int.tdiv_eq_ediv_of_nonneg ad]; omega
  rw [this,wrap_i64 ad ad]
 have hsa:∀ s:ZA,(tf m++s).size=1+s.size:=fun s=>by rw [Yl,hd1]
 refine ak (fun q=>?_) (fun q=>?_)
 ·have q:=WR q;have hm:¬ m=0:=ad
  refine ay bU ?_;refine xw ad ?_;intro h2 e2;refine ay (by show ((((tf m).size+s.size:Nat)):Int)<=_; rw [hd1]; omega) (ay bU ?_);have hb:fI n=fI m++s:=by
   rcases hs with ⟨rfl,rfl⟩ | ⟨_,hs⟩
   ·apply xE;rw [eh]
    simp
   ·rw [hs,WV hm]
  refine aF (cs:=[(false,[.int .i64]),(false,[.string])]) (((m / 10:Nat):Int),tf m++s,()) (2*(m / 10)+0) rfl ad (Xa (fun z=>[Value.int .i64 z,.string (tf m++s)]) hdiv) ⟨m / 10,tf m++s,rfl,rfl,by rw [WV (hde m s)],ad,by rw [hsa]; omega,e1.trans e2,.inr ⟨hde m s,?_⟩⟩;rw [hb]
  by_cases h10:m<10
  ·rw [zM h10,W2 ad];apply xE;rw [eh,eh,eh]
   simp
  ·rw [I2 h10,WV ad]
 ·have q:=WS q;have hm:m=0:=ad
  subst hm;rw [yg];refine ak (fun r=>?_) (fun r=>?_)
  ·have r:=WR r;rcases hs with ⟨rfl,h0⟩ | ⟨hh,_⟩
   ·subst h0;refine ay bU ?_;refine xw ad ?_;intro h2 e2;refine ay bU (ay bU ?_);refine aF (cs:=[(false,[.int .i64]),(false,[.string])]) (((0:Nat):Int),tf 0++⟨#[]⟩,()) 0 rfl aj rfl ⟨0,tf 0++⟨#[]⟩,rfl,rfl,by rw [WV (hde 0 _)],ad,bU,e1.trans e2,.inr ⟨hde 0 _,?_⟩⟩;rw [zM ad,W2 rfl];apply xE;rw [eh,eh]
    simp
   ·exact absurd r hh
  ·have r:=WS r;rcases hs with ⟨rfl,_⟩ | ⟨_,hs⟩
   ·exact absurd rfl r
   ·refine ⟨?_,e1⟩;rw [hs,W2 rfl]
    congr 1
def fS (us:List bJ) (n:Nat) (x:bX):Option ZA:=(x.ai.find? fun t=>(fU us n t.1).isNone).map (·.1)
def de (us:List bJ) (n:Nat) (x:bX):ZA:=(fS us n x).getD ⟨#[]⟩
theorem Qk (o:Option Nat):decide (OK o<0)=o.isNone:=by
 cases o with
 | none=>rfl
 | some k=>exact W4 (by show ¬ ((k:Int)<0); omega)
theorem EJ {h:Hp} {p:Option ZC} {l c:Nat} {us:List bJ} (v:uz h p l us) (sz:J2 us) {n:Nat} (hn:n<us.length) {q:Option ZC} {m d:Nat} {x:bX} (u:gn h q m x.ai) (hx:x.ai.length<=2^60) :
  HC Tryz.prog 113 #[.slice p l c,.int .i64 (n:Int),gH q m d x] h fun w h'=>w=.string (de us n x)/\Ext h h':=by
 refine aX (args:=[.slice p l c,.int .i64 (n:Int),.agg #[.slice q m d,.int .u32 x.num]]) mixed Tryz.func113 ax (mv p l c n q m d x.num) ?_;unfold iI aZ bg bq aK cD bS aM;have hll:=u.len;refine bm ?_;intro h1 b1 e1 z1;refine aR (cs:=[(false,[.string]),(false,[.int .i64])]) (fun y k h'=>∃ i:Nat,y.2.1=(i:Int)/\k=x.ai.length-i/\i<=x.ai.length/\Ext h h'/\Ext h1 h'/\∀ j,j<i->(hj:j<x.ai.length)->(fU us n x.ai[j].1).isNone=false) ((⟨#[]⟩:ZA),(0:Int),()) x.ai.length rfl
  ⟨0,rfl,rfl,ad,e1,Ch.refl _ _,fun j hj=>absurd hj ad⟩ ?_
 rintro ⟨s4,n5,⟨⟩⟩ k h2 ⟨i,hi,rfl,hle,e02,e12,hno⟩;simp only at hi;subst hi;refine an ?_;have b2:=b1.ao e12 aj;refine af b2 ((q,m,d),()) rfl ?_;refine an ?_;refine ak (fun g=>?_) (fun g=>?_)
 ·have g:=WR g;have hil:i<x.ai.length:=ad
  refine af b2 ((q,m,d),()) rfl ?_;refine an ?_;obtain ⟨a,rfl,hc⟩:=(u.ao e02 aj).cells i hil;refine ay ⟨ad,ad⟩ (av rfl ?_);rw [show Int.toNat (i:Int)=i from ad];refine az (x.ai[i].1,()) ⟨hc.1,trivial⟩ ?_;refine an ?_;refine aH (Fj (c:=c) (v.ao e02) sz hn x.ai[i].1) ?_;rintro _ h3 ⟨rfl,e3⟩;refine ⟨(OK (fU us n x.ai[i].1),()),rfl,?_⟩;refine an ?_;rw [Qk];refine ak (fun r=>?_) (fun r=>?_)
  ·refine af (b2.ao e3 aj) ((some a,m,d),()) rfl ?_;refine an ?_;refine ay ⟨ad,ad⟩ (av rfl ?_);refine az (x.ai[i].1,()) ⟨(aT e3 aj _ _ hc).1,trivial⟩ ?_;refine ⟨?_,e02.trans e3⟩;unfold de fS;rw [kw (fun t:ZA × Nat=>(fU us n t.1).isNone) x.ai i hil (fun j hj=>hno j hj ad) r] <;> rfl
  ·refine aF (cs:=[(false,[.string]),(false,[.int .i64])]) (s4,((i+1:Nat):Int),()) (x.ai.length-(i+1)) rfl ad (by rw [wrap_i64 ad ad]; rfl) ?_;exact ⟨i+1,rfl,rfl,ad,e02.trans e3,e12.trans e3,fun j hj hx=>by
    by_cases e:j=i
    ·subst e; exact r
    ·exact hno j ad hx⟩
 ·have g:=WS g
  have:i=x.ai.length:=ad
  subst this;refine ⟨?_,e02⟩;unfold de fS;rw [nQ (fun t:ZA × Nat=>(fU us n t.1).isNone) x.ai fun j hj=>hno j hj hj] <;> rfl
theorem wX {P:Program} {h:Hp} {L:Lp} {K:ZB->Hp->Prop} {k:Option ZC->Nat->Nat->T} {t ty e:TypeId} {z:ZB} {sz by':Nat} (ht:P.underlying t=some (.slice e)) (hinf:(P.info? e).map (fun i=>(i.zero,i.size,i.bytes))=some (some z,sz,by'))
  (hzs:z.cells.size=sz) {b:Nat} {p:Option ZC} {l c:Nat} {xs:List (List ZB)} (s:SL h b e sz p l c xs) {q:Option ZC} {m d:Nat} {ys:List (List ZB)} (hsrc:(q=none/\ys=[])\/∃ a,q=some a/\aG h a 0 ys.flatten) (hm:m=ys.length) (hys:∀ y,y∈ys->y.length=sz) (hpl:ys.flatten.all cP=true)
  (hby:(2*(l+m)+1024)*by'<=2^48) (hlm:l+m<=2^48) (hb:b<=h.size)
  (hk:∀ p' c' h',SL h' b e sz p' (l+m) c' (xs++ys)->Ch (aJ p) h h'->k p' (l+m) c' L K h') :
  T.dY P (Builtin.append_ #[t,t] ty #[.slice p l c,.slice q m d]) false [(false,[.slice 0])] k L K h:=by
 obtain ⟨i,hi,hz,rfl,rfl⟩:=oW hinf;refine dm ?_;rcases hsrc with ⟨rfl,rfl⟩ | ⟨a,rfl,hc⟩
 ·have h0:m=0:=hm;subst h0;have hc0:l<=c:=SL.GN s;simp [Builtin.append_,ar,aD ht,bM hi,cz hi,Builtin.lenOf,Builtin.firstCells,hc0];have hfin:∃ p' l' c',Value.slice p l c=.slice p' l' c'/\k p' l' c' L K h:=⟨p,l,c,rfl,by simpa using hk p c h (by simpa using s) (Ch.refl _ _)⟩
  cases p with
  | none=>exact hfin
  | some a=>exact hfin
 ·exact oh (P:=P) (K:=fun v h'=>∃ p l c,v=.slice p l c/\k p l c L K h') (ty:=ty) (ys:=ys) ht hi hz hzs s hm hys hc hpl hby hlm hb fun p' c' h' s' k' _=>⟨p',_,c',rfl,hk p' c' h' s' k'⟩
def lM (us:List bJ) (n:Nat) (l:List bX):ZA:=((l.map (de us n)).find? fun s=>!decide (s.data.toList=[])).getD ⟨#[]⟩
theorem HK {us:List bJ} {n:Nat} {l:List bX} {i:Nat} (hi:i<l.length) (h:∀ j,(hj:j<i)->(de us n (l[j]'ad)).data.toList=[]) (hs:¬ (de us n l[i]).data.toList=[]):lM us n l=de us n l[i]:=by
 unfold lM;rw [kw (fun s:ZA=>!decide (s.data.toList=[])) (l.map (de us n)) i (by rw [WQ]; exact hi) (fun j hj=>by rw [WY]; simp [h j hj]) (by rw [WY]; simpa using hs)];rw [WY] <;> rfl
theorem A3 {us:List bJ} {n:Nat} {l:List bX} (h:∀ j,(hj:j<l.length)->(de us n l[j]).data.toList=[]):lM us n l=⟨#[]⟩:=by
 unfold lM;rw [nQ (fun s:ZA=>!decide (s.data.toList=[])) (l.map (de us n)) fun j hj=>by
  rw [WQ] at hj;rw [WY];simp [h j hj]]
 rfl
theorem C4 {h:Hp} {p:Option ZC} {l c:Nat} {us:List bJ} (v:uz h p l us) (sz:J2 us) {n:Nat} (hn:n<us.length) :
  HC Tryz.prog 90 #[.slice p l c,.int .i64 (n:Int)] h fun w h'=>w=.string (lM us n (cg us[n]))/\Ext h h':=by
 refine aX (args:=[.slice p l c,.int .i64 (n:Int)]) mixed Tryz.func90 ax (jP p l c n) ?_;unfold fQ aZ bg bq aK hY bh bd bS aM;have hll:=v.len;have hmany:=sz.many;obtain ⟨a,sa,sb,sc,sd,rfl,hc,va⟩:=v.cells n hn;have hm:=WZ hn;generalize us[n]=u at hc va hm;refine ay ⟨ad,ad⟩ (av rfl ?_);rw [show Int.toNat (n:Int)=n from ad];refine az ((sa.p,sa.l,sa.c),(sb.p,sb.l,sb.c),(sc.p,sc.l,sc.c),(sd.p,sd.l,sd.c),()) hc ?_;refine an ?_;refine bm ?_;intro h1 b1 e1 z1;refine aw b1 rfl aj ?_;intro h2 b2 k2 z2;have b2:bz h2 h.size 30 [sa.v,sb.v,sc.v,sd.v]:=b2;have e2:Ext h h2:=Ch.trans e1 k2 (fun j hj hl=>by simp at hj; omega);refine af b2 ((sa.p,sa.l,sa.c),()) rfl ?_;refine an ?_;rw [aE];refine af b2 ((sb.p,sb.l,sb.c),()) rfl ?_;refine an ?_;have va2:=va.ao e2;obtain ⟨wt,hwt,vwt,iwt⟩:=CG va2.text;obtain ⟨wd,hwd,vwd,iwd⟩:=CG va2.data;have hlt:wt.length=u.text.length:=by rw [<- hwt,WQ]
 have hld:wd.length=u.data.length:=by rw [<- hwd,WQ]
 have h1t:=sz.text u hm;have h1d:=sz.data u hm;have h1e:=sz.aY u hm;have hlvt:=vwt.len;have hlvd:=vwd.len;refine Ht (z:=.agg iz.toArray) (sz:=10) (by':=104) yD Fu ?_;intro h3 s3 e3;have z3:=e3.size;have z2':=e2.size;have b3:=b2.ao e3 aj;refine ⟨⟨b3.cells _ rfl,b3.cells _ rfl,trivial⟩,?_⟩;have esrc:∀ {h h':Hp} {q:Option ZC} {us:List (cn × cB)},Ext h h'->((q=none/\us.map sB=[])\/∃ a,q=some a/\aG h a 0 (us.map sB).flatten)->((q=none/\us.map sB=[])\/∃ a,q=some a/\aG h' a 0 (us.map sB).flatten):=by
  rintro h h' q us e (x | ⟨a,ha,hc⟩)
  ·exact .inl x
  ·exact .inr ⟨a,ha,aT e aj _ _ hc⟩
 refine wX (z:=.agg iz.toArray) (sz:=10) (by':=104) yD Fu rfl s3 (esrc e3 vwt.src) (by simpa using hlvt) (mW wt) (oZ wt) ad ad ad ?_;intro p4 c4 h4 s4 k4;have e4:Ext h2 h4:=Ch.trans e3 k4 (fun j hj hl=>by simp [aJ] at hj; omega);have b4:=b2.ao e4 aj;have z4:=e4.size;rw [Yj] at s4;refine ⟨⟨b4.cells _ rfl,trivial⟩,?_⟩;refine wX (z:=.agg iz.toArray) (sz:=10) (by':=104) yD Fu rfl s4 (esrc e4 vwd.src) (by simpa using hlvd) (mW wd) (oZ wd) ad ad ad ?_;intro p5 c5 h5 s5 k5;have e5:Ext h2 h5:=Ch.trans e4 k5 (fun j hj hl=>by have:=(s4.bY hj).1; omega);have b5:=b2.ao e5 aj;rw [<- W5] at s5;refine ⟨⟨b5.cells _ rfl,trivial⟩,?_⟩;have e05:=e2.trans e5;have hI:∀ w,w∈wt++wd->iM h5 w.1.p w.1.l w.2:=fun w hw=>by
  rcases Xj.1 hw with hw | hw
  ·exact (iwt w hw).ao e5
  ·exact (iwd w hw).ao e5
 have hE:(wt++wd).map (fun w=>w.2.e)=u.text.map (·.e)++u.data.map (·.e):=by
  rw [W5,<- hwt,<- hwd,Xf,Xf] <;> rfl
 have hlin:cg u=(wt++wd).map (fun w=>w.2.e)++u.aY.map (·.2):=by rw [hE]; rfl
 have hwl:(wt++wd).length=sa.l+sb.l:=by rw [WU]; omega
 generalize wt++wd=W at s5 hI hlin hwl;clear hE;refine aR (cs:=[(false,[.string]),(false,[.int .i64])]) (fun y k h'=>∃ i:Nat,y.2.1=(i:Int)/\k=W.length-i/\i<=W.length/\Ext h5 h'/\∀ j,j<i->(hj:j<W.length)->(de us n W[j].2.e).data.toList=[]) ((⟨#[]⟩:ZA),(0:Int),()) W.length rfl
  ⟨0,rfl,rfl,ad,Ch.refl _ _,fun j hj=>absurd hj ad⟩ ?_
 rintro ⟨s31,n32,⟨⟩⟩ k h6 ⟨i,hi,rfl,hle,e6,hno⟩;simp only at hi;subst hi;refine an ?_;have s6:=s5.bF e6 aj;have e06:=e05.trans e6;have b6:=b5.ao e6 aj;refine ak (fun g=>?_) (fun g=>?_)
 ·have g:=WR g;have hil:i<W.length:=ad
  obtain ⟨a6,rfl,hc6⟩:=SL.cells s6 (i:=i) (by rw [WQ]; exact hil);rw [WY] at hc6;have hiw:=(hI _ (WZ hil)).ao e6;refine ay ⟨ad,ad⟩ (av rfl ?_);rw [show Int.toNat (i:Int)=i from ad];refine az ((W[i].1.p,W[i].1.l,W[i].1.c),(W[i].2.e.num:Int),()) ⟨by rw [add_add]; exact hc6.2.2.2.2.2.2.2.1,by rw [add_add]; exact hc6.2.2.2.2.2.2.2.2.1,trivial⟩ ?_;refine an ?_;refine aH (EJ (c:=c) (d:=W[i].1.c) (v.ao e06) sz hn hiw.lin.vw hiw.lin.many) ?_;rintro _ h7 ⟨rfl,e7⟩;refine ⟨(de us n W[i].2.e,()),rfl,?_⟩;refine an ?_;rw [yg];refine ak (fun r=>?_) (fun r=>?_)
  ·have r:¬ (de us n W[i].2.e).data.toList=[]:=by simpa using r
   refine ⟨?_,e06.trans e7⟩;rw [hlin,HK (i:=i) (by rw [WU,WQ]; omega) (fun j hj=>by
    rw [XK (by rw [WQ]; omega),WY];exact hno j hj ad) (by
    rw [XK (by rw [WQ]; omega),WY];exact r)]
   rw [XK (by rw [WQ]; omega),WY]
  ·have r:(de us n W[i].2.e).data.toList=[]:=by simpa using r
   refine aF (cs:=[(false,[.string]),(false,[.int .i64])]) (s31,((i+1:Nat):Int),()) (W.length-(i+1)) rfl ad (by rw [wrap_i64 ad ad]; rfl) ?_;exact ⟨i+1,rfl,rfl,ad,e6.trans e7,fun j hj hx=>by
    by_cases e:j=i
    ·subst e; exact r
    ·exact hno j ad hx⟩
 ·have g:=WS g;have hiW:i=W.length:=ad
  subst hiW;have veq:=va.aY;have hlq:=veq.len;refine aR (cs:=[(false,[.string]),(false,[.int .i64])]) (fun y k h'=>∃ i:Nat,y.2.1=(i:Int)/\k=u.aY.length-i/\i<=u.aY.length/\Ext h5 h'/\∀ j,j<i->(hj:j<u.aY.length)->(de us n u.aY[j].2).data.toList=[]) (s31,(0:Int),()) u.aY.length rfl
   ⟨0,rfl,rfl,ad,e6,fun j hj=>absurd hj ad⟩ ?_
  rintro ⟨s33,n34,⟨⟩⟩ k h7 ⟨i,hi,rfl,hle,e7,hno7⟩;simp only at hi;subst hi;refine an ?_;have b7:=b5.ao e7 aj;have e07:=e05.trans e7;rw [aE];refine af b7 ((sc.p,sc.l,sc.c),()) rfl ?_;refine an ?_;refine ak (fun g=>?_) (fun g=>?_)
  ·have g:=WR g;have hil:i<u.aY.length:=ad
   refine af b7 ((sc.p,sc.l,sc.c),()) rfl ?_;refine an ?_;obtain ⟨aq,q,m,d,haq,hcq,hvq,_⟩:=(veq.ao e07).cells i hil;refine ay ⟨ad,ad⟩ (av haq ?_);rw [show Int.toNat (i:Int)=i from ad];refine az ((q,m,d),(u.aY[i].2.num:Int),()) ⟨by rw [add_add]; exact hcq.2.1,by rw [add_add]; exact hcq.2.2.1,trivial⟩ ?_;refine an ?_;refine aH (EJ (c:=c) (d:=d) (v.ao e07) sz hn hvq.vw hvq.many) ?_;rintro _ h8 ⟨rfl,e8⟩;refine ⟨(de us n u.aY[i].2,()),rfl,?_⟩;refine an ?_;rw [yg];have hlen:(W.map fun w=>w.2.e).length=W.length:=WQ _;refine ak (fun r=>?_) (fun r=>?_)
   ·have r:¬ (de us n u.aY[i].2).data.toList=[]:=by simpa using r
    refine ⟨?_,e07.trans e8⟩;have hget:∀ j (hj:j<u.aY.length),((W.map fun w=>w.2.e)++u.aY.map (·.2))[W.length+j]'(by rw [WU,WQ,WQ]; omega)=u.aY[j].2:=fun j hj=>by
     rw [Yk (by rw [hlen]; omega)];simp [hlen]
    rw [hlin,HK (i:=W.length+i) (by rw [WU,WQ,WQ]; omega) (fun j hj=>by
     by_cases hjW:j<W.length
     ·rw [XK (by rw [hlen]; omega),WY];exact hno j ad hjW
     ·have:=hget (j-W.length) ad
      simp only [show W.length+(j-W.length)=j from ad] at this;rw [this];exact hno7 _ ad _) (by rw [hget i hil]; exact r),hget i hil]
   ·have r:(de us n u.aY[i].2).data.toList=[]:=by simpa using r
    refine aF (cs:=[(false,[.string]),(false,[.int .i64])]) (s33,((i+1:Nat):Int),()) (u.aY.length-(i+1)) rfl ad (by rw [wrap_i64 ad ad]; rfl) ?_;exact ⟨i+1,rfl,rfl,ad,e7.trans e8,fun j hj hx=>by
     by_cases e:j=i
     ·subst e; exact r
     ·exact hno7 j ad hx⟩
  ·have g:=WS g;have hie:i=u.aY.length:=ad
   subst hie;refine ⟨?_,e07⟩;rw [hlin,A3 fun j hj=>by
    rw [WU,WQ,WQ] at hj
    by_cases hjW:j<W.length
    ·rw [XK (by rw [WQ]; omega),WY];exact hno j hjW hjW
    ·rw [Yk (by rw [WQ]; omega),WY];exact hno7 _ (by simp; omega) _]
theorem jG {α:Type} (f:Nat->Option α) (x:α):∀ (n i:Nat),i<n->(∀ j,j<i->f j=none)->f i=some x->(List.range n).findSome? f=some x
 | 0,i,hi,_,_=>absurd hi ad
 | n+1,i,hi,h0,hx=>by
  rw [List.range_succ,YH]
  by_cases h:i<n
  ·rw [jG f x n i h h0 hx] <;> rfl
  ·have:i=n:=ad
   subst this;have hn:(List.range i).findSome? f=none:=by
    rw [XA];intro j hj;exact h0 j (Yo.1 hj)
   rw [hn];simp [hx]
theorem fo {α:Type} (f:Nat->Option α) (n:Nat) (h:∀ j,j<n->f j=none):(List.range n).findSome? f=none:=by
 rw [XA];intro j hj;exact h j (Yo.1 hj)
def sH (us:List bJ) (i:Nat):Option (Nat × ZA):=us[i]?.bind fun u=>(u.aP.find? fun s=>(us.take i).any fun v=>fz v.aP s).map fun s=>(i,s)
def zm (us:List bJ):Option (Nat × ZA):=(List.range us.length).findSome? (sH us)
def vk (us:List bJ) (i:Nat):Option (Nat × ZA):=us[i]?.bind fun u=>if (lM us i (cg u)).data.toList=[] then none else some (i,lM us i (cg u))
def E6 (us:List bJ):Option (Nat × ZA):=(List.range us.length).findSome? (vk us)
def et (us:List bJ):Fl :=
 if us.length=0 then ⟨25,0,dt⟩
 else if 64<us.length then ⟨4,0,dt⟩
 else match us.findIdx? fun u=>decide (dC u≠0) with
 | some n=>⟨31,n,dt⟩
 | none=>match zm us with
  | some q=>⟨22,q.1,q.2⟩
  | none=>match E6 us with
   | some q=>⟨23,q.1,q.2⟩
   | none=>⟨0,0,dt⟩
def Oj (f:Fl):ZB:=.agg #[.int .i64 (f.nT:Int),.int .i64 (f.unit:Int),.string f.name]
theorem rW {L:Lp} {K:ZB->Hp->Prop} {h0 h:Hp} {g:Nat} {a b:Int} {s:ZA} (bx:bz h g 54 [.int .i64 a,.int .i64 b,.string s]) (e0:Ext h0 h) (hg:h0.size<=g) (f:Fl) (hk:∀ h',Ext h0 h'->K (Oj f) h') :
  T.aC ⟨g,0,none⟩ [.int .i64 (f.nT:Int),.int .i64 (f.unit:Int),.string f.name] (T.ah ⟨g,0,none⟩ [.int .i64,.int .i64,.string] fun (n2:Int) (n3:Int) (s4:ZA)=>T.ret (.agg #[.int .i64 n2,.int .i64 n3,.string s4])) L K h:=by
 refine aw bx rfl aj ?_;intro h2 b2 k2 z2;have b2:bz h2 g 54 [.int .i64 (f.nT:Int),.int .i64 (f.unit:Int),.string f.name]:=b2;refine af b2 ((f.nT:Int),(f.unit:Int),f.name,()) rfl ?_;exact hk h2 (Ch.trans e0 k2 (fun j hj hl=>by simp at hj; omega))
theorem J2.of {us:List bJ} (h64:us.length<=64) (hr:∀ u,u∈us->dC u=0):J2 us:=by
 have r:Ex us:=⟨hr,h64⟩
 refine ⟨ad,fun u hu=>?_,fun u hu=>?_,fun u hu=>?_⟩ <;> have:=r.aY hu <;> omega
theorem F1 {h : Hp} {p : Option ZC} {l c : Nat} {us : List bJ} (v : uz h p l us) : HC Tryz.prog 60 #[.slice p l c] h fun w h' => w = Oj (et us) /\ Ext h h' := by
  refine aX (args := [.slice p l c]) mixed Tryz.func60 ax (lh p l c) ?_;unfold gX aZ bg bq aK aU cD hY bS aM;have hll := v.len;refine bm ?_;intro h1 b1 e1 z1;refine ak (fun g => ?_) (fun g => ?_)
  · have g : l = 0 := by have : (l : Int) = 0 := by simpa using g
                         omega
    refine rW b1 e1 (W9 _) ⟨25, 0, dt⟩ fun h' e' => ⟨?_, e'⟩
    unfold et;rw [W2 ad]
  have hl0 : ¬ us.length = 0 := by
    intro hh;have : l = 0 :=ad
    subst this;cases g
  refine ak (fun g64 => ?_) (fun g64 => ?_)
  · have g64 := WR g64
    refine rW b1 e1 (W9 _) ⟨4, 0, dt⟩ fun h' e' => ⟨?_, e'⟩
    unfold et;rw [WV hl0, W2 ad]
  have g64 := WS g64;have h64 : ¬ 64 < us.length :=ad
  refine aR (cs := [(false, [.int .i64])]) (fun y k h' => ∃ i : Nat, y.1 = (i : Int) /\ k = us.length - i /\ i <= us.length /\ Ext h1 h' /\ ∀ j, j < i -> (hj : j < us.length) -> dC us[j] = 0) ((0 : Int), ()) us.length rfl
    ⟨0, rfl, rfl, ad, Ch.refl _ _, fun j hj => absurd hj ad⟩ ?_
  rintro ⟨n2, ⟨⟩⟩ k h2 ⟨i, hi, rfl, hle, e2, hr⟩;simp only at hi;subst hi;refine an ?_;have b2 := b1.ao e2 aj;have e02 := e1.trans e2;refine ak (fun q => ?_) (fun q => ?_)
  · have q := WR q
    have hil : i < us.length :=ad
    obtain ⟨a, sa, sb, sc, sd, rfl, hc, va⟩ := (v.ao e02).cells i hil;refine ay ⟨ad, ad⟩ (av rfl ?_);rw [show Int.toNat (i : Int) = i from ad];refine az ((sa.p, sa.l, sa.c), (sb.p, sb.l, sb.c), (sc.p, sc.l, sc.c), (sd.p, sd.l, sd.c), ()) hc ?_;refine an ?_;refine aH (Jj va) ?_;rintro _ h3 ⟨rfl, e3⟩;refine ⟨(((dC us[i] : Nat) : Int), ()), rfl, ?_⟩;refine an ?_;refine ak (fun r => ?_) (fun r => ?_)
    · have r : ¬ dC us[i] = 0 := by
        intro hh;rw [hh] at r;cases r
      refine rW (b2.ao e3 aj) (e02.trans e3) (W9 _) ⟨31, i, dt⟩ fun h' e' => ⟨?_, e'⟩
      unfold et
      rw [WV hl0, WV h64, show us.findIdx? (fun u => decide (dC u ≠ 0)) = some i from by
        rw [Xd];exact ⟨hil, W1 r, fun j hj => by simp [hr j hj ad]⟩]
    · have r : dC us[i] = 0 := by
        have : ((dC us[i] : Nat) : Int) = 0 := by simpa using r
        omega
      refine aF (cs := [(false, [.int .i64])]) (((i + 1 : Nat) : Int), ()) (us.length - (i + 1)) rfl ad (by rw [wrap_i64 ad ad]; rfl) ?_
      exact ⟨i + 1, rfl, rfl, ad, e2.trans e3, fun j hj hx => by
        by_cases e : j = i
        · subst e; exact r
        · exact hr j ad hx⟩
  have q := WS q
  have hR : ∀ u, u ∈ us -> dC u = 0 := fun u hu => by
    obtain ⟨j, hj, rfl⟩ := Xg hu;exact hr j ad hj
  have sz := J2.of ad hR
  have hfi : us.findIdx? (fun u => decide (dC u ≠ 0)) = none := by
    rw [Xp];intro u hu;rw [hR u hu];decide
  clear hr
  refine aR (cs := [(false, [.int .i64])]) (fun y k h' => ∃ i : Nat, y.1 = (i : Int) /\ k = us.length - i /\ i <= us.length /\ Ext h1 h' /\ ∀ j, j < i -> sH us j = none) ((0 : Int), ()) us.length rfl
    ⟨0, rfl, rfl, ad, e2, fun j hj => absurd hj ad⟩ ?_
  rintro ⟨n3, ⟨⟩⟩ k h3 ⟨i3, hi, rfl, hle3, e3, hd3⟩;simp only at hi;subst hi;refine an ?_;have hw3 : IntKind.wrap .i64 ((i3 : Int) + 1) = ((i3 + 1 : Nat) : Int) := by rw [wrap_i64 ad ad]; omega
  refine ak (fun q3 => ?_) (fun q3 => ?_)
  · have q3 := WR q3
    have hil3 : i3 < us.length :=ad
    have hug : us[i3]? = some us[i3] := WT hil3;obtain ⟨a3, sa, sb, sc, sd, rfl, hc3, va3⟩ := v.cells i3 hil3;generalize us[i3] = u at hug hc3 va3;have hgm := va3.aP.many;have hgl := va3.aP.len
    refine aR (cs := [(false, [.int .i64])]) (fun y k h' => ∃ i : Nat, y.1 = (i : Int) /\ k = u.aP.length - i /\ i <= u.aP.length /\ Ext h1 h' /\ ∀ j, j < i -> (hj : j < u.aP.length) -> ((us.take i3).any fun v => fz v.aP u.aP[j]) = false) ((0 : Int), ()) u.aP.length rfl
      ⟨0, rfl, rfl, ad, e3, fun j hj => absurd hj ad⟩ ?_
    rintro ⟨n4, ⟨⟩⟩ k h4 ⟨i4, hi, rfl, hle4, e4, hd4⟩;simp only at hi;subst hi;refine an ?_;have hw4 : IntKind.wrap .i64 ((i4 : Int) + 1) = ((i4 + 1 : Nat) : Int) := by rw [wrap_i64 ad ad]; omega
    have e04 := e1.trans e4;have hcg : ∀ {h' : Hp}, Ext h h' -> aG h' ((a3.add (i3 * 4)).add 3) 0 [.slice sd.p sd.l sd.c] := fun e => ⟨by rw [add_add]; exact (aT e aj _ _ hc3).2.2.2.1, trivial⟩
    refine ay ⟨ad, ad⟩ (av rfl ?_);rw [show Int.toNat (i3 : Int) = i3 from ad];refine az ((sd.p, sd.l, sd.c), ()) (hcg e04) ?_;refine an ?_;refine ak (fun q4 => ?_) (fun q4 => ?_)
    · have q4 := WR q4
      have hil4 : i4 < u.aP.length :=ad
      have hsg : u.aP[i4]? = some u.aP[i4] := WT hil4;obtain ⟨ag, hag, hcs, _⟩ := va3.aP.cells i4 hil4
      refine aR (cs := [(false, [.int .i64])]) (fun y k h' => ∃ i : Nat, y.1 = (i : Int) /\ k = i3 - i /\ i <= i3 /\ Ext h1 h' /\ ∀ j, j < i -> (hj : j < us.length) -> fz us[j].aP u.aP[i4] = false) ((0 : Int), ()) i3 rfl
        ⟨0, rfl, rfl, ad, e4, fun j hj => absurd hj ad⟩ ?_
      rintro ⟨n9, ⟨⟩⟩ k h5 ⟨i5, hi, rfl, hle5, e5, hd5⟩;simp only at hi;subst hi;refine an ?_;have hw5 : IntKind.wrap .i64 ((i5 : Int) + 1) = ((i5 + 1 : Nat) : Int) := by rw [wrap_i64 ad ad]; omega
      have e05 := e1.trans e5;have b5 := b1.ao e5 aj;refine ak (fun q5 => ?_) (fun q5 => ?_)
      · have q5 := WR q5
        have hil5 : i5 < us.length :=ad
        obtain ⟨a5, ta, tb, tc, td, ha5, hc5, va5⟩ := (v.ao e05).cells i5 hil5;refine ay ⟨ad, ad⟩ (av ha5 ?_);rw [show Int.toNat (i5 : Int) = i5 from ad];refine az ((td.p, td.l, td.c), ()) ⟨by rw [add_add]; exact hc5.2.2.2.1, trivial⟩ ?_;refine an ?_;refine ay ⟨ad, ad⟩ (av rfl ?_);refine az ((sd.p, sd.l, sd.c), ()) (hcg e05) ?_;refine an ?_;refine ay ⟨ad, ad⟩ (av hag ?_);rw [show Int.toNat (i4 : Int) = i4 from ad];refine az (u.aP[i4], ()) (aT e05 aj _ _ hcs) ?_;refine an ?_
        refine aI (Ig va5.aP.len (fun j hj => by
          obtain ⟨a, ha, hc, _⟩ := va5.aP.cells j hj;exact ⟨a, ha, hc⟩) (by have := va5.aP.many; omega) u.aP[i4]) ?_
        refine ⟨⟨hcg e05, trivial⟩, ?_⟩;refine ak (fun r => ?_) (fun r => ?_)
        · refine ay ⟨ad, ad⟩ (av rfl ?_)
          refine az ((sd.p, sd.l, sd.c), ()) (hcg e05) ?_;refine an ?_;refine ay ⟨ad, ad⟩ (av hag ?_);refine az (u.aP[i4], ()) (aT e05 aj _ _ hcs) ?_;refine an ?_;refine rW b5 e05 (W9 _) ⟨22, i3, u.aP[i4]⟩ fun h' e' => ⟨?_, e'⟩
          have hda : sH us i3 = some (i3, u.aP[i4]) := by
            unfold sH
            rw [hug, XR, kw (fun s => (us.take i3).any fun v => fz v.aP s) u.aP i4 hil4 (fun j hj => hd4 j hj ad) (by
              rw [YB];exact ⟨us[i5], List.mem_take_iff_getElem.2 ⟨i5, ad, rfl⟩, r⟩)]
            rfl
          unfold et zm;rw [WV hl0, WV h64, hfi, jG _ _ _ i3 hil3 hd3 hda]
        · refine aF (cs := [(false, [.int .i64])]) (((i5 + 1 : Nat) : Int), ()) (i3 - (i5 + 1)) rfl ad (Xa (fun z => [Value.int .i64 z]) hw5) ⟨i5 + 1, rfl, rfl, ad, e5, fun j hj hx => ?_⟩
          by_cases e : j = i5
          · subst e; exact r
          · exact hd5 j ad hx
      · have q5 := WS q5
        have : i5 = i3 :=ad
        subst this;refine aF (cs := [(false, [.int .i64])]) (((i4 + 1 : Nat) : Int), ()) (u.aP.length - (i4 + 1)) rfl ad (Xa (fun z => [Value.int .i64 z]) hw4) ⟨i4 + 1, rfl, rfl, ad, e5, fun j hj hx => ?_⟩
        by_cases e : j = i4
        · subst e
          rw [List.any_eq_false];intro w hw;obtain ⟨j5, hj5, rfl⟩ := List.mem_take_iff_getElem.1 hw;rw [hd5 j5 ad ad]
          simp
        · exact hd4 j ad hx
    · have q4 := WS q4
      have : i4 = u.aP.length :=ad
      subst this;refine aF (cs := [(false, [.int .i64])]) (((i3 + 1 : Nat) : Int), ()) (us.length - (i3 + 1)) rfl ad (Xa (fun z => [Value.int .i64 z]) hw3) ⟨i3 + 1, rfl, rfl, ad, e4, fun j hj => ?_⟩
      by_cases e : j = i3
      · subst e
        unfold sH;rw [hug, XR, nQ _ u.aP fun j hj => hd4 j hj hj] <;> rfl
      · exact hd3 j ad
  have q3 := WS q3;have hdn : zm us = none := fo _ _ fun j hj => hd3 j ad
  refine aR (cs := [(false, [.int .i64])]) (fun y k h' => ∃ i : Nat, y.1 = (i : Int) /\ k = us.length - i /\ i <= us.length /\ Ext h1 h' /\ ∀ j, j < i -> vk us j = none) ((0 : Int), ()) us.length rfl
    ⟨0, rfl, rfl, ad, e3, fun j hj => absurd hj ad⟩ ?_
  rintro ⟨n4, ⟨⟩⟩ k h4 ⟨i4, hi, rfl, hle4, e4, hu4⟩;simp only at hi;subst hi;refine an ?_;have hw4 : IntKind.wrap .i64 ((i4 : Int) + 1) = ((i4 + 1 : Nat) : Int) := by rw [wrap_i64 ad ad]; omega
  have e04 := e1.trans e4;have b4 := b1.ao e4 aj;refine ak (fun q4 => ?_) (fun q4 => ?_)
  · have q4 := WR q4
    have hil4 : i4 < us.length :=ad
    have hug : us[i4]? = some us[i4] := WT hil4;refine aH (C4 (c := c) (v.ao e04) sz hil4) ?_;rintro _ h5 ⟨rfl, e5⟩;refine ⟨(lM us i4 (cg us[i4]), ()), rfl, ?_⟩;refine an ?_;rw [yg]
    have hun : vk us i4 = if (lM us i4 (cg us[i4])).data.toList = [] then none else some (i4, lM us i4 (cg us[i4])) := by
      unfold vk;rw [hug, XR]
    refine ak (fun r => ?_) (fun r => ?_)
    · have r : ¬ (lM us i4 (cg us[i4])).data.toList = [] := by simpa using r
      rw [WV r] at hun;refine rW (b4.ao e5 aj) (e04.trans e5) (W9 _) ⟨23, i4, lM us i4 (cg us[i4])⟩ fun h' e' => ⟨?_, e'⟩
      unfold et E6;rw [WV hl0, WV h64, hfi, hdn, jG _ _ _ i4 hil4 hu4 hun]
    · have r : (lM us i4 (cg us[i4])).data.toList = [] := by simpa using r
      rw [W2 r] at hun;refine aF (cs := [(false, [.int .i64])]) (((i4 + 1 : Nat) : Int), ()) (us.length - (i4 + 1)) rfl ad (Xa (fun z => [Value.int .i64 z]) hw4) ⟨i4 + 1, rfl, rfl, ad, e4.trans e5, fun j hj => ?_⟩
      by_cases e : j = i4
      · subst e; exact hun
      · exact hu4 j ad
  · have q4 := WS q4
    refine rW b4 e04 (W9 _) ⟨0, 0, dt⟩ fun h' e' => ⟨?_, e'⟩
    unfold et E6;rw [WV hl0, WV h64, hfi, hdn, fo _ _ fun j hj => hu4 j ad]
theorem Mb (n:Nat):∀ (l:List ZA) (w:LW) (s:ZA),(l.foldl (ui n) w).gl s=if fz l s=true then some n else w.gl s
 | [],w,s=>by simp [fz]
 | a::l,w,s=>by
  rw [XI,Mb n l (ui n w a) s];have h1:fz (a::l) s=(decide (a=s) || fz l s):=by unfold fz; rw [List.any_cons]
  have h2:(ui n w a).gl s=if a=s then some n else w.gl s:=by
   show dy w.gl a n s=_;unfold dy
   by_cases h:s=a
   ·rw [W2 h,W2 h.symm]
   ·rw [WV h,WV fun e=>h e.symm]
  rw [h1,h2]
  by_cases ha:a=s <;> by_cases hl:fz l s=true <;> simp [ha,hl]
def Pt (us:List bJ) (s:ZA):Option Nat:=us.findIdx? fun u=>fz u.aP s
theorem Nx (us:List bJ) (s:ZA):(Pt us s).isSome=us.any fun u=>fz u.aP s:=by
 unfold Pt;rw [List.findIdx?_isSome]
theorem Ff (us:List bJ):∀ (k n:Nat) (w:LW),us.length-n=k->n<=us.length->(∀ s,w.gl s=Pt (us.take n) s)->(∀ j,j<n->sH us j=none) ->
  match j4 n (us.drop n) w with
  | .error q=>zm us=some q
  | .ok w'=>zm us=none/\∀ s,w'.gl s=Pt us s
 | 0,n,w,hk,hn,hg,hd=>by
  have:n=us.length:=ad
  subst this;rw [Yu];rw [XG] at hg;exact ⟨fo _ _ hd,hg⟩
 | k+1,n,w,hk,hn,hg,hd=>by
  have hlt:n<us.length:=ad
  rw [W8 hlt];unfold j4;have hug:us[n]?=some us[n]:=WT hlt;have hf:(fun g=>(w.gl g).isSome)=fun g=>(us.take n).any fun v=>fz v.aP g:=by
   funext g
   rw [hg,Nx]
  have hda:sH us n=(us[n].aP.find? fun g=>(w.gl g).isSome).map fun s=>(n,s):=by
   unfold sH;rw [hug,XR,hf]
  cases hx:us[n].aP.find? fun g=>(w.gl g).isSome with
  | some g =>
   rw [hx] at hda;exact jG _ _ _ n hlt hd hda
  | none =>
   rw [hx] at hda;refine Ff us k (n+1) (EL n us[n] w) ad hlt (fun s=>?_) (fun j hj=>?_)
   ·unfold EL;rw [Mb,WW hlt];unfold Pt;rw [Yy];have h0:=hg s;unfold Pt at h0;rw [<- h0]
    by_cases hi:fz us[n].aP s=true
    ·rw [W2 hi];have hm:s∈us[n].aP:=by
      unfold fz at hi;obtain ⟨x,hx1,hx2⟩:=YB.1 hi;rw [<- WR hx2]; exact hx1
     have:=List.find?_eq_none.1 hx s hm
     have hn0:w.gl s=none:=by
      cases hq:w.gl s with
      | none=>rfl
      | some q=>rw [hq] at this; exact absurd rfl this
     rw [hn0];simp [List.findIdx?_cons,hi,List.length_take];omega
    ·rw [WV hi];cases w.gl s <;> simp [List.findIdx?_cons,hi]
   ·by_cases e:j=n
    ·subst e; exact hda
    ·exact hd j ad
theorem wC (s:ZA) (n:Nat):∀ (us:List bJ) (m:Nat),(n,s)∈(bC m us).map ya↔∃ u,m<=n/\us[n-m]?=some u/\(s∈dL u.text\/s∈dL u.data)
 | [],m=>by simp [bC]
 | u::us,m=>by
  rw [bC,W5,Xj,wC s n us (m+1)];unfold uJ;rw [W5,re,re,Xj,WX,WX];constructor
  ·rintro ((⟨x,hx,he⟩ | ⟨x,hx,he⟩) | ⟨v,h1,h2,h3⟩)
   ·cases he;exact ⟨u,W9 _,aj,.inl hx⟩
   ·cases he;exact ⟨u,W9 _,aj,.inr hx⟩
   ·refine ⟨v,ad,?_,h3⟩;rw [show n-m=(n-(m+1))+1 from ad];exact h2
  ·rintro ⟨v,h1,h2,h3⟩
   by_cases e:n=m
   ·subst e;rw [YO] at h2;cases h2;rcases h3 with h3 | h3
    ·exact .inl (.inl ⟨s,h3,rfl⟩)
    ·exact .inl (.inr ⟨s,h3,rfl⟩)
   ·refine .inr ⟨v,ad,?_,h3⟩;rw [show n-m=(n-(m+1))+1 from ad] at h2;exact h2
theorem zu (s:ZA) (n:Nat):∀ (us:List bJ) (m:Nat),(n,s)∈(dX m us).map jI↔∃ u,m<=n/\us[n-m]?=some u/\s∈u.aY.map (·.1)
 | [],m=>by simp [dX]
 | u::us,m=>by
  rw [dX,W5,Xj,zu s n us (m+1),Xf];constructor
  ·rintro (h | ⟨v,h1,h2,h3⟩)
   ·obtain ⟨e,he,hee⟩:=WX.1 h;cases hee;exact ⟨u,W9 _,aj,WX.2 ⟨e,he,rfl⟩⟩
   ·refine ⟨v,ad,?_,h3⟩;rw [show n-m=(n-(m+1))+1 from ad];exact h2
  ·rintro ⟨v,h1,h2,h3⟩
   by_cases e:n=m
   ·subst e;rw [YO] at h2;cases h2;obtain ⟨x,hx,rfl⟩:=WX.1 h3;exact .inl (WX.2 ⟨x,hx,rfl⟩)
   ·refine .inr ⟨v,ad,?_,h3⟩;rw [show n-m=(n-(m+1))+1 from ad] at h2;exact h2
theorem xD (l:List Ky) (k:Ky):(mM l k).isSome=true↔k∈l:=by
 constructor
 ·intro h;apply Classical.byContradiction;intro hk;rw [nM.2 hk] at h;cases h
 ·intro h;obtain ⟨i,hi⟩:=zx h;rw [hi] <;> rfl
theorem Qt {us:List bJ} {w:LW} (i0:WI w (bC 0 us) ((dX 0 us).map jI)) {n:Nat} {u:bJ} (hu:us[n]?=some u) (s:ZA):w.has (n,s)=true↔s∈ek u:=by
 unfold LW.has;rw [i0.num,i0.sD,Bool.or_eq_true,xD,xD,wC,zu];unfold ek;rw [Xj,Xj];simp only [Nat.sub_zero,Nat.zero_le,true_and];constructor
 ·rintro (⟨v,hv,h⟩ | ⟨v,hv,h⟩)
  ·rw [hu] at hv; cases hv; exact .inl h
  ·rw [hu] at hv; cases hv; exact .inr h
 ·rintro (h | h)
  ·exact .inl ⟨u,hu,h⟩
  ·exact .inr ⟨u,hu,h⟩
theorem Mv {us:List bJ} {w:LW} (i0:WI w (bC 0 us) ((dX 0 us).map jI)) (hg:∀ s,w.gl s=Pt us s) {n:Nat} (hn:n<us.length) (s:ZA):w.own n s=(fU us n s).map fun o=>(o,s):=by
 have hu:=WT hn;have h1:=Qt i0 hu s;have h2:fz (ek us[n]) s=true↔s∈ek us[n]:=by
  unfold fz;rw [YB];constructor
  ·rintro ⟨x,hx,he⟩;rw [<- WR he]; exact hx
  ·intro h;exact ⟨s,h,W1 rfl⟩
 unfold LW.own fU;rw [hu,YQ,hg s]
 by_cases h:s∈ek us[n]
 ·rw [W2 (h1.2 h),W2 (by rw [h2.2 h])] <;> rfl
 ·rw [WV fun x=>h (h1.1 x),WV fun x=>h (h2.1 (Xc x))] <;> rfl
theorem Bo (n sec:Nat) (x:cB):∀ (l:List cB) (i:Nat),oI n sec i (l++[x])=oI n sec i l++if x.kind=1 then [⟨n,sec,i+l.length,x.name⟩] else []
 | [],i=>by simp [oI]
 | y::l,i=>by
  simp only [List.cons_append,oI,List.length_cons];rw [Bo n sec x l (i+1),show i+1+l.length=i+(l.length+1) from ad,Xh]
structure Di (h:Hp) (g:Nat) (su lb st sd:cn) (L:List Lb):Prop where
 box:bz h g 70 [su.v,lb.v,st.v,sd.v]
 pz:SL h (g+1) 82 4 lb.p lb.l lb.c (L.map Am)
theorem Di.ao {h h':Hp} {g:Nat} {su lb st sd:cn} {L:List Lb} (s:Di h g su lb st sd L) (e:Ext h h'):Di h' g su lb st sd L:=⟨s.box.ao e aj,s.pz.bF e aj⟩
theorem SS:Tryz.prog.underlying 67=some (.slice 82):=ax
theorem UP:(Tryz.prog.info? 82).map (fun i=>(i.zero,i.size,i.bytes))=some (some (.agg #[.int .i64 0,.int .i64 0,.int .i64 0,.string ⟨#[]⟩]),4,40):=ax
theorem Ej {h0 h:Hp} {g:Nat} {su lb st sd:cn} {L:List Lb} (hg:h0.size<=g) (e0:Ext h0 h) (s:Di h g su lb st sd L) {p:Option ZC} {l c:Nat} {xs:List cB} (v:CD h0 p l xs) (hL:L.length+xs.length<=2^40) (n sec:Nat) :
  HC Tryz.prog 61 #[.pointer (some ⟨g,0,none⟩),.int .i64 (n:Int),.int .i64 (sec:Int),.slice p l c] h fun w h'=>w=.tuple #[]/\Ext h0 h'/\h.size<=h'.size/\∃ lb',Di h' g su lb' st sd (L++oI n sec 0 xs):=by
 refine aX (args:=[.pointer (some ⟨g,0,none⟩),.int .i64 (n:Int),.int .i64 (sec:Int),.slice p l c]) mixed Tryz.func61 ax (gY (some ⟨g,0,none⟩) n sec p l c) ?_;unfold eK aZ bg bq aK bh aM;have hll:=v.len;refine aR (cs:=[(false,[.int .i64])]) (fun y k h'=>∃ (i:Nat) (lb':cn),y.1=(i:Int)/\k=xs.length-i/\i<=xs.length/\Ext h0 h'/\h.size<=h'.size/\Di h' g su lb' st sd (L++oI n sec 0 (xs.take i))) ((0:Int),()) xs.length rfl
  ⟨0,lb,rfl,rfl,ad,e0,W9 _,by simpa [oI] using s⟩ ?_
 rintro ⟨n4,⟨⟩⟩ k h1 ⟨i,lb1,hi,rfl,hle,e1,z1,s1⟩;simp only at hi;subst hi;refine an ?_;have hw:IntKind.wrap .i64 ((i:Int)+1)=((i+1:Nat):Int):=by rw [wrap_i64 ad ad]; omega
 refine ak (fun q=>?_) (fun q=>?_)
 ·have q:=WR q;have hil:i<xs.length:=ad
  have htk:xs.take (i+1)=xs.take i++[xs[i]]:=WW hil;have hsn:=Bo n sec xs[i] (xs.take i) 0;rw [<- htk,Xe,Yi ad,Xq] at hsn;obtain ⟨a,pp,ll,cc,rfl,hc,_⟩:=v.cells i hil;generalize xs[i]=x at hc hsn;refine ay ⟨ad,ad⟩ (av rfl ?_);rw [show Int.toNat (i:Int)=i from ad];refine az (x.kind,()) ⟨(aT e1 aj _ _ hc).1,trivial⟩ ?_;refine an ?_;refine ak (fun r=>?_) (fun r=>?_)
  ·have r:x.kind=1:=by simpa using r
   rw [W2 r] at hsn;refine av rfl ?_;rw [aE];refine af s1.box ((lb1.p,lb1.l,lb1.c),()) rfl ?_;refine an ?_;have hcn:∀ {h':Hp},Ext h0 h'->aG h' ((a.add (i*10)).add 1) 0 [.string x.name]:=fun e=>⟨by rw [add_add]; exact (aT e aj _ _ hc).2.1,trivial⟩
   refine ay ⟨ad,ad⟩ (av rfl ?_);refine az (x.name,()) (hcn e1) ?_;refine an ?_;have hl1:lb1.l=(L++oI n sec 0 (xs.take i)).length:=by have:=s1.pz.1; rwa [WQ] at this
   have hla:=qt n sec (xs.take i) 0;rw [WU] at hl1;rw [Xe] at hla;have hgs:=s1.box.lt;refine gu (vs:=Am ⟨n,sec,i,x.name⟩) SS UP rfl ad ad (NG _ _ _ _) rfl rfl s1.pz ad ad ad (fun h' e=>⟨hcn (e1.trans e),(s1.box.ao e aj).cells _ rfl,trivial⟩) ?_;intro p' c' h2 s2 k2 hp2;have hnb:∀ j,j∈aJ lb1.p->h0.size<=j/\g<j:=fun j hj=>by have:=(s1.pz.bY hj).1; omega
   have e2:Ext h0 h2:=Ch.trans e1 k2 (fun j hj hl=>by have:=hnb j hj; omega);have b2:=s1.box.ao k2 (fun hj=>by have:=hnb _ hj; omega);have z2:=k2.size;refine ⟨⟨hcn e2,trivial⟩,av rfl ?_⟩;rw [aE];refine aw b2 rfl aj ?_;intro h3 b3 k3 z3;have b3:bz h3 g 70 [su.v,(⟨p',lb1.l+1,c'⟩:cn).v,st.v,sd.v]:=b3;have e3:Ext h0 h3:=Ch.trans e2 k3 (fun j hj hl=>by simp at hj; omega);refine aF (cs:=[(false,[.int .i64])]) (((i+1:Nat):Int),()) (xs.length-(i+1)) rfl ad (Xa (fun z=>[Value.int .i64 z]) hw) ⟨i+1,⟨p',lb1.l+1,c'⟩,rfl,rfl,ad,e3,ad,b3,?_⟩;rw [hsn,<- Xh,W5];exact s2.bF k3 (fun j hj hh=>by have:=(s2.bY hj).1; simp at hh; omega)
  ·have r:¬ x.kind=1:=by simpa using r
   rw [WV r,XP] at hsn;refine aF (cs:=[(false,[.int .i64])]) (((i+1:Nat):Int),()) (xs.length-(i+1)) rfl ad (Xa (fun z=>[Value.int .i64 z]) hw) ⟨i+1,lb1,rfl,rfl,ad,e1,z1,by rw [hsn]; exact s1⟩
 ·have q:=WS q
  have:i=xs.length:=ad
  subst this;rw [XG] at s1;exact ⟨rfl,e1,z1,lb1,s1⟩
theorem Gs (u:Nat):Lib.nDigits u<=u+1:=by
 induction u using Nat.strongRecOn with
 | _ u ih =>
  rw [Lib.nDigits];split
  ·omega
  ·have:=ih (u / 10) ad
   omega
theorem Ba (n:Nat):(fI n).size<=n+1:=by
 have:(fI n).size=(Lib.decDigits n).length:=rfl
 rw [this,Lib.decDigits_length];exact Gs n
def Oh (L:List Lb) (o:Nat) (s:ZA):Option Nat:=L.findIdx? fun x=>decide (x.u=o) && decide (x.n=s)
def rf (L:List Lb) (o:Nat) (s:ZA):ZA:=match Oh L o s with
 | some i=>⟨#[76]⟩++fI i
 | none=>((⟨#[69]⟩++fI o)++⟨#[95]⟩)++s
def df (us:List bJ) (L:List Lb) (n:Nat) (s:ZA):ZA:=rf L ((fU us n s).getD 0) s
theorem IG {us:List bJ} {n o:Nat} {s:ZA} (h:fU us n s=some o):o<us.length:=by
 unfold fU at h;split at h
 ·rename_i hh;cases h;cases hu:us[n]? with
  | none=>rw [hu] at hh; cases hh
  | some u=>exact (W6.1 hu).1
 ·rw [Xd] at h;exact h.1
theorem S0 {L:List Lb} {o:Nat} {s:ZA} {i:Nat} (hi:i<L.length) (h:∀ j,(hj:j<i)->¬ ((L[j]'ad).u=o/\(L[j]'ad).n=s)) (h1:L[i].u=o) (h2:L[i].n=s):Oh L o s=some i:=by
 unfold Oh;rw [Xd];refine ⟨hi,by simp [h1,h2],fun j hj=>?_⟩
 have:=h j hj
 simpa using this
theorem N6 {L:List Lb} {o:Nat} {s:ZA} (h:∀ j,(hj:j<L.length)->¬ (L[j].u=o/\L[j].n=s)):Oh L o s=none:=by
 unfold Oh;rw [Xp];intro x hx;obtain ⟨j,hj,rfl⟩:=Xg hx
 have:=h j hj
 simpa using this
theorem Ih {h:Hp} {g:Nat} {su lb st sd:cn} {L:List Lb} (s:Di h g su lb st sd L) {us:List bJ} (v:uz h su.p su.l us) (sz:J2 us) {n:Nat} (hn:n<us.length) (hL:L.length<=2^40) {a:ZA} {o:Nat} (ho:fU us n a=some o) (ha:a.size<=2^60) :
  HC Tryz.prog 62 #[.pointer (some ⟨g,0,none⟩),.int .i64 (n:Int),.string a] h fun w h'=>w=.string (df us L n a)/\Ext h h':=by
 refine aX (args:=[.pointer (some ⟨g,0,none⟩),.int .i64 (n:Int),.string a]) mixed Tryz.func62 ax (iA (some ⟨g,0,none⟩) n a) ?_;unfold eV aZ bg bq aK cD hY bS aM;have hol:=IG ho;have hmany:=sz.many;refine av rfl ?_;refine af s.box ((su.p,su.l,su.c),()) rfl ?_;refine an ?_;refine aH (Fj (c:=su.c) v sz hn a) ?_;rintro _ h1 ⟨rfl,e1⟩;rw [ho];refine ⟨((o:Int),()),rfl,?_⟩;refine an ?_;have s1:=s.ao e1;have hw0:df us L n a=rf L o a:=by unfold df; rw [ho]; rfl
 rw [hw0];have hll:lb.l=L.length:=by have:=s.pz.1; rwa [WQ] at this
 refine aR (cs:=[(false,[.string]),(false,[.int .i64])]) (fun y k h'=>∃ i:Nat,y.2.1=(i:Int)/\k=L.length-i/\i<=L.length/\h'=h1/\∀ j,j<i->(hj:j<L.length)->¬ (L[j].u=o/\L[j].n=a)) ((⟨#[]⟩:ZA),(0:Int),()) L.length rfl
  ⟨0,rfl,rfl,ad,rfl,fun j hj=>absurd hj ad⟩ ?_
 rintro ⟨s8,n9,⟨⟩⟩ k h2 ⟨i,hi,rfl,hle,rfl,hno⟩;simp only at hi;subst hi;refine an ?_;have hw:IntKind.wrap .i64 ((i:Int)+1)=((i+1:Nat):Int):=by rw [wrap_i64 ad ad]; omega
 refine av rfl ?_;rw [aE];refine af s1.box ((lb.p,lb.l,lb.c),()) rfl ?_;refine an ?_;refine ak (fun q=>?_) (fun q=>?_)
 ·have q:=WR q;have hil:i<L.length:=ad
  refine av rfl ?_;rw [aE];refine af s1.box ((lb.p,lb.l,lb.c),()) rfl ?_;refine an ?_;obtain ⟨al,hal,hc⟩:=SL.cells s1.pz (i:=i) (by rw [WQ]; exact hil);rw [WY] at hc;refine ay ⟨ad,ad⟩ (av hal ?_);rw [show Int.toNat (i:Int)=i from ad];refine az ((L[i].u:Int),()) ⟨hc.1,trivial⟩ ?_;refine an ?_;have hback:¬ (L[i].u=o/\L[i].n=a)->T.again 0 [.string s8,.int .i64 (IntKind.wrap .i64 ((i:Int)+1))] [Jl (fun (y:qd (flat [(false,[TypeDesc.string]),(false,[TypeDesc.int .i64])])) k h'=>∃ i:Nat,y.2.1=(i:Int)/\k=L.length-i/\i<=L.length/\h'=h2/\∀ j,j<i->(hj:j<L.length)->¬ (L[j].u=o/\L[j].n=a)) (L.length-i)] (fun w h'=>w=.string (rf L o a)/\Ext h h') h2:=by
   intro hne;refine aF (cs:=[(false,[.string]),(false,[.int .i64])]) (s8,((i+1:Nat):Int),()) (L.length-(i+1)) rfl ad (Xa (fun z=>[Value.string s8,Value.int .i64 z]) hw) ⟨i+1,rfl,rfl,ad,rfl,fun j hj hx=>?_⟩
   by_cases e:j=i
   ·subst e; exact hne
   ·exact hno j ad hx
  refine ak (fun r=>?_) (fun r=>?_)
  ·have r:L[i].u=o:=by
    have:((L[i].u:Nat):Int)=(o:Int):=by simpa using r
    omega
   refine av rfl ?_;rw [aE];refine af s1.box ((lb.p,lb.l,lb.c),()) rfl ?_;refine an ?_;refine ay ⟨ad,ad⟩ (av hal ?_);refine az (L[i].n,()) ⟨by rw [add_add]; exact hc.2.2.2.1,trivial⟩ ?_;refine an ?_;rw [ph];refine ak (fun t=>?_) (fun t=>?_)
   ·have t:=WR t;refine aH (wz (n:=i) ad) ?_;rintro _ h3 ⟨rfl,e3⟩;refine ⟨(fI i,()),rfl,?_⟩;refine an ?_
    have:=Ba i
    refine ay ad ?_;refine ⟨?_,e1.trans e3⟩;unfold rf;rw [S0 hil (fun j hj=>hno j hj ad) r t]
   ·have t:=WS t;exact hback fun hh=>t hh.2
  ·refine hback fun hh=>?_
   rw [hh.1] at r;simp at r
 ·have q:=WS q
  have:i=L.length:=ad
  subst this;refine aH (wz (n:=o) ad) ?_;rintro _ h3 ⟨rfl,e3⟩;refine ⟨(fI o,()),rfl,?_⟩;refine an ?_;have hd:=Ba o;have h1:(⟨#[69]⟩++fI o:ZA).size=1+(fI o).size:=Yl ..;have h2:((⟨#[69]⟩++fI o)++⟨#[95]⟩:ZA).size=(⟨#[69]⟩++fI o:ZA).size+1:=Yl ..;refine ay ad (ay (by rw [h1]; omega) (ay (by rw [h2,h1]; omega) ?_));refine ⟨?_,e1.trans e3⟩;unfold rf;rw [N6 fun j hj=>hno j hj hj]
def r7 (f:ZA->ZA) (s:ZA):Option bX:=some (kU (f s))
def fV (us:List bJ) (L:List Lb) (n:Nat) (x:bX):bX:=cV (r7 (df us L n)) x
theorem Ov (s:ZA):Nf (kU s).ai:=⟨by simp [kU],by simp [kU]⟩
theorem IE {f:ZA->ZA}:∀ s y,r7 f s=some y->Nf y.ai:=by
 intro s y hy;cases hy;exact Ov _
theorem Tg (f:ZA->ZA) {t:ZA × Nat} (h:t.2≠0/\t.2<4294967296):Hc (r7 f) t=⟨[(f t.1,t.2)],0⟩:=by
 unfold Hc r7 Cp kU eW;simp only [List.filterMap_cons,List.filterMap_nil,Nat.one_mul,Nat.zero_mul,Nat.zero_mod];rw [Yt h.2,WV h.1]
theorem Dt {h:Hp} {g:Nat} {su lb st sd:cn} {L:List Lb} (s:Di h g su lb st sd L) {us:List bJ} (v:uz h su.p su.l us) (sz:J2 us) {n:Nat} (hn:n<us.length) (hL:L.length<=2^40) {q:Option ZC} {m d:Nat} {x:bX} (u:gn h q m x.ai)
  (hx:Nf x.ai) (hxn:x.num<4294967296) (hlx:x.ai.length<=2^30) (ho:∀ t,t∈x.ai->∃ o,fU us n t.1=some o) (hs:∀ t,t∈x.ai->t.1.size<=2^60) :
  HC Tryz.prog 63 #[.pointer (some ⟨g,0,none⟩),.int .i64 (n:Int),gH q m d x] h fun w h'=>Ext h h'/\∃ p' l' c',w=gH p' l' c' (fV us L n x)/\SL h' h.size 66 2 p' l' c' ((fV us L n x).ai.map cR):=by
 refine aX (args:=[.pointer (some ⟨g,0,none⟩),.int .i64 (n:Int),.agg #[.slice q m d,.int .u32 x.num]]) mixed Tryz.func63 ax (gZ (some ⟨g,0,none⟩) n q m d x.num) ?_;unfold eO aZ bg bq aK hY bG bh bd aM;have hmm:=u.len;refine bm ?_;intro h1 b1 e1 z1;refine bm ?_;intro h2 b2 e2 z2;have b1:=b1.ao e2 aj;rw [aE];refine af b1 ((x.num:Int),()) rfl ?_;refine an ?_;refine bm ?_;intro h3 b3 e3 z3;refine aw b3 rfl aj ?_;intro h4 b4 k4 z4;have b4:bz h4 h2.size 60 [.slice none 0 0,.int .u32 (x.num:Int)]:=b4;have e24:Ext h2 h4:=Ch.trans e3 k4 (fun j hj hl=>by simp at hj; omega);have b1:=b1.ao e24 aj;have b2:=b2.ao e24 aj;have e04:=(e1.trans e2).trans e24;have hb4:=b4.lt;have hz04:=e04.size;refine aR (cs:=[(false,[.int .i64])]) (fun y w h'=>∃ (i:Nat) (q:Option ZC) (m d:Nat),y.1=(i:Int)/\i<=x.ai.length/\w=x.ai.length-i/\Ch [h2.size] h4 h'/\bz h' h2.size 60 [.slice q m d,.int .u32 (((x.ai.take i).foldl (fy (r7 (df us L n))) ⟨[],x.num⟩).num:Int)] /\
  SL h' h4.size 66 2 q m d (((x.ai.take i).foldl (fy (r7 (df us L n))) ⟨[],x.num⟩).ai.map cR)) ((0:Int),()) x.ai.length rfl ⟨0,none,0,0,rfl,ad,ad,Ch.refl _ _,b4,SL.nil _ _ _ _⟩ ?_
 rintro ⟨n8,⟨⟩⟩ w h5 ⟨i,q5,m5,d5,hi,hile,rfl,k5,b5,s5⟩;simp only at hi;subst hi;refine an ?_;have b15:=b1.ao k5 (by simp; omega);have hz5:=k5.size;have e05:Ext h h5:=Ch.trans e04 k5 (fun j hj hl=>by simp at hj; omega);have u5:=u.ao e05 aj;refine af b15 ((q,m,d),()) rfl ?_;refine an ?_;have hw:IntKind.wrap .i64 ((i:Int)+1)=((i+1:Nat):Int):=by rw [wrap_i64 ad ad]; omega
 have hacc:=Bp (of:=r7 (df us L n)) IE hx hxn i;have hal:((x.ai.take i).foldl (fy (r7 (df us L n))) ⟨[],x.num⟩).ai.length<=x.ai.length:=by
  rw [hacc]
  have:=yx (eF (r7 (df us L n)) ⟨x.ai.take i,x.num⟩) (S:=x.ai.map fun t=>df us L n t.1) (fun t ht=>by
   obtain ⟨u',hu',h | ⟨y,w,hy,hw,he⟩⟩:=yz ht
   ·cases h.1
   ·cases hy;simp [kU] at hw;subst hw;rw [<- he];exact WX.2 ⟨u',XY hu',rfl⟩)
  rwa [WQ] at this
 refine ak (fun g1=>?_) (fun g1=>?_)
 ·have g1:=WR g1;have hilt:i<x.ai.length:=ad
  have htk:(x.ai.take (i+1)).foldl (fy (r7 (df us L n))) ⟨[],x.num⟩=fy (r7 (df us L n)) ((x.ai.take i).foldl (fy (r7 (df us L n))) ⟨[],x.num⟩) x.ai[i]:=by
   rw [WW hilt,XV] <;> rfl
  obtain ⟨a,rfl,hc⟩:=u5.cells i hilt;have htm:=WZ hilt;generalize x.ai[i]=t at hc htk htm;generalize hA:(x.ai.take i).foldl (fy (r7 (df us L n))) ⟨[],x.num⟩=A at b5 s5 hal htk hacc;obtain ⟨c1,c2⟩:=cL hc;obtain ⟨o,hoo⟩:=ho t htm;refine af b5 ((q5,m5,d5),(A.num:Int),()) rfl ?_;refine an ?_;refine af b15 ((some a,m,d),()) rfl ?_;refine an ?_;refine ay ⟨ad,ad⟩ (av rfl ?_);rw [show Int.toNat (i:Int)=i from ad];refine az (t.1,()) c1 ?_;refine an ?_;refine af b15 ((some a,m,d),()) rfl ?_;refine an ?_;refine ay ⟨ad,ad⟩ (av rfl ?_);refine az ((t.2:Int),()) c2 ?_;refine an ?_;refine aH (Ih (s.ao e05) (v.ao e05) sz hn hL hoo (hs t htm)) ?_;rintro _ h6 ⟨rfl,e6⟩;refine ⟨(df us L n t.1,()),rfl,?_⟩;refine an ?_;have hst:∀ {h':Hp},Ext h5 h'->aG h' (a.add (i*2)) 0 [.string t.1]/\aG h' ((a.add (i*2)).add 1) 0 [.int .u32 (t.2:Int)]/\aG h' ⟨h.size,0,none⟩ 0 [.slice (some a) m d]/\aG h' ⟨h2.size,0,none⟩ 0 [.slice q5 m5 d5,.int .u32 (A.num:Int)]:=fun e =>
   ⟨aT e aj _ _ c1,aT e aj _ _ c2,(b15.ao e aj).cells _ rfl,(b5.ao e aj).cells _ rfl⟩
  obtain ⟨q1,q2,q3,q4⟩:=hst e6;refine ⟨⟨q2,q3,q3,q4,trivial⟩,?_⟩;refine ml Gt sC ad ad (Gj _ _) ?_;intro h7 b7 e7 z7;obtain ⟨q1,q2,q3,q4⟩:=hst (e6.trans e7);refine ⟨⟨q2,q3,q1,q3,q4,trivial⟩,?_⟩;have e57:=e6.trans e7;have z57:=e57.size;refine aH (EH (x:=A) (y:=⟨[(df us L n t.1,t.2)],0⟩) (d:=1) (s5.bF e57 aj).Rq (UO b7) (fun j hj=>by have:=(s5.bY hj).2; omega) (fun j hj=>by simp [aJ] at hj; have:=b7.lt; omega) (by show A.ai.length+1<=_; omega)) ?_;rintro _ h8 ⟨e8,p',l',c',rfl,s8⟩;refine ⟨((p',l',c'),((xe A ⟨[(df us L n t.1,t.2)],0⟩).num:Int),()),rfl,?_⟩;refine an ?_;have e58:=e57.trans e8;obtain ⟨q1,q2,q3,q4⟩:=hst e58;refine ⟨⟨q2,q3,q1,q3,trivial⟩,?_⟩;refine aw (b5.ao e58 aj) rfl aj ?_;intro h9 b9 k9 z9;have b9:bz h9 h2.size 60 [.slice p' l' c',.int .u32 ((xe A ⟨[(df us L n t.1,t.2)],0⟩).num:Int)]:=b9;have hput:fy (r7 (df us L n)) A t=xe A ⟨[(df us L n t.1,t.2)],0⟩:=by
   unfold fy;rw [Tg _ (hx.2 t htm)]
  rw [hput] at htk;refine aF (cs:=[(false,[.int .i64])]) (((i+1:Nat):Int),()) (x.ai.length-(i+1)) rfl ad (Xa (fun z=>[Value.int .i64 z]) hw) ⟨i+1,p',l',c',rfl,ad,rfl,Ch.trans (Ch.trans k5 e58 aj) k9 (fun j hj _=>hj),by rw [htk]; exact b9,?_⟩;rw [htk];exact (s8.bF k9 (fun j hj=>by have:=(s8.bY hj).1; simp; omega)).mono ad
 ·have g1:=WS g1;have hi:i=x.ai.length:=ad
  subst hi;rw [XG,B8 IE hx hxn] at b5 s5;refine af b5 ((q5,m5,d5),((fV us L n x).num:Int),()) rfl ?_;refine an ?_;refine aw (b2.ao k5 (by simp; omega)) rfl aj ?_;intro h7 b7 k7 z7;have b7:bz h7 h1.size 60 [.slice q5 m5 d5,.int .u32 ((fV us L n x).num:Int)]:=b7;refine af b7 ((q5,m5,d5),((fV us L n x).num:Int),()) rfl ?_;exact ⟨Ch.trans e05 k7 (fun j hj hl=>by simp at hj; omega),q5,m5,d5,rfl,(s5.bF k7 (fun j hj=>by have:=(s5.bY hj).1; simp; omega)).mono ad⟩
structure Kq (us:List bJ) (n:Nat) (x:bX):Prop where
 nf:Nf x.ai
 num:x.num<4294967296
 len:x.ai.length<=2^30
 own:∀ t,t∈x.ai->∃ o,fU us n t.1=some o
 sz:∀ t,t∈x.ai->t.1.size<=2^60
theorem Ic (us:List bJ) (L:List Lb) (n:Nat) (x:bX):Nf (fV us L n x).ai:=eF _ _
theorem EA {us:List bJ} {L:List Lb} {n:Nat} {x:bX} (h:x.num<4294967296):(fV us L n x).num<4294967296:=rJ _ _ _ h
theorem D5 {us:List bJ} {L:List Lb} {n:Nat} {x:bX} {t:ZA × Nat} (ht:t∈(fV us L n x).ai):∃ u,u∈x.ai/\t.1=df us L n u.1:=by
 obtain ⟨u',hu',h | ⟨y,w,hy,hw,he⟩⟩:=yz ht
 ·cases h.1
 ·cases hy;simp [kU] at hw;subst hw;exact ⟨u',hu',he.symm⟩
def vQ (us:List bJ) (L:List Lb) (es:List cE) (n:Nat) (x:cB):cB:={ x with e:=cV (cj es) (fV us L n x.e) }
structure VW (h0 h':Hp) (p:Option ZC) (l c:Nat) (ws:List (cn × cB)):Prop where
 out:SL h' h0.size 64 10 p l c (ws.map sB)
 fe:∀ w,w∈ws->gn h' w.1.p w.1.l w.2.e.ai
 low:∀ w,w∈ws->w.2.e.ai≠[]->∀ i,i∈aJ w.1.p->i<h'.size/\i∉aJ p
theorem IW {h:Hp} {a:ZC} {v:ZB} (hc:gU h a=some v):a.block<h.size:=by
 unfold gU at hc;cases hb:h[a.block]? with
 | none=>simp [hb] at hc
 | some o=>exact eP hb
theorem Qw {h:Hp} {p:Option ZC} {l:Nat} {us:cU} (v:gn h p l us) (h0:us≠[]):∀ i,i∈aJ p->i<h.size:=by
 intro i hi;cases us with
 | nil=>exact absurd rfl h0
 | cons u us =>
  obtain ⟨a,rfl,hc⟩:=v.cells 0 aj
  have:i=a.block:=by simpa [aJ] using hi
  subst this
  have:=IW hc.1
  rwa [gV,gV] at this
theorem JQ {ws:List Nat} {h h':Hp} {p:Option ZC} {l:Nat} {us:cU} (v:gn h p l us) (k:Ch ws h h') (hw:us≠[]->∀ i,i∈aJ p->i∉ws):gn h' p l us:=by
 by_cases h0:us=[]
 ·subst h0;exact ⟨v.len,fun i hi=>absurd hi aj⟩
 ·exact v.ao k (hw h0)
theorem BU {h:Hp} {g:Nat} {su lb st sd:cn} {L:List Lb} (s:Di h g su lb st sd L) {us:List bJ} (v:uz h su.p su.l us) (sz:J2 us) {n:Nat} (hn:n<us.length) (hL:L.length<=2^40) {p:Option ZC} {l c:Nat} {xs:List cB} (vi:CD h p l xs)
  (hxl:xs.length<=2^20) (hxs:∀ x,x∈xs->Kq us n x.e)
  {q:Option ZC} {m d:Nat} {es:List cE} (ve:tH h q m es) (hb:∀ e,e∈es->∀ i,i∈aJ e.p->i<h.size) (hm:es.length<=2^40) {S:List ZA} (hS:S.length<=2^30) (hes:∀ e,e∈es->rX S e.x) (hSw:∀ x,x∈xs->∀ t,t∈x.e.ai->df us L n t.1∈S) :
  HC Tryz.prog 65 #[.pointer (some ⟨g,0,none⟩),.int .i64 (n:Int),.slice p l c,.slice q m d] h fun w h'=>Ext h h'/\∃ p' l' c' ws,w=.slice p' l' c'/\R9 h' h.size p' l' c' ws/\ws.map (·.2)=xs.map (vQ us L es n):=by
 refine aX (args:=[.pointer (some ⟨g,0,none⟩),.int .i64 (n:Int),.slice p l c,.slice q m d]) mixed Tryz.func65 ax (gy (some ⟨g,0,none⟩) n p l c q m d) ?_;unfold eA aZ bg bq aK bG bh aM;obtain ⟨w0,hw0,vd,hit⟩:=CG vi;have hl0:w0.length=xs.length:=by rw [<- hw0,WQ]
 have hll:=vd.len;refine lf (e:=64) (z:=.agg iz.toArray) (sz:=10) (by':=104) yD Fu rfl vd.src (by simpa using hll) (mW w0) (oZ w0) ad ad ?_;intro p1 c1 h1 s1 e1;have hlow0:∀ w,w∈w0->w.2.e.ai≠[]->∀ i,i∈aJ w.1.p->i<h.size:=fun w hw h0=>Qw (hit w hw).lin.vw h0
 refine aR (cs:=[(false,[.int .i64])]) (fun y k h'=>∃ (i:Nat) (ws:List (cn × cB)),y.1=(i:Int)/\k=xs.length-i/\i<=xs.length/\Ext h h'/\VW h h' p1 l c1 ws/\ws.length=xs.length/\(∀ j w,j<i->ws[j]?=some w->SL h' h.size 66 2 w.1.p w.1.l w.1.c (w.2.e.ai.map cR))/\∀ j x w,xs[j]?=some x->ws[j]?=some w->w.2=if j<i then vQ us L es n x else x) ((0:Int),()) xs.length rfl
  ⟨0,w0,rfl,rfl,ad,e1,⟨s1,fun w hw=>(hit w hw).lin.vw.ao e1 aj,fun w hw h0 i hi=>⟨by have:=hlow0 w hw h0 i hi; have:=e1.size; omega,fun hh=>by have:=(s1.bY hh).1; have:=hlow0 w hw h0 i hi; omega⟩⟩,hl0,fun j w hj=>absurd hj ad,fun j x w hx hw=>by
   rw [WV ad]
   have:(w0.map (·.2))[j]?=some w.2:=by rw [XB,hw]; rfl
   rw [hw0,hx] at this;exact (Xc this).symm⟩ ?_
 rintro ⟨n10,⟨⟩⟩ k h2 ⟨i,ws,hi,rfl,hle,e2,o2,hwl,hown,hj⟩;simp only at hi;subst hi;refine an ?_;have hwi:IntKind.wrap .i64 ((i:Int)+1)=((i+1:Nat):Int):=by rw [wrap_i64 ad ad]; omega
 refine ak (fun r=>?_) (fun r=>?_)
 ·have r:=WR r;have hil:i<xs.length:=ad
  have hiw:i<ws.length:=ad
  obtain ⟨a,rfl,hc⟩:=SL.cells o2.out (i:=i) (by rw [WQ]; exact hiw);rw [WY] at hc;have hxi:xs[i]?=some xs[i]:=WT hil;have hwi':ws[i]?=some ws[i]:=WT hiw;have hwx:=hj i _ _ hxi hwi';rw [WV ad] at hwx;have hxm:=WZ hil;have hwm:=WZ hiw;have vw:=o2.fe _ hwm;have lw:=o2.low _ hwm;generalize ws[i]=w at hc hwi' hwx hwm vw lw;generalize xs[i]=x at hxi hwx hxm;subst hwx;have hsw:=hxs w.2 hxm;refine ay ⟨ad,ad⟩ (av rfl ?_);rw [show Int.toNat (i:Int)=i from ad];refine az ((w.1.p,w.1.l,w.1.c),(w.2.e.num:Int),()) ⟨by rw [add_add]; exact hc.2.2.2.2.2.2.2.1,by rw [add_add]; exact hc.2.2.2.2.2.2.2.2.1,trivial⟩ ?_;refine an ?_;have z2:=e2.size;refine aH (Dt (d:=w.1.c) (s.ao e2) (v.ao e2) sz hn hL vw hsw.nf hsw.num hsw.len hsw.own hsw.sz) ?_;rintro _ h3 ⟨e3,p3,l3,c3,rfl,s3⟩;refine ⟨((p3,l3,c3),((fV us L n w.2.e).num:Int),()),rfl,?_⟩;refine an ?_;have z3:=e3.size;refine aH (HR (c:=c3) (d:=d) s3.Rq (ve.ao (e2.trans e3)) (fun j hj=>(s3.bY hj).2) (fun e he j hj=>by have:=hb e he j hj; omega) hm (Ic _ _ _ _) (EA hsw.num) (fun e he=>(hes e he).nf) hS (fun t ht=>by
   obtain ⟨u',hu',he'⟩:=D5 ht;rw [he'];exact hSw w.2 hxm u' hu') fun e he=>(hes e he).fe) ?_
  rintro _ h4 ⟨e4,p4,l4,c4,rfl,s4⟩;refine ⟨((p4,l4,c4),((cV (cj es) (fV us L n w.2.e)).num:Int),()),rfl,?_⟩;refine an ?_;have z4:=e4.size;have e24:=e3.trans e4;refine ay ⟨ad,ad⟩ (av rfl ?_);have so:=o2.out.bF e24 aj;refine SL.part (P:=Tryz.prog) so (i:=i) (by rw [WQ]; exact hiw) (vs:=[.slice p4 l4 c4,.int .u32 ((cV (cj es) (fV us L n w.2.e)).num:Int)]) (o:=7) aj (by simp [cP]) rfl ?_;intro h6 s6 k6 z6;have hse:(ws.map sB).set i (kM ((ws.map sB)[i]'(by rw [WQ]; exact hiw)) 7 [.slice p4 l4 c4,.int .u32 ((cV (cj es) (fV us L n w.2.e)).num:Int)])=(ws.set i (⟨p4,l4,c4⟩,vQ us L es n w.2)).map sB:=by
   rw [YN]
   congr 1
   rw [WY]
   have:ws[i]=w:=(W6.1 hwi').2
   rw [this] <;> rfl
  rw [hse] at s6;have hgb:∀ j,j∈aJ (some a)->h.size<=j/\j<h2.size:=fun j hj=>o2.out.bY hj
  have e6:Ext h h6:=Ch.trans (e2.trans e24) k6 (fun j hj hl=>by have:=hgb j hj; omega);refine aF (cs:=[(false,[.int .i64])]) (((i+1:Nat):Int),()) (xs.length-(i+1)) rfl ad (Xa (fun z=>[Value.int .i64 z]) hwi) ⟨i+1,_,rfl,rfl,ad,e6,⟨s6,fun w' hw'=>?_,fun w' hw' h0' j hj'=>?_⟩,by rw [Ya]; exact hwl,fun j w' hj' hw'=>?_,fun j x' w' hx' hw'=>?_⟩
  ·rcases X1 hw' with hw' | rfl
   ·exact JQ ((o2.fe w' hw').ao e24 aj) k6 (fun h0 j hj=>(o2.low w' hw' h0 j hj).2)
   ·exact (s4.bF k6 (fun j hj hh=>by have:=(s4.bY hj).1; have:=hgb j hh; omega)).Rq
  ·rcases X1 hw' with hw' | rfl
   ·obtain ⟨h1,h2⟩:=o2.low w' hw' h0' j hj';exact ⟨ad,h2⟩
   ·obtain ⟨h1,h2⟩:=s4.bY hj';exact ⟨ad,fun hh=>by have:=hgb j hh; omega⟩
  ·have hbx:∀ q,q∈aJ (some a)->∃ ys,bz h4 q 64 ys:=SL.Ay so
   by_cases hji:i=j
   ·subst hji;rw [YD hiw] at hw';cases hw';exact (SL.qG s4 k6 hbx bU).mono ad
   ·rw [Yp hji] at hw';exact SL.qG ((hown j w' ad hw').bF e24 aj) k6 hbx bU
  ·by_cases hji:i=j
   ·subst hji;rw [YD hiw] at hw';cases hw';rw [hxi] at hx';cases hx';rw [W2 ad]
   ·rw [Yp hji] at hw';have h2:=hj j x' w' hx' hw';rw [h2]
    by_cases hj2:j<i
    ·rw [W2 hj2,W2 ad]
    ·rw [WV hj2,WV ad]
 ·have r:=WS r
  have:i=xs.length:=ad
  subst this;refine ⟨e2,p1,l,c1,ws,rfl,⟨o2.out,fun w hw=>?_,fun _ _=>trivial⟩,?_⟩
  ·obtain ⟨j,hj1,rfl⟩:=Xg hw;exact hown j _ ad (WT hj1)
  apply YP
  ·rw [WQ,WQ,hwl]
  ·intro j h1' h2';rw [WY,WY];rw [WQ] at h1' h2'
   have:=hj j _ _ (WT h2') (WT h1')
   rw [this,W2 h2']
theorem Va:Tryz.prog.underlying 68=some (.slice 26):=ax
theorem VQ:(Tryz.prog.info? 26).map (fun i=>(i.zero,i.size,i.bytes))=some (some (.slice none 0 0),1,24):=ax
theorem OO (p:Option ZC) (l c:Nat):Instr.fill (fun j=>some (j*1,1)) ((Array.range (1*1)).map ((Value.slice none 0 0).cells[· % (Value.slice none 0 0).cells.size]!)) [(0,.slice p l c)]=some ([.slice p l c]:List ZB).toArray:=ax
structure uR (h:Hp) (b:Nat) (st:cn) (tw:List (cn × List (cn × cB))):Prop where
 sl:SL h b 26 1 st.p st.l st.c (tw.map fun x=>[x.1.v])
 fe:∀ x,x∈tw->R9 h b x.1.p x.1.l x.1.c x.2
theorem Nr {W:List Nat} {h h':Hp} {b:Nat} {p:Option ZC} {l c:Nat} {ws:List (cn × cB)} (s:R9 h b p l c ws) (k:Ch W h h') {e':TypeId} (hw:∀ i,i∈W->∃ ys,bz h i e' ys) (h1:64≠e') (h2:66≠e'):R9 h' b p l c ws :=
 ⟨SL.qG s.sl k hw h1,fun u hu=>SL.qG (s.own u hu) k hw h2,s.ok⟩
theorem Ea {h:Hp} {b b':Nat} {p:Option ZC} {l c:Nat} {ws:List (cn × cB)} (s:R9 h b p l c ws) (hb:b'<=b):R9 h b' p l c ws:=⟨s.sl.mono hb,fun u hu=>(s.own u hu).mono hb,s.ok⟩
theorem uR.ao {W:List Nat} {h h':Hp} {b:Nat} {st:cn} {tw:List (cn × List (cn × cB))} (s:uR h b st tw) (k:Ch W h h') {e':TypeId} (hw:∀ i,i∈W->∃ ys,bz h i e' ys) (hd:∀ i,i∈aJ st.p->i∉W) (h1:64≠e') (h2:66≠e'):uR h' b st tw :=
 ⟨s.sl.bF k hd,fun x hx=>Nr (s.fe x hx) k hw h1 h2⟩
theorem uR.ext {h h':Hp} {b:Nat} {st:cn} {tw:List (cn × List (cn × cB))} (s:uR h b st tw) (k:Ext h h'):uR h' b st tw:=s.ao (e':=0) k aj aj bU bU
theorem uR.nil (h:Hp) (b:Nat):uR h b lO []:=⟨SL.nil _ _ _ _,aj⟩
theorem uR.push {L:Lp} {K:ZB->Hp->Prop} {h:Hp} {b:Nat} {st:cn} {tw:List (cn × List (cn × cB))} (s:uR h b st tw) {x:cn × List (cn × cB)} (hx:R9 h b x.1.p x.1.l x.1.c x.2) (hb:b<=h.size) (hl:tw.length<=2^20) {l:List (ZC × List ZB)} (hst:∀ h',Ext h h'->T.C1 h' l) {k:Option ZC->Nat->Nat->T}
  (hk:∀ p' c' h',uR h' b ⟨p',st.l+1,c'⟩ (tw++[x])->Ch (aJ st.p) h h'->(p'=st.p\/∃ a,p'=some a/\h.size<=a.block)->k p' (st.l+1) c' L K h') :
  T.dY Tryz.prog (Instr.buildSlice 68 1 #[(0,.slice x.1.p x.1.l x.1.c)]) false [(false,[.slice 0])] (fun q m cc=>T.bf l (T.dY Tryz.prog (Builtin.append_ #[68,68] 68 #[.slice st.p st.l st.c,.slice q m cc]) false [(false,[.slice 0])] k)) L K h:=by
 have hll:st.l=tw.length:=by have:=s.sl.1; rwa [WQ] at this
 refine gu (vs:=[x.1.v]) Va VQ rfl ad ad (OO _ _ _) rfl rfl s.sl hb ad ad hst ?_;intro p' c' h' s' k' hp';refine hk p' c' h' ⟨by rw [W5]; exact s',fun y hy=>?_⟩ k' hp';have hbx:=SL.Ay s.sl;rcases Xj.1 hy with hy | hy
 ·exact Nr (s.fe y hy) k' hbx bU bU
 ·rw [Xu.1 hy];exact Nr hx k' hbx bU bU
def KA (lv:Nat) (pp00:Option ZC) (ll00:Nat) (a1 a7:ZC) (p16:Option ZC) (l17 l18:Nat):T :=
   T.loop [aM] [.int .i64 (0:Int)] <| fun (n21:Int) =>
   bq n21 ll00
   (T.ah (a7.add 2) [.slice 26] <| fun (p22:Option ZC) (l23:Nat) (l24:Nat) =>
   T.need (((0:Int)<=n21)/\(n21<(ll00:Int))) <|
   T.bk pp00 <| fun (a25:ZC) =>
   T.ah (a25.add (aK n21 4)) [.slice 64] <| fun (p26:Option ZC) (l27:Nat) (l28:Nat) =>
   bG 65 [.pointer (some a7),.int .i64 n21,.slice p26 l27 l28,.slice p16 l17 l18] false [(false,[.slice 64])] <| fun (p29:Option ZC) (l30:Nat) (l31:Nat) =>
   T.bf [((a7.add 2),[.slice p22 l23 l24])] <|
   bK (Instr.buildSlice 68 1 #[(0,.slice p29 l30 l31)]) false [db] <| fun (p32:Option ZC) (l33:Nat) (l34:Nat) =>
   T.bf [((a25.add (aK n21 4)),[.slice p26 l27 l28]),((a7.add 2),[.slice p22 l23 l24])] <|
   bK (Builtin.append_ #[68,68] 68 #[.slice p22 l23 l24,.slice p32 l33 l34]) false [db] <| fun (p35:Option ZC) (l36:Nat) (l37:Nat) =>
   T.bf [((a25.add (aK n21 4)),[.slice p26 l27 l28])] <|
   T.aC (a7.add 2) [.slice p35 l36 l37] <|
   T.ah (a7.add 3) [.slice 26] <| fun (p38:Option ZC) (l39:Nat) (l40:Nat) =>
   T.need (((0:Int)<=n21)/\(n21<(ll00:Int))) <|
   T.bk pp00 <| fun (a41:ZC) =>
   T.ah ((a41.add (aK n21 4)).add 1) [.slice 64] <| fun (p42:Option ZC) (l43:Nat) (l44:Nat) =>
   bG 65 [.pointer (some a7),.int .i64 n21,.slice p42 l43 l44,.slice p16 l17 l18] false [(false,[.slice 64])] <| fun (p45:Option ZC) (l46:Nat) (l47:Nat) =>
   T.bf [((a7.add 3),[.slice p38 l39 l40])] <|
   bK (Instr.buildSlice 68 1 #[(0,.slice p45 l46 l47)]) false [db] <| fun (p48:Option ZC) (l49:Nat) (l50:Nat) =>
   T.bf [(((a41.add (aK n21 4)).add 1),[.slice p42 l43 l44]),((a7.add 3),[.slice p38 l39 l40])] <|
   bK (Builtin.append_ #[68,68] 68 #[.slice p38 l39 l40,.slice p48 l49 l50]) false [db] <| fun (p51:Option ZC) (l52:Nat) (l53:Nat) =>
   T.bf [(((a41.add (aK n21 4)).add 1),[.slice p42 l43 l44])] <|
   T.aC (a7.add 3) [.slice p51 l52 l53] <|
   T.again lv [.int .i64 (bi (n21+(1:Int)))])
   (T.aC a1 [.int .i64 (0:Int),.int .i64 (0:Int),bS] <|
   T.ah a1 [.int .i64,.int .i64,.string] <| fun (n22:Int) (n23:Int) (s24:ZA) =>
   T.ret (.tuple #[.pointer (some a7),.agg #[.int .i64 n22,.int .i64 n23,.string s24]]))
def yc (us:List bJ) (L:List Lb) (es:List cE) (F:bJ->List cB) (i:Nat) (tw:List (cn × List (cn × cB))):Prop :=
 tw.length=i/\∀ n u x,us[n]?=some u->tw[n]?=some x->x.2.map (·.2)=(F u).map (vQ us L es n)
theorem yc.push {us:List bJ} {L:List Lb} {es:List cE} {F:bJ->List cB} {i:Nat} {tw:List (cn × List (cn × cB))} (t:yc us L es F i tw) {u:bJ} (hu:us[i]?=some u) {x:cn × List (cn × cB)} (hx:x.2.map (·.2)=(F u).map (vQ us L es i)):yc us L es F (i+1) (tw++[x]):=by
 obtain ⟨h1,h2⟩:=t;refine ⟨by rw [WU,h1]; rfl,fun n v y hv hy=>?_⟩
 by_cases hn:n<tw.length
 ·rw [Xm hn] at hy;exact h2 n v y hv hy
 ·rw [Xl ad] at hy;have hn0:n=tw.length:=by
   have:=(W6.1 hy).1
   simp at this;omega
  subst hn0;rw [YO] at hy;cases hy;rw [h1] at hv ⊢;rw [hu] at hv;cases hv;exact hx
structure R6 (us:List bJ) (L:List Lb) (S:List ZA) (n:Nat) (u:bJ):Prop where
 text:∀ x,x∈u.text->Kq us n x.e/\∀ t,t∈x.e.ai->df us L n t.1∈S
 data:∀ x,x∈u.data->Kq us n x.e/\∀ t,t∈x.e.ai->df us L n t.1∈S
theorem BF {L:Lp} {K:ZB->Hp->Prop} {h:Hp} {vs:List ZB} {cs:List fq} {I:qd (flat cs)->Nat->Hp->Prop} {n:Nat} (y:qd (flat cs)) (m:Nat) (hm:m<n) (hy:vs=parts cs (dU _ y)) (hI:I y m h):T.again L.length vs (L++[Jl I n]) K h :=
 aF y m (by rw [Xl (W9 _),YO]; rfl) hm hy hI
theorem Pr {L:Lp} {K:ZB->Hp->Prop} {h0 h:Hp} {ga g lv:Nat} {su lb:cn} {LB:List Lb} {us:List bJ} {a b:Int} {z:ZA} {p16:Option ZC} {l17 l18:Nat} {es:List cE} {S:List ZA} (hlv:lv=L.length) (hga:ga<g) (h0g:h0.size<=ga) (e0:Ext h0 h) (b1:bz h ga 54 [.int .i64 a,.int .i64 b,.string z])
  (pr:Di h g su lb lO lO LB) (v:uz h0 su.p su.l us) (sz:J2 us) (hL:LB.length<=2^40) (ve:tH h p16 l17 es) (hq:∀ i,i∈aJ p16->g<i) (hb:∀ e,e∈es->∀ i,i∈aJ e.p->g<i/\i<h.size) (hm:es.length<=2^40) (hS:S.length<=2^30) (hes:∀ e,e∈es->rX S e.x)
  (hW:∀ n u,us[n]?=some u->R6 us LB S n u)
  (hk:∀ h' st sd tw dw,Ext h0 h'->Di h' g su lb st sd LB->uR h' h.size st tw->uR h' h.size sd dw->yc us LB es (·.text) us.length tw->yc us LB es (·.data) us.length dw->K (.tuple #[.pointer (some ⟨g,0,none⟩),Oj ⟨0,0,dt⟩]) h') :
  KA lv su.p su.l ⟨ga,0,none⟩ ⟨g,0,none⟩ p16 l17 l18 L K h:=by
 subst hlv;unfold KA bq aK bG bK bi bS aM db;have hll:=v.len;have hmany:=sz.many;have hgs:=pr.box.lt;refine aR (cs:=[(false,[.int .i64])]) (fun y k h'=>∃ (i:Nat) (st sd:cn) (tw dw:List (cn × List (cn × cB))),y.1=(i:Int)/\k=us.length-i/\i<=us.length/\Ext h0 h'/\Ch [g] h h'/\bz h' g 70 [su.v,lb.v,st.v,sd.v]/\uR h' h.size st tw/\uR h' h.size sd dw/\(∀ j,j∈aJ st.p->j∉aJ sd.p) /\
  yc us LB es (·.text) i tw/\yc us LB es (·.data) i dw) ((0:Int),()) us.length rfl
  ⟨0,lO,lO,[],[],rfl,rfl,ad,e0,Ch.refl _ _,pr.box,uR.nil _ _,uR.nil _ _,by simp [lO,aJ],⟨rfl,fun n u x _ hx=>by simp at hx⟩,⟨rfl,fun n u x _ hx=>by simp at hx⟩⟩ ?_
 rintro ⟨n21,⟨⟩⟩ k h1 ⟨i,st,sd,tw,dw,hi,rfl,hle,e1,k1,b7,t1,d1,hdj,it,id⟩;simp only at hi;subst hi;refine an ?_;have hw:IntKind.wrap .i64 ((i:Int)+1)=((i+1:Nat):Int):=by rw [wrap_i64 ad ad]; omega
 have z1:=k1.size;refine ak (fun q=>?_) (fun q=>?_)
 ·have q:=WR q;have hil:i<us.length:=ad
  have hug:us[i]?=some us[i]:=WT hil;obtain ⟨au,sa,sb,sc,sd',hau,hcu,va⟩:=v.cells i hil;have hum:=WZ hil;generalize us[i]=u at hug hcu va hum;have uw:=hW i u hug;have prk:∀ {h':Hp} {st' sd2:cn},Ch [g] h h'->bz h' g 70 [su.v,lb.v,st'.v,sd2.v]->Di h' g su lb st' sd2 LB:=fun k bx=>⟨bx,pr.pz.bF k (fun j hj hh=>by have:=(pr.pz.bY hj).1; simp at hh; omega)⟩
  have vek:∀ {h':Hp},Ch [g] h h'->tH h' p16 l17 es:=fun k=>ve.lS k (fun j hj hh=>by have:=hq j hj; simp at hh; omega) (fun e he _ j hj hh=>by have:=(hb e he j hj).1; simp at hh; omega)
  have cu0:∀ {h':Hp},Ext h0 h'->aG h' (au.add (i*4)) 0 [.slice sa.p sa.l sa.c]:=fun e=>⟨(aT e aj _ _ hcu).1,trivial⟩
  have cu1:∀ {h':Hp},Ext h0 h'->aG h' ((au.add (i*4)).add 1) 0 [.slice sb.p sb.l sb.c]:=fun e=>⟨by rw [add_add]; exact (aT e aj _ _ hcu).2.1,trivial⟩
  rw [aE];refine af b7 ((st.p,st.l,st.c),()) rfl ?_;refine an ?_;refine ay ⟨ad,ad⟩ (av hau ?_);rw [show Int.toNat (i:Int)=i from ad];refine az ((sa.p,sa.l,sa.c),()) (cu0 e1) ?_;refine an ?_;refine aH (BU (c:=sa.c) (d:=l18) (prk k1 b7) (v.ao e1) sz hil hL (va.ao e1).text (sz.text u hum) (fun x hx=>(uw.text x hx).1) (vek k1) (fun e he j hj=>by have:=(hb e he j hj).2; omega) hm hS hes (fun x hx=>(uw.text x hx).2)) ?_;rintro _ h2 ⟨e2,p2,l2,c2,w2,rfl,o2,hm2⟩;refine ⟨((p2,l2,c2),()),rfl,?_⟩;refine an ?_;have z2:=e2.size;have e02:=e1.trans e2;have b72:=b7.ao e2 aj;refine ⟨⟨b72.cells _ rfl,trivial⟩,?_⟩;refine uR.push (x:=(⟨p2,l2,c2⟩,w2)) (t1.ext e2) (Ea o2 z1) ad (by rw [it.1]; omega) (by exact fun h' e=>⟨cu0 (e02.trans e),(b72.ao e aj).cells _ rfl,trivial⟩) ?_;intro p3 c3 h3 t3 k3 hp3;have hst3:∀ j,j∈aJ st.p->h.size<=j/\j<h1.size:=fun j hj=>t1.sl.bY hj
  have e03:Ext h0 h3:=Ch.trans e02 k3 (fun j hj hl=>by have:=hst3 j hj; have:=e0.size; omega);have kg3:Ch [g] h h3:=Ch.trans (Ch.trans k1 e2 aj) k3 (fun j hj hl=>by have:=hst3 j hj; omega);have b73:=b72.ao k3 (fun hj=>by have:=hst3 _ hj; omega);have d3:uR h3 h.size sd dw:=(d1.ext e2).ao (e':=26) k3 (SL.Ay (t1.ext e2).sl) (fun j hj hh=>hdj j hh hj) bU bU;have z3:=k3.size;refine ⟨⟨cu0 e03,trivial⟩,?_⟩;rw [aE];refine aw b73 rfl aj ?_;intro h4 b74 k4 z4;have b74:bz h4 g 70 [su.v,lb.v,(⟨p3,st.l+1,c3⟩:cn).v,sd.v]:=b74;have hg0:∀ j,j∈[g]->h0.size<=j:=fun j hj=>by simp at hj; omega
  have e04:Ext h0 h4:=Ch.trans e03 k4 (fun j hj hl=>by have:=hg0 j hj; omega);have kg4:Ch [g] h h4:=Ch.trans kg3 k4 (fun j hj _=>hj);have hbg:∀ {hh:Hp} {xs:List ZB},bz hh g 70 xs->∀ j,j∈[g]->∃ ys,bz hh j 70 ys:=fun bx j hj=>by
   rw [Xu] at hj;subst hj;exact ⟨_,bx⟩
  have hng:∀ {hh:Hp} {s:cn} {t:List (cn × List (cn × cB))},uR hh h.size s t->∀ j,j∈aJ s.p->j∉[g]:=fun t j hj hh=>by have:=(t.sl.bY hj).1; simp at hh; omega
  have t4:=t3.ao (e':=70) k4 (hbg b73) (hng t3) bU bU;have d4:=d3.ao (e':=70) k4 (hbg b73) (hng d3) bU bU;have hdj4:∀ j,j∈aJ p3->j∉aJ sd.p:=fun j hj hh=>by
   rcases hp3 with h | ⟨a',h,h'⟩
   ·rw [h] at hj; exact hdj j hj hh
   ·rw [h] at hj;simp [aJ] at hj
    have:=(d1.sl.bY hh).2
    omega
  refine af b74 ((sd.p,sd.l,sd.c),()) rfl ?_;refine an ?_;refine ay ⟨ad,ad⟩ (av hau ?_);refine az ((sb.p,sb.l,sb.c),()) (cu1 e04) ?_;refine an ?_;refine aH (BU (c:=sb.c) (d:=l18) (prk kg4 b74) (v.ao e04) sz hil hL (va.ao e04).data (sz.data u hum) (fun x hx=>(uw.data x hx).1) (vek kg4) (fun e he j hj=>by have:=(hb e he j hj).2; omega) hm hS hes (fun x hx=>(uw.data x hx).2)) ?_;rintro _ h5 ⟨e5,p5,l5,c5,w5,rfl,o5,hm5⟩;refine ⟨((p5,l5,c5),()),rfl,?_⟩;refine an ?_;have z5:=e5.size;have e05:=e04.trans e5;have b75:=b74.ao e5 aj;refine ⟨⟨b75.cells _ rfl,trivial⟩,?_⟩;refine uR.push (x:=(⟨p5,l5,c5⟩,w5)) (d4.ext e5) (Ea o5 ad) ad (by rw [id.1]; omega) (by exact fun h' e=>⟨cu1 (e05.trans e),(b75.ao e aj).cells _ rfl,trivial⟩) ?_;intro p6 c6 h6 d6 k6 hp6;have hsd6:∀ j,j∈aJ sd.p->h.size<=j/\j<h1.size:=fun j hj=>d1.sl.bY hj
  have e06:Ext h0 h6:=Ch.trans e05 k6 (fun j hj hl=>by have:=hsd6 j hj; have:=e0.size; omega);have kg6:Ch [g] h h6:=Ch.trans (Ch.trans kg4 e5 aj) k6 (fun j hj hl=>by have:=hsd6 j hj; omega);have b76:=b75.ao k6 (fun hj=>by have:=hsd6 _ hj; omega);have t6:uR h6 h.size ⟨p3,st.l+1,c3⟩ (tw++[(⟨p2,l2,c2⟩,w2)]):=(t4.ext e5).ao (e':=26) k6 (SL.Ay (d4.ext e5).sl) hdj4 bU bU;refine ⟨⟨cu1 e06,trivial⟩,?_⟩;refine aw b76 rfl aj ?_;intro h7 b77 k7 z7;have b77:bz h7 g 70 [su.v,lb.v,(⟨p3,st.l+1,c3⟩:cn).v,(⟨p6,sd.l+1,c6⟩:cn).v]:=b77;have e07:Ext h0 h7:=Ch.trans e06 k7 (fun j hj hl=>by have:=hg0 j hj; omega);refine BF (cs:=[(false,[.int .i64])]) (((i+1:Nat):Int),()) (us.length-(i+1)) ad (Xa (fun z=>[Value.int .i64 z]) hw) ⟨i+1,⟨p3,st.l+1,c3⟩,⟨p6,sd.l+1,c6⟩,_,_,rfl,rfl,ad,e07,Ch.trans kg6 k7 (fun j hj _=>hj),b77,
   t6.ao (e':=70) k7 (hbg b76) (hng t6) bU bU,d6.ao (e':=70) k7 (hbg b76) (hng d6) bU bU,fun j hj hh=>?_,it.push hug hm2,id.push hug hm5⟩
  rcases hp6 with h | ⟨a',h,h'⟩
  ·rw [h] at hh; exact hdj4 j hj hh
  ·rw [h] at hh;simp [aJ] at hh
   have:=(t4.sl.bY hj).2
   omega
 ·have q:=WS q
  have:i=us.length:=ad
  subst this;have b1':=b1.ao k1 (by simp; omega);refine aw b1' rfl aj ?_;intro h2 b2 k2 z2;have b2:bz h2 ga 54 [.int .i64 0,.int .i64 0,.string dt]:=b2;refine af b2 ((0:Int),(0:Int),dt,()) rfl ?_;have hba:∀ j,j∈[ga]->∃ ys,bz h1 j 54 ys:=fun j hj=>by
   rw [Xu] at hj;subst hj;exact ⟨_,b1'⟩
  have hna:∀ {s:cn} {t:List (cn × List (cn × cB))},uR h1 h.size s t->∀ j,j∈aJ s.p->j∉[ga]:=fun t j hj hh=>by have:=(t.sl.bY hj).1; simp at hh; omega
  refine hk h2 st sd tw dw (Ch.trans e1 k2 (fun j hj hl=>by simp at hj; omega)) ⟨b7.ao k2 (by simp; omega),?_⟩ (t1.ao (e':=54) k2 hba (hna t1) bU bU) (d1.ao (e':=54) k2 hba (hna d1) bU bU) it id;refine pr.pz.bF (Ch.trans (ws:=[g,ga]) (Ch.mono k1 aj) k2 aj) (fun j hj hh=>by have:=(pr.pz.bY hj).1; simp at hh; omega)
end Go.Sx.Lk
