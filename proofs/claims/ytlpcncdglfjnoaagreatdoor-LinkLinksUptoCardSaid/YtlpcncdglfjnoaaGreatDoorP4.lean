/- Contracts over heaps, and plain laws, for the functions that the laws of chapter 9 call, part 4: The document's Add over heaps. spandrelref11.Put over heaps. spandrelref11.met o Condition: as each statement says. -/
import Derived.Test.YtlpcncdglfjnoaaGreatDoorP3
import Derived.Test.YtlpcncdglfjnoaaGreatDoorBtL
set_option linter.all false
set_option maxRecDepth 100000
set_option maxHeartbeats 4000000
namespace Go.Sx
open Go.Proofs
theorem VP (a b:YA):Op.bytesLess (ByteArray.toList a) (ByteArray.toList b)=decide (gz a b):=by
 rw [ByteArray.toList_eq,ByteArray.toList_eq,Proofs.bytesLess_eq] <;> rfl
def Si (h:Hp) (g7:Nat) (x y:cZ) (N:Int) (i j:Nat) (h':Hp):Prop :=
 i<=x.length/\j<=y.length/\Ch [g7] h h'/\∃ O p l c f,bC h' g7 60 [.slice p l c,.int .u32 N]/\SL h' h.size 66 2 p l c (O.map cX)/\Ja x y=O++eZ f (x.drop i) (y.drop j)/\(x.length-i)+(y.length-j)<=f/\O.length<=i+j
theorem MS (f:Nat):eZ f [] []=[]:=by cases f <;> rfl
theorem Sq {f:Nat} {p:YA × Nat} {x y:cZ} (h:y=[]\/∃ q r,y=q::r/\gz p.1 q.1):eZ (f+1) (p::x) y=p::eZ f x y:=by
 rcases h with rfl | ⟨q,r,rfl,h⟩
 ·rfl
 ·show (if gz p.1 q.1 then _ else _)=_;rw [WC h]
theorem SX {f:Nat} {q:YA × Nat} {x y:cZ} (h:x=[]\/∃ p r,x=p::r/\gz q.1 p.1):eZ (f+1) x (q::y)=q::eZ f x y:=by
 rcases h with rfl | ⟨p,r,rfl,h⟩
 ·rfl
 ·show (if gz p.1 q.1 then _ else if gz q.1 p.1 then _ else _)=_;rw [Ww (AR h),WC h]
theorem OB {f:Nat} {p q:YA × Nat} {x y:cZ} (h1:¬ gz p.1 q.1) (h2:¬ gz q.1 p.1):eZ (f+1) (p::x) (q::y)=if (p.2+q.2) % 4294967296=0 then eZ f x y else (p.1,(p.2+q.2) % 4294967296)::eZ f x y:=by
 show (if gz p.1 q.1 then _ else if gz q.1 p.1 then _ else _)=_;rw [Ww h1,Ww h2]
def U6:cZ->cZ->Bool
 | [],_=>false
 | _::_,[]=>true
 | p::_,q::_=>decide (gz p.1 q.1)
theorem Eb {x y:cZ} (h:U6 x y=true):∃ p r,x=p::r/\(y=[]\/∃ q s,y=q::s/\gz p.1 q.1):=by
 cases x with
 | nil=>cases h
 | cons p r =>
  cases y with
  | nil=>exact ⟨p,r,rfl,.inl rfl⟩
  | cons q s=>exact ⟨p,r,rfl,.inr ⟨q,s,rfl,Ws h⟩⟩
theorem Bs {x y:cZ} (h:U6 x y=false):x=[]\/∃ p r q s,x=p::r/\y=q::s/\¬ gz p.1 q.1:=by
 cases x with
 | nil=>exact .inl rfl
 | cons p r =>
  cases y with
  | nil=>cases h
  | cons q s=>exact .inr ⟨p,r,q,s,rfl,rfl,Wt h⟩
theorem yo {α:Type} {l r:List α} {p:α} {i:Nat} (h:l.drop i=p::r):i<l.length:=by
 rcases Xg i l.length with h1 | h1
 ·exact h1
 ·rw [Xb h1] at h; cases h
theorem Fk {h:Hp} {p q:Option YC} {l c m d:Nat} {x y:bZ} (v:gp h p l x.ai) (u:gp h q m y.ai) (hp:∀ i,i∈aK p->i<h.size) (hq:∀ i,i∈aK q->i<h.size)
  (hl:x.ai.length+y.ai.length<=2^40) :
  HC Tryz.prog 92 #[gn p l c x,gn q m d y] h fun w h'=>Ext h h'/\∃ p' l' c',w=gn p' l' c' (vX x y)/\SL h' h.size 66 2 p' l' c' ((vX x y).ai.map cX):=by
 refine aZ (args:=[.agg #[.slice p l c,.int .u32 x.num],.agg #[.slice q m d,.int .u32 y.num]]) mixed Tryz.func92 az (qb p l c x.num q m d y.num) ?_;unfold lh aX bh bm aH bk bi aM bT;have hll:=v.len;have hmm:=u.len;refine bq ?_;intro h1 b1 e1 z1;refine bq ?_;intro h2 b2 e2 z2;refine bq ?_;intro h3 b3 e3 z3;have b1:=(b1.ao e2 aj).ao e3 aj;have b2:=b2.ao e3 aj;rw [aE,aE];refine af b1 ((x.num:Int),()) rfl ?_;refine an ?_;refine af b2 ((y.num:Int),()) rfl ?_;refine an ?_;refine bq ?_;intro h4 b4 e4 z4;refine aw b4 rfl aj ?_;intro h5 b5 k5 z5;rw [HG] at b5;have b5:bC h5 h3.size 60 [.slice none 0 0,.int .u32 (((x.num+y.num) % 4294967296:Nat):Int)]:=b5;have e35:Ext h3 h5:=Ch.trans e4 k5 (fun j hj hl=>by simp at hj; omega);have b1:=b1.ao e35 aj;have b2:=b2.ao e35 aj;have b3:=b3.ao e35 aj;have e05:=((e1.trans e2).trans e3).trans e35;have hz5:=e05.size;refine aR (cs:=[(false,[.int .i64]),(false,[.int .i64])]) (fun z w h'=>∃ i j:Nat,z.1=(i:Int)/\z.2.1=(j:Int)/\w=(x.ai.length-i)+(y.ai.length-j)/\Si h5 h3.size x.ai y.ai (((x.num+y.num) % 4294967296:Nat):Int) i j h')
  ((0:Int),(0:Int),()) (x.ai.length+y.ai.length) rfl ⟨0,0,rfl,rfl,rfl,Yl _,Yl _,Ch.refl _ _,[],none,0,0,x.ai.length+y.ai.length,b5,SL.nil _ _ _ _,rfl,ad,aj⟩ ?_
 rintro ⟨n1,n2,⟨⟩⟩ w h6 ⟨i,j,hi,hj,rfl,hil,hjl,k6,O,po,lo,co,f,b6,s6,hO,hf,hOl⟩;simp only at hi hj;subst hi hj;refine an ?_;have hb5:=b5.lt;have hz6:=k6.size;have b1:=b1.ao k6 (by simp; omega);have b2:=b2.ao k6 (by simp; omega);have b3:=b3.ao k6 (by simp; omega);have e06:Ext h h6:=Ch.trans e05 k6 (fun j hj hl=>by simp at hj; omega);have v6:=v.ao e06 aj;have u6:=u.ao e06 aj;have hlo:lo=O.length:=by rw [s6.1,Wr]
 have hwi:IntKind.wrap .i64 ((i:Int)+1)=((i+1:Nat):Int):=by rw [wrap_i64 ad ad]; omega
 have hwj:IntKind.wrap .i64 ((j:Int)+1)=((j+1:Nat):Int):=by rw [wrap_i64 ad ad]; omega
 have hsb:∀ i,i∈aK po->h5.size<=i:=fun i hi=>(s6.cd hi).1
 have hpm:∀ (k:Nat) (a:YC) (w:cZ) (vs:List YB),(some a=p\/some a=q)->aG h6 (a.add (k*2)) 0 vs->∀ h',Ch (aK po) h6 h'->aG h' (a.add (k*2)) 0 vs:=fun k a w vs ha hc h' kk=>aQ kk (by
  rw [gT];intro hm;have h1:=hsb _ hm;rcases ha with ha | ha
  ·have:=hp a.block (by rw [<- ha]; simp [aK]); omega
  ·have:=hq a.block (by rw [<- ha]; simp [aK]); omega) _ _ hc
 have push:∀ (t:YA × Nat) (i' j':Nat) (h7:Hp) (p7:Option YC) (c7:Nat),i'<=x.ai.length->j'<=y.ai.length->i+j+1<=i'+j'->eZ f (x.ai.drop i) (y.ai.drop j)=t::eZ (f-1) (x.ai.drop i') (y.ai.drop j')->(x.ai.length-i')+(y.ai.length-j')<=f-1 ->
   SL h7 h5.size 66 2 p7 (lo+1) c7 (O.map cX++[cX t])->Ch (aK po) h6 h7->∀ h8,bC h8 h3.size 60 [.slice p7 (lo+1) c7,.int .u32 (((x.num+y.num) % 4294967296:Nat):Int)]->Ch [h3.size] h7 h8->Si h5 h3.size x.ai y.ai (((x.num+y.num) % 4294967296:Nat):Int) i' j' h8:=by
  intro t i' j' h7 p7 c7 hi' hj' hij hF hf' s7 k7 h8 b8 k8;refine ⟨hi',hj',Ch.trans (Ch.trans k6 k7 (fun j hj hl=>by have:=hsb j hj; omega)) k8 (fun j hj _=>hj),O++[t],p7,lo+1,c7,f-1,b8,?_,?_,hf',by simp; omega⟩
  ·rw [WG];exact s7.bG k8 (fun j hj=>by have:=(s7.cd hj).1; simp; omega)
  ·rw [hO,hF]; simp
 refine iG (cs:=[(false,[.bool])]) (fun z h'=>z.1=(decide (i<x.ai.length) || decide (j<y.ai.length))/\h6=h') ?_ ?_
 ·refine af b1 ((p,l,c),()) rfl ?_;refine an ?_;refine ak (fun g1=>?_) (fun g1=>?_)
  ·have g1:=Ws g1;refine dF (cs:=[(false,[.bool])]) (true,()) rfl rfl ⟨?_,rfl⟩;rw [WB (show i<x.ai.length from ad)] <;> rfl
  ·have g1:=Wt g1;refine af b2 ((q,m,d),()) rfl ?_;refine an ?_;refine dF (cs:=[(false,[.bool])]) (decide ((j:Int)<(m:Int)),()) rfl rfl ⟨?_,rfl⟩;rw [WE (show ¬ i<x.ai.length from ad),Bool.false_or];show decide ((j:Int)<(m:Int))=decide (j<y.ai.length);rw [Ym];omega
 rintro ⟨b10,⟨⟩⟩ h6' ⟨hb10,rfl⟩;simp only at hb10;subst hb10;refine an ?_;refine ak (fun g1=>?_) (fun g1=>?_)
 ·simp only [Bool.or_eq_true,decide_eq_true_eq] at g1;obtain ⟨f',rfl⟩:∃ f',f=f'+1:=⟨f-1,ad⟩
  refine iG (cs:=[(false,[.bool])]) (fun z h'=>z.1=U6 (x.ai.drop i) (y.ai.drop j)/\h6=h') ?_ ?_
  ·refine af b2 ((q,m,d),()) rfl ?_;refine an ?_;refine ak (fun g2=>?_) (fun g2=>?_)
   ·have g2:(j:Int)=(m:Int):=by simpa using g2
    refine dF (cs:=[(false,[.bool])]) (true,()) rfl rfl ⟨?_,rfl⟩;rw [show y.ai.drop j=[] from Xb ad,WK (l:=x.ai) (i:=i) ad] <;> rfl
   ·have g2:¬ (j:Int)=(m:Int):=by simpa using g2
    have hjlt:j<y.ai.length:=ad
    refine af b1 ((p,l,c),()) rfl ?_;refine an ?_;refine ak (fun g3=>?_) (fun g3=>?_)
    ·have g3:=Ws g3;have hilt:i<x.ai.length:=ad
     have hdx:x.ai.drop i=x.ai[i]::x.ai.drop (i+1):=WK hilt;have hdy:y.ai.drop j=y.ai[j]::y.ai.drop (j+1):=WK hjlt;obtain ⟨a,ha,hc⟩:=v6.cells i hilt;obtain ⟨a',ha',hc'⟩:=u6.cells j hjlt;subst ha ha';refine af b1 ((some a,l,c),()) rfl ?_;refine an ?_;refine ay ⟨ad,ad⟩ (av rfl ?_);rw [show Int.toNat (i:Int)=i from ad];refine ax (x.ai[i].1,()) (cL hc).1 ?_;refine an ?_;refine af b2 ((some a',m,d),()) rfl ?_;refine an ?_;refine ay ⟨ad,ad⟩ (av rfl ?_);rw [show Int.toNat (j:Int)=j from ad];refine ax (y.ai[j].1,()) (cL hc').1 ?_;refine an ?_;rw [VP];refine dF (cs:=[(false,[.bool])]) (decide (gz x.ai[i].1 y.ai[j].1),()) rfl rfl ⟨?_,rfl⟩;rw [hdx,hdy] <;> rfl
    ·have g3:=Wt g3;refine dF (cs:=[(false,[.bool])]) (false,()) rfl rfl ⟨?_,rfl⟩;rw [show x.ai.drop i=[] from Xb ad] <;> rfl
  rintro ⟨b11,⟨⟩⟩ h6' ⟨hb11,rfl⟩;simp only at hb11;subst hb11;refine an ?_;refine ak (fun g2=>?_) (fun g2=>?_)
  ·obtain ⟨pp,rr,hdd,hor⟩:=Eb g2;have hilt:=yo hdd;have hdx:x.ai.drop i=x.ai[i]::x.ai.drop (i+1):=WK hilt;rw [hdx] at hdd;cases hdd;have hF:eZ (f'+1) (x.ai.drop i) (y.ai.drop j)=x.ai[i]::eZ (f'+1-1) (x.ai.drop (i+1)) (y.ai.drop j):=by
    rw [hdx];exact Sq hor
   obtain ⟨a,ha,hc⟩:=v6.cells i hilt;subst ha;refine af b6 ((po,lo,co),()) rfl ?_;refine an ?_;refine af b1 ((some a,l,c),()) rfl ?_;refine an ?_;refine ay ⟨ad,ad⟩ (av rfl ?_);rw [show Int.toNat (i:Int)=i from ad];refine ax (x.ai[i].1,(x.ai[i].2:Int),()) hc ?_;refine an ?_;refine gj (vs:=cX x.ai[i]) zt sg rfl ad ad az rfl rfl s6 ad ad ad (fun h' e=>⟨(b1.ao e aj).cells _ rfl,(b6.ao e aj).cells _ rfl,trivial⟩) ?_;intro p7 c7 h7 s7 k7 hp7;have b17:=b1.ao k7 (fun hh=>by have:=hsb _ hh; omega);have b67:=b6.ao k7 (fun hh=>by have:=hsb _ hh; omega);refine ⟨⟨hpm i a x.ai _ (.inl rfl) hc h7 k7,b17.cells _ rfl,trivial⟩,?_⟩;refine aw b67 rfl aj ?_;intro h8 b8 k8 z8;refine aF (cs:=[(false,[.int .i64]),(false,[.int .i64])]) (((i+1:Nat):Int),(j:Int),()) ((x.ai.length-(i+1))+(y.ai.length-j)) rfl ad (by rw [hwi]; rfl) ⟨i+1,j,rfl,rfl,rfl,?_⟩;exact push _ (i+1) j h7 p7 c7 ad hjl ad hF ad s7 k7 h8 b8 k8
  ·have g2:=Bs g2;refine iG (cs:=[(false,[.bool])]) (fun z h'=>z.1=U6 (y.ai.drop j) (x.ai.drop i)/\h6=h') ?_ ?_
   ·refine af b1 ((p,l,c),()) rfl ?_;refine an ?_;refine ak (fun g3=>?_) (fun g3=>?_)
    ·have g3:(i:Int)=(l:Int):=by simpa using g3
     refine dF (cs:=[(false,[.bool])]) (true,()) rfl rfl ⟨?_,rfl⟩;rw [show x.ai.drop i=[] from Xb ad,WK (l:=y.ai) (i:=j) ad] <;> rfl
    ·have g3:¬ (i:Int)=(l:Int):=by simpa using g3
     have hilt:i<x.ai.length:=ad
     have hjlt:j<y.ai.length:=by
      rcases Xg j y.ai.length with h | h
      ·exact h
      ·rcases g2 with g2 | ⟨_,_,_,_,_,g2,_⟩
       ·have:=List.drop_eq_nil_iff.1 g2; omega
       ·rw [Xb h] at g2; cases g2
     have hdx:x.ai.drop i=x.ai[i]::x.ai.drop (i+1):=WK hilt;have hdy:y.ai.drop j=y.ai[j]::y.ai.drop (j+1):=WK hjlt;obtain ⟨a,ha,hc⟩:=v6.cells i hilt;obtain ⟨a',ha',hc'⟩:=u6.cells j hjlt;subst ha ha';refine af b2 ((some a',m,d),()) rfl ?_;refine an ?_;refine ay ⟨ad,ad⟩ (av rfl ?_);rw [show Int.toNat (j:Int)=j from ad];refine ax (y.ai[j].1,()) (cL hc').1 ?_;refine an ?_;refine af b1 ((some a,l,c),()) rfl ?_;refine an ?_;refine ay ⟨ad,ad⟩ (av rfl ?_);rw [show Int.toNat (i:Int)=i from ad];refine ax (x.ai[i].1,()) (cL hc).1 ?_;refine an ?_;rw [VP];refine dF (cs:=[(false,[.bool])]) (decide (gz y.ai[j].1 x.ai[i].1),()) rfl rfl ⟨?_,rfl⟩;rw [hdx,hdy] <;> rfl
   rintro ⟨b12,⟨⟩⟩ h6' ⟨hb12,rfl⟩;simp only at hb12;subst hb12;refine an ?_;refine ak (fun g3=>?_) (fun g3=>?_)
   ·obtain ⟨pp,rr,hdd,hor⟩:=Eb g3;have hjlt:=yo hdd;have hdy:y.ai.drop j=y.ai[j]::y.ai.drop (j+1):=WK hjlt;rw [hdy] at hdd;cases hdd;have hF:eZ (f'+1) (x.ai.drop i) (y.ai.drop j)=y.ai[j]::eZ (f'+1-1) (x.ai.drop i) (y.ai.drop (j+1)):=by
     rw [hdy];exact SX hor
    obtain ⟨a,ha,hc⟩:=u6.cells j hjlt;subst ha;refine af b6 ((po,lo,co),()) rfl ?_;refine an ?_;refine af b2 ((some a,m,d),()) rfl ?_;refine an ?_;refine ay ⟨ad,ad⟩ (av rfl ?_);rw [show Int.toNat (j:Int)=j from ad];refine ax (y.ai[j].1,(y.ai[j].2:Int),()) hc ?_;refine an ?_;refine gj (vs:=cX y.ai[j]) zt sg rfl ad ad az rfl rfl s6 ad ad ad (fun h' e=>⟨(b2.ao e aj).cells _ rfl,(b6.ao e aj).cells _ rfl,trivial⟩) ?_;intro p7 c7 h7 s7 k7 hp7;have b27:=b2.ao k7 (fun hh=>by have:=hsb _ hh; omega);have b67:=b6.ao k7 (fun hh=>by have:=hsb _ hh; omega);refine ⟨⟨hpm j a y.ai _ (.inr rfl) hc h7 k7,b27.cells _ rfl,trivial⟩,?_⟩;refine aw b67 rfl aj ?_;intro h8 b8 k8 z8;refine aF (cs:=[(false,[.int .i64]),(false,[.int .i64])]) ((i:Int),((j+1:Nat):Int),()) ((x.ai.length-i)+(y.ai.length-(j+1))) rfl ad (by rw [hwj]; rfl) ⟨i,j+1,rfl,rfl,rfl,?_⟩;exact push _ i (j+1) h7 p7 c7 hil ad ad hF ad s7 k7 h8 b8 k8
   ·have g3:=Bs g3;have hb:i<x.ai.length/\j<y.ai.length:=by
     rcases g2 with g2 | ⟨_,_,_,_,e1,e2,_⟩
     ·have h1:=List.drop_eq_nil_iff.1 g2;rcases g3 with g3 | ⟨_,_,_,_,_,e2,_⟩
      ·have h2:=List.drop_eq_nil_iff.1 g3; omega
      ·rw [g2] at e2; cases e2
     ·exact ⟨yo e1,yo e2⟩
    obtain ⟨hilt,hjlt⟩:=hb;have hdx:x.ai.drop i=x.ai[i]::x.ai.drop (i+1):=WK hilt;have hdy:y.ai.drop j=y.ai[j]::y.ai.drop (j+1):=WK hjlt;have n1:¬ gz x.ai[i].1 y.ai[j].1:=by
     rcases g2 with g2 | ⟨_,_,_,_,e1,e2,hn⟩
     ·rw [hdx] at g2; cases g2
     ·rw [hdx] at e1; rw [hdy] at e2; cases e1; cases e2; exact hn
    have n2:¬ gz y.ai[j].1 x.ai[i].1:=by
     rcases g3 with g3 | ⟨_,_,_,_,e1,e2,hn⟩
     ·rw [hdy] at g3; cases g3
     ·rw [hdy] at e1; rw [hdx] at e2; cases e1; cases e2; exact hn
    have hF:eZ (f'+1) (x.ai.drop i) (y.ai.drop j)=if (x.ai[i].2+y.ai[j].2) % 4294967296=0 then eZ f' (x.ai.drop (i+1)) (y.ai.drop (j+1)) else (x.ai[i].1,(x.ai[i].2+y.ai[j].2) % 4294967296)::eZ f' (x.ai.drop (i+1)) (y.ai.drop (j+1)):=by
     rw [hdx,hdy];exact OB n1 n2
    obtain ⟨a,ha,hc⟩:=v6.cells i hilt;obtain ⟨a',ha',hc'⟩:=u6.cells j hjlt;subst ha ha';refine af b1 ((some a,l,c),()) rfl ?_;refine an ?_;refine ay ⟨ad,ad⟩ (av rfl ?_);rw [show Int.toNat (i:Int)=i from ad];refine ax ((x.ai[i].2:Int),()) (cL hc).2 ?_;refine an ?_;refine af b2 ((some a',m,d),()) rfl ?_;refine an ?_;refine ay ⟨ad,ad⟩ (av rfl ?_);rw [show Int.toNat (j:Int)=j from ad];refine ax ((y.ai[j].2:Int),()) (cL hc').2 ?_;refine an ?_;rw [HG];refine iG (cs:=[]) (fun z h'=>Si h5 h3.size x.ai y.ai (((x.num+y.num) % 4294967296:Nat):Int) (i+1) (j+1) h') ?_ ?_
    ·refine ak (fun g4=>?_) (fun g4=>?_)
     ·have g4:¬ (x.ai[i].2+y.ai[j].2) % 4294967296=0:=by
       have:¬ (((x.ai[i].2+y.ai[j].2) % 4294967296:Nat):Int)=0:=by simpa using g4
       omega
      rw [Ww g4] at hF;refine af b6 ((po,lo,co),()) rfl ?_;refine an ?_;refine af b1 ((some a,l,c),()) rfl ?_;refine an ?_;refine ay ⟨ad,ad⟩ (av rfl ?_);refine ax (x.ai[i].1,()) (cL hc).1 ?_;refine an ?_;refine gj (vs:=cX (x.ai[i].1,(x.ai[i].2+y.ai[j].2) % 4294967296)) zt sg rfl ad ad az rfl rfl s6 ad ad ad (fun h' e=>⟨aQ e aj _ _ (cL hc).1,(b1.ao e aj).cells _ rfl,(b6.ao e aj).cells _ rfl,trivial⟩) ?_;intro p7 c7 h7 s7 k7 hp7;have b17:=b1.ao k7 (fun hh=>by have:=hsb _ hh; omega);have b67:=b6.ao k7 (fun hh=>by have:=hsb _ hh; omega);refine ⟨⟨hpm i a x.ai _ (.inl rfl) (cL hc).1 h7 k7,b17.cells _ rfl,trivial⟩,?_⟩;refine aw b67 rfl aj ?_;intro h8 b8 k8 z8;exact dF (cs:=[]) () rfl rfl (push _ (i+1) (j+1) h7 p7 c7 ad ad ad hF ad s7 k7 h8 b8 k8)
     ·have g4:(x.ai[i].2+y.ai[j].2) % 4294967296=0:=by
       have:(((x.ai[i].2+y.ai[j].2) % 4294967296:Nat):Int)=0:=by simpa using g4
       omega
      rw [WC g4] at hF;exact dF (cs:=[]) () rfl rfl ⟨ad,ad,k6,O,po,lo,co,f',b6,s6,by rw [hO,hF],ad,ad⟩
    ·rintro ⟨⟩ h7 I7;exact aF (cs:=[(false,[.int .i64]),(false,[.int .i64])]) (((i+1:Nat):Int),((j+1:Nat):Int),()) ((x.ai.length-(i+1))+(y.ai.length-(j+1))) rfl ad (by rw [hwi,hwj]; rfl) ⟨i+1,j+1,rfl,rfl,rfl,I7⟩
 ·simp only [Bool.or_eq_false_iff,decide_eq_false_iff_not] at g1;rw [Xb ad,Xb ad,MS,Xy] at hO;refine af b6 ((po,lo,co),(((x.num+y.num) % 4294967296:Nat):Int),()) rfl ?_;refine an ?_;refine aw b3 rfl aj ?_;intro h7 b7 k7 z7;have b7:bC h7 h2.size 60 [.slice po lo co,.int .u32 (((x.num+y.num) % 4294967296:Nat):Int)]:=b7;refine af b7 ((po,lo,co),(((x.num+y.num) % 4294967296:Nat):Int),()) rfl ?_;refine ⟨Ch.trans e06 k7 (fun j hj hl=>by simp at hj; omega),po,lo,co,rfl,?_⟩;show SL h7 h.size 66 2 po lo co ((Ja x.ai y.ai).map cX);rw [hO];exact (s6.bG k7 (fun j hj=>by have:=hsb j hj; simp; omega)).mono ad
end Go.Sx
namespace Go.Sx.Lk
open Go.Proofs Go.Sx.Ob
def QQ (lv:Nat) (a5 a25:YC) (n6:Int):T :=
  T.ah a5 [.slice 66,.int .u32] <| fun (p40:Option YC) (l41:Nat) (l42:Nat) (n43:Int) =>
  T.ah a25 [.slice 66,.int .u32] <| fun (p44:Option YC) (l45:Nat) (l46:Nat) (n47:Int) =>
  bF 92 [.agg #[.slice p40 l41 l42,.int .u32 n43],.agg #[.slice p44 l45 l46,.int .u32 n47]] false [(true,[.slice 66,.int .u32])] <| fun (p48:Option YC) (l49:Nat) (l50:Nat) (n51:Int) =>
  T.aD a5 [.slice p48 l49 l50,.int .u32 n51] <|
  T.again lv [.int .i64 (bj (n6+(1:Int)))]
theorem Dt {L:Lp} {K:YB->Hp->Prop} {h:Hp} {lv g5 g25 l5 c5 l6 c6:Nat} {p5 p6:Option YC} {n6:Int} {o y:bZ} (b5:bC h g5 60 [.slice p5 l5 c5,.int .u32 o.num]) (b25:bC h g25 60 [.slice p6 l6 c6,.int .u32 y.num])
  (vo:gp h p5 l5 o.ai) (vy:gp h p6 l6 y.ai) (ho:∀ i,i∈aK p5->i<h.size) (hy:∀ i,i∈aK p6->i<h.size) (hl:o.ai.length+y.ai.length<=2^40)
  (hk:∀ p' l' c' h',Ch [g5] h h'->bC h' g5 60 [.slice p' l' c',.int .u32 (vX o y).num]->SL h' h.size 66 2 p' l' c' ((vX o y).ai.map cX)->T.again lv [.int .i64 (IntKind.wrap .i64 (n6+(1:Int)))] L K h') :
  QQ lv ⟨g5,0,none⟩ ⟨g25,0,none⟩ n6 L K h:=by
 unfold QQ bF bj;refine af b5 ((p5,l5,c5),(o.num:Int),()) rfl ?_;refine an ?_;refine af b25 ((p6,l6,c6),(y.num:Int),()) rfl ?_;refine an ?_;refine aI (Fk vo vy ho hy hl) ?_;rintro _ h1 ⟨e1,p',l',c',rfl,s1⟩;refine ⟨((p',l',c'),((vX o y).num:Int),()),rfl,?_⟩;refine an ?_;refine aw (b5.ao e1 aj) rfl aj ?_;intro h2 b2 k2 z2;have b2:bC h2 g5 60 [.slice p' l' c',.int .u32 ((vX o y).num:Int)]:=b2;have hg:=b5.lt;exact hk p' l' c' h2 (Ch.trans (Ch.mono e1 aj) k2 (fun j hj hl=>hj)) b2 (s1.bG k2 (fun j hj=>by have:=(s1.cd hj).1; simp; omega))
theorem TD {h:Hp} {g:Nat} {s:YA} {n:Nat} (b:bC h g 66 [.string s,.int .u32 n]):gp h (some ⟨g,0,none⟩) 1 [(s,n)] :=
 ⟨rfl,fun i hi=>by
  have:i=0:=by simpa using hi
  subst this;exact ⟨_,rfl,by rw [aE]; exact b.cells _ rfl⟩⟩
theorem AY {es:List cD} {s:YA} {k:Nat} (h:jP es s=some k):∃ hk:k<es.length,cj es s=some es[k].x:=by
 have h0:=h;unfold jP at h;rw [WR] at h;obtain ⟨hk,_⟩:=h;refine ⟨hk,?_⟩;unfold cj cm db;rw [h0];simp [hk]
theorem BK {es:List cD} {s:YA} (h:jP es s=none):cj es s=none:=by
 unfold cj cm;rw [h,Ww aj]
theorem Dw {es:List cD} {s:YA} {y:bZ} (h:cj es s=some y):∃ e,e∈es/\y=e.x:=by
 cases hp:jP es s with
 | none=>rw [BK hp] at h; cases h
 | some k =>
  obtain ⟨hk,h1⟩:=AY hp;rw [h1] at h;exact ⟨_,WA hk,(WQ h).symm⟩
theorem H8 {es:List cD} {x:bZ} {S:List YA} (hSx:∀ t,t∈x.ai->t.1∈S) (hSe:∀ e,e∈es->∀ t,t∈e.x.ai->t.1∈S):∀ t,t∈(cY (cj es) x).ai->t.1∈S:=by
 intro t ht;obtain ⟨u,hu,h | ⟨y,w,hy,hw,he⟩⟩:=zR ht
 ·rw [h.2]; exact hSx u hu
 ·obtain ⟨e,he',rfl⟩:=Dw hy;rw [<- he]; exact hSe e he' w hw
theorem Ii {h:Hp} {p q:Option YC} {l c m d:Nat} {x:bZ} {es:List cD} (v:gp h p l x.ai) (u:tu h q m es) (hp:∀ i,i∈aK p->i<h.size) (hb:∀ e,e∈es->∀ i,i∈aK e.p->i<h.size)
  (hm:es.length<=2^40) (hx:Nf x.ai) (hn:x.num<4294967296) (hes:∀ e,e∈es->Nf e.x.ai) {S:List YA} (hS:S.length<=2^30) (hSx:∀ t,t∈x.ai->t.1∈S) (hSe:∀ e,e∈es->∀ t,t∈e.x.ai->t.1∈S) :
  HC Tryz.prog 94 #[gn p l c x,.slice q m d] h fun w h'=>Ext h h'/\∃ p' l' c',w=gn p' l' c' (cY (cj es) x)/\SL h' h.size 66 2 p' l' c' ((cY (cj es) x).ai.map cX):=by
 refine aZ (args:=[.agg #[.slice p l c,.int .u32 x.num],.slice q m d]) mixed Tryz.func94 az (pz p l c x.num q m d) ?_;unfold j0 aX bh bm aH cn bF bk bi aM;have hll:=v.len;have hmm:=u.len;have hof:∀ s y,cj es s=some y->Nf y.ai:=fun s y hy=>by
  obtain ⟨e,he,rfl⟩:=Dw hy;exact hes e he
 have hlx:=zN hx hSx;refine bq ?_;intro h1 b1 e1 z1;refine bq ?_;intro h2 b2 e2 z2;have b1:=b1.ao e2 aj;rw [aE];refine af b1 ((x.num:Int),()) rfl ?_;refine an ?_;refine bq ?_;intro h3 b3 e3 z3;refine aw b3 rfl aj ?_;intro h4 b4 k4 z4;have b4:bC h4 h2.size 60 [.slice none 0 0,.int .u32 (x.num:Int)]:=b4;have e24:Ext h2 h4:=Ch.trans e3 k4 (fun j hj hl=>by simp at hj; omega);have b1:=b1.ao e24 aj;have b2:=b2.ao e24 aj;have e04:=(e1.trans e2).trans e24;have hb4:=b4.lt;have hz04:=e04.size;refine aR (cs:=[(false,[.int .i64])]) (fun y w h'=>∃ (i:Nat) (q:Option YC) (m d:Nat),y.1=(i:Int)/\i<=x.ai.length/\w=x.ai.length-i/\Ch [h2.size] h4 h'/\bC h' h2.size 60 [.slice q m d,.int .u32 (((x.ai.take i).foldl (fB (cj es)) ⟨[],x.num⟩).num:Int)] /\
  SL h' h4.size 66 2 q m d (((x.ai.take i).foldl (fB (cj es)) ⟨[],x.num⟩).ai.map cX)) ((0:Int),()) x.ai.length rfl ⟨0,none,0,0,rfl,ad,ad,Ch.refl _ _,b4,SL.nil _ _ _ _⟩ ?_
 rintro ⟨n8,⟨⟩⟩ w h5 ⟨i,q5,m5,d5,hi,hile,rfl,k5,b5,s5⟩;simp only at hi;subst hi;refine an ?_;have b15:=b1.ao k5 (by simp; omega);have hz5:=k5.size;have e05:Ext h h5:=Ch.trans e04 k5 (fun j hj hl=>by simp at hj; omega);have v5:=v.ao e05 aj;have u5:=u.ao e05;refine af b15 ((p,l,c),()) rfl ?_;refine an ?_;have hw:IntKind.wrap .i64 ((i:Int)+1)=((i+1:Nat):Int):=by rw [wrap_i64 ad ad]; omega
 have hacc:=Bl hof hx hn i;have hal:((x.ai.take i).foldl (fB (cj es)) ⟨[],x.num⟩).ai.length<=S.length:=by
  rw [hacc];exact zN (eE _ _) (H8 (fun t ht=>hSx t (Xx ht)) hSe)
 refine ak (fun g1=>?_) (fun g1=>?_)
 ·have g1:=Ws g1;have hilt:i<x.ai.length:=ad
  have htk:(x.ai.take (i+1)).foldl (fB (cj es)) ⟨[],x.num⟩=fB (cj es) ((x.ai.take i).foldl (fB (cj es)) ⟨[],x.num⟩) x.ai[i]:=by
   rw [Wx hilt,Xz] <;> rfl
  obtain ⟨a,rfl,hc⟩:=v5.cells i hilt;have htm:=WA hilt;generalize x.ai[i]=t at hc htk htm;generalize hA:(x.ai.take i).foldl (fB (cj es)) ⟨[],x.num⟩=A at b5 s5 hal htk hacc;obtain ⟨c1,c2⟩:=cL hc;have hab:=hp a.block (by simp [aK]);refine af b15 ((some a,l,c),()) rfl ?_;refine an ?_;refine ay ⟨ad,ad⟩ (av rfl ?_);rw [show Int.toNat (i:Int)=i from ad];refine ax (t.1,()) c1 ?_;refine an ?_;refine ic (Fa u5 ad t.1) ?_;refine af b15 ((some a,l,c),()) rfl ?_;refine an ?_;refine ay ⟨ad,ad⟩ (av rfl ?_);refine ax (t.1,(t.2:Int),()) hc ?_;refine an ?_;refine jX Gv sg ad ad (Gu _ _) ?_;intro h6 b6 e6 z6;refine bq ?_;intro h7 b7 e7 z7;refine aw b7 rfl aj ?_;intro h8 b8 k8 z8;have b8:bC h8 h6.size 60 [.slice (some ⟨h5.size,0,none⟩) 1 1,.int .u32 ((0:Nat):Int)]:=b8;have e58:Ext h5 h8:=Ch.trans (e6.trans e7) k8 (fun j hj hl=>by simp at hj; omega);have b68:=b6.ao (Ch.trans e7 k8 (fun j hj hl=>by simp at hj; omega):Ext h6 h8) aj;have b58:=b5.ao e58 aj;have b18:=b15.ao e58 aj;have s8:=s5.bG e58 (fun j hj=>aj)
  have hback:∀ y:bZ,GH (cj es) t=y->∀ p' l' c' h',Ext h5 h8->∀ h9,Ch [h6.size] h8 h9->Ch [h2.size] h9 h'->bC h' h2.size 60 [.slice p' l' c',.int .u32 (vX A y).num] ->
    SL h' h9.size 66 2 p' l' c' ((vX A y).ai.map cX)->Ch [h2.size] h4 h'/\bC h' h2.size 60 [.slice p' l' c',.int .u32 (((x.ai.take (i+1)).foldl (fB (cj es)) ⟨[],x.num⟩).num:Int)] /\
     SL h' h4.size 66 2 p' l' c' (((x.ai.take (i+1)).foldl (fB (cj es)) ⟨[],x.num⟩).ai.map cX):=by
   intro y hy p' l' c' h' _ h9 e9 k9 b9 s9;rw [htk];unfold fB;rw [hy]
   have:=e58.size
   have:=e9.size
   exact ⟨Ch.trans (Ch.trans (Ch.trans k5 e58 aj) e9 (fun j hj hl=>by simp at hj; omega)) k9 (fun j hj _=>hj),b9,s9.mono ad⟩
  refine ak (fun g2=>?_) (fun g2=>?_)
  ·have g2:=Ws g2;cases hpl:jP es t.1 with
   | none=>rw [hpl] at g2; exact absurd g2 (by unfold Ha; decide)
   | some k =>
    obtain ⟨hk,hlo⟩:=AY hpl;obtain ⟨ae,rfl,hce⟩:=(u5.ao e58).cells k hk;have hem:=WA hk;have vy:=(u5.ao e58).eY _ hem;generalize es[k]=e at hce hem vy hlo;have hble:=hb e hem;have hyl:=zN (hes e hem) (hSe e hem);refine ay ⟨by show (0:Int)<=(k:Int); omega,by show (k:Int)<_; omega⟩ (av rfl ?_);rw [show Int.toNat (Ha (some k))=k from Int.toNat_natCast k];refine ax ((e.p,e.l,e.c),(e.x.num:Int),()) ⟨by rw [add_add]; exact hce.2.1,by rw [add_add]; exact hce.2.2.1,trivial⟩ ?_;refine an ?_;refine af b18 ((some a,l,c),()) rfl ?_;refine an ?_;refine ay ⟨ad,ad⟩ (av rfl ?_);refine ax ((t.2:Int),()) (aQ e58 aj _ _ c2) ?_;refine an ?_
    have:=e58.size
    refine aI (F1 vy ad (fun j hj=>by have:=hble j hj; omega) t.2) ?_;rintro _ h9 ⟨e9,p9,l9,c9,rfl,s9⟩;refine ⟨((p9,l9,c9),((C7 e.x t.2).num:Int),()),rfl,?_⟩;refine an ?_;refine ⟨⟨(b18.ao e9 aj).cells _ rfl,trivial⟩,?_⟩;refine aw (b8.ao e9 aj) rfl aj ?_;intro h10 b10 k10 z10;have b10:bC h10 h6.size 60 [.slice p9 l9 c9,.int .u32 ((C7 e.x t.2).num:Int)]:=b10;have k810:Ch [h6.size] h8 h10:=Ch.trans (Ch.mono e9 aj) k10 (fun j hj hl=>hj);have e510:Ext h5 h10:=Ch.trans e58 k810 (fun j hj hl=>by simp at hj; omega);refine Dt (lv:=0) (o:=A) (y:=C7 e.x t.2) (b5.ao e510 aj) b10 (s5.bG e510 (fun j hj=>aj)).QH (s9.bG k10 (fun j hj=>by have:=(s9.cd hj).1; simp; omega)).QH
     (fun j hj=>by have:=(s5.cd hj).2; have:=e510.size; omega) (fun j hj=>by have:=(s9.cd hj).2; omega) (by have:=AB t.2 e.x.ai; show A.ai.length+(fe t.2 e.x.ai).length<=_; omega) ?_
    intro p' l' c' h11 k11 b11 s11;obtain ⟨r1,r2,r3⟩:=hback (C7 e.x t.2) (by unfold GH; rw [hlo]) p' l' c' h11 e58 h10 k810 k11 b11 s11;exact aF (cs:=[(false,[.int .i64])]) (((i+1:Nat):Int),()) (x.ai.length-(i+1)) rfl ad (WJ (fun z=>[Value.int .i64 z]) hw) ⟨i+1,p',l',c',rfl,ad,rfl,r1,r2,r3⟩
  ·have g2:=Wt g2;have hpl:jP es t.1=none:=by
    cases hpl:jP es t.1 with
    | none=>rfl
    | some k=>rw [hpl] at g2; exact absurd (show (0:Int)<=((k:Nat):Int) from ad) g2
   refine Dt (lv:=0) (o:=A) (y:=⟨[t],0⟩) b58 b8 s8.QH (TD b68) (fun j hj=>by have:=(s5.cd hj).2; have:=e58.size; omega) (fun j hj=>by simp [aK] at hj; have:=e58.size; have:=b68.lt; omega) (by show A.ai.length+1<=_; omega) ?_;intro p' l' c' h11 k11 b11 s11;obtain ⟨r1,r2,r3⟩:=hback ⟨[t],0⟩ (by unfold GH; rw [BK hpl]) p' l' c' h11 e58 h8 ((Ch.refl [h6.size] h8)) k11 b11 s11;exact aF (cs:=[(false,[.int .i64])]) (((i+1:Nat):Int),()) (x.ai.length-(i+1)) rfl ad (WJ (fun z=>[Value.int .i64 z]) hw) ⟨i+1,p',l',c',rfl,ad,rfl,r1,r2,r3⟩
 ·have g1:=Wt g1;have hi:i=x.ai.length:=ad
  subst hi;rw [Xd,Ck hof hx hn] at b5 s5;refine af b5 ((q5,m5,d5),((cY (cj es) x).num:Int),()) rfl ?_;refine an ?_;refine aw (b2.ao k5 (by simp; omega)) rfl aj ?_;intro h7 b7 k7 z7;have b7:bC h7 h1.size 60 [.slice q5 m5 d5,.int .u32 ((cY (cj es) x).num:Int)]:=b7;refine af b7 ((q5,m5,d5),((cY (cj es) x).num:Int),()) rfl ?_;exact ⟨Ch.trans e05 k7 (fun j hj hl=>by simp at hj; omega),q5,m5,d5,rfl,(s5.bG k7 (fun j hj=>by have:=(s5.cd hj).1; simp; omega)).mono ad⟩
theorem vk {es:List cD} {s:YA} {j:Nat} (h:jP es s=some j):∃ e,es[j]?=some e/\e.name=s:=by
 unfold jP at h;rw [WR] at h;obtain ⟨hj,h1,_⟩:=h;exact ⟨es[j],Wu hj,by simpa using h1⟩
theorem Oi {es:List cD} (hn:(aT es).Nodup) {i j:Nat} {d e:cD} (hi:es[i]?=some d) (hj:es[j]?=some e) (h:d.name=e.name):i=j:=by
 obtain ⟨h1,rfl⟩:=WM.1 hi;obtain ⟨h2,rfl⟩:=WM.1 hj;refine (List.getElem_inj (h₀:=by unfold aT; rw [Wr]; exact h1) (h₁:=by unfold aT; rw [Wr]; exact h2) hn).1 ?_;unfold aT;rw [Wy,Wy];exact h
theorem Is {es:List cD} (hn:(aT es).Nodup) {k j:Nat} {e:cD} (he:es[k]?=some e) {t:YA × Nat} (ht:t∈e.x.ai) (hp:jP es t.1=some j):∃ d,es[j]?=some d/\df es e.name d.name:=by
 obtain ⟨d,hd,hdn⟩:=vk hp;refine ⟨d,hd,?_,?_⟩
 ·rw [kA,oK hn (Xh he)];exact ⟨t,ht,hdn.symm⟩
 ·unfold cm;rw [hdn,hp] <;> rfl
theorem OR {es:List cD} (hn:(aT es).Nodup) {k:Nat} {e:cD} (he:es[k]?=some e) {z:YA} (h:df es e.name z):∃ t,t∈e.x.ai/\∃ j d,jP es t.1=some j/\es[j]?=some d/\d.name=z:=by
 obtain ⟨h1,h2⟩:=h;rw [kA,oK hn (Xh he)] at h1;obtain ⟨t,ht,rfl⟩:=h1;unfold cm at h2;obtain ⟨j,hj⟩:=Xn.1 h2;obtain ⟨d,hd,hdn⟩:=vk hj;exact ⟨t,ht,j,d,hj,hd,hdn⟩
structure oM (es:List cD) (i0:Nat) (a:YA) (kc i:Nat) (W:List Nat) (sn:List Bool):Prop where
 len:sn.length=es.length
 Ro:∀ w,w∈W->∃ e,es[w]?=some e/\ph (df es) a e.name
 src:sn[i0]?≠some true
 cl:∀ k e,es[k]?=some e->(k=i0\/sn[k]?=some true)->k∉W->∀ m t,e.x.ai[m]?=some t->(k=kc->m<i)->∀ j,jP es t.1=some j->j≠i0/\sn[j]?=some true
variable {es:List cD} {i0 kc i:Nat} {a:YA} {W:List Nat} {sn:List Bool}
theorem oM.start {e:cD} (he:es[i0]?=some e) (ha:e.name=a):oM es i0 a es.length 0 [i0] (List.replicate es.length false):=by
 have hf:∀ k:Nat,(List.replicate es.length false)[k]?≠some true:=by
  intro k h
  have:=Xh h
  rw [List.mem_replicate] at this;cases this.2
 refine ⟨aj,fun w hw=>?_,hf i0,fun k e he h hk=>?_⟩
 ·rw [W4] at hw;subst hw;exact ⟨e,he,by rw [ha]; exact .refl _⟩
 ·rcases h with h | h
  ·subst h; simp at hk
  ·exact absurd h (hf k)
theorem oM.pop (s:oM es i0 a es.length 0 (W++[kc]) sn):oM es i0 a kc 0 W sn/\∃ e,es[kc]?=some e/\ph (df es) a e.name:=by
 refine ⟨⟨s.len,fun w hw=>s.Ro w (by simp [hw]),s.src,fun k e he h hk m t ht hm j hj=>?_⟩,s.Ro kc aj⟩
 by_cases hkk:k=kc
 ·exact absurd (hm hkk) ad
 ·refine s.cl k e he h (by simp [hk,hkk]) m t ht (fun hh=>?_) j hj;obtain ⟨hl,_⟩:=WM.1 he;omega
theorem oM.skip (s:oM es i0 a kc i W sn) {e:cD} (he:es[kc]?=some e) {t:YA × Nat} (ht:e.x.ai[i]?=some t) (h:∀ j,jP es t.1=some j->j≠i0/\sn[j]?=some true):oM es i0 a kc (i+1) W sn:=by
 refine ⟨s.len,s.Ro,s.src,fun k d hd hh hk m u hu hm j hj=>?_⟩
 by_cases hc:k=kc/\m=i
 ·obtain ⟨rfl,rfl⟩:=hc;rw [he] at hd;cases hd;rw [ht] at hu;cases hu;exact h j hj
 ·refine s.cl k d hd hh hk m u hu (fun hkk=>?_) j hj
  have:=hm hkk
  have:m≠i:=fun hmi=>hc ⟨hkk,hmi⟩
  omega
theorem oM.push (s:oM es i0 a kc i W sn) (hn:(aT es).Nodup) {e:cD} (he:es[kc]?=some e) (hr:ph (df es) a e.name) {t:YA × Nat} (ht:e.x.ai[i]?=some t) {j:Nat} (hj:jP es t.1=some j) (h0:j≠i0) :
  oM es i0 a kc (i+1) (W++[j]) (sn.set j true):=by
 obtain ⟨d,hd,hed⟩:=Is hn he (Xh ht) hj;obtain ⟨hjl,_⟩:=WM.1 hd;have hjs:(sn.set j true)[j]?=some true:=by rw [Ye (by rw [s.len]; exact hjl)]
 have hup:∀ x:Nat,sn[x]?=some true->(sn.set j true)[x]?=some true:=by
  intro x hx
  by_cases hxj:j=x
  ·subst hxj; exact hjs
  ·rw [XY hxj]; exact hx
 refine ⟨by rw [XK]; exact s.len,fun w hw=>?_,by rw [XY h0]; exact s.src,fun k f hf hh hk m u hu hm j' hj'=>?_⟩
 ·rw [WV,W4] at hw;rcases hw with hw | rfl
  ·exact s.Ro w hw
  ·exact ⟨d,hd,hr.trans (.one hed)⟩
 ·rw [WV,W4] at hk;have hkj:j≠k:=fun e=>hk (Or.inr e.symm)
  rw [XY hkj] at hh
  by_cases hc:k=kc/\m=i
  ·obtain ⟨rfl,rfl⟩:=hc;rw [he] at hf;cases hf;rw [ht] at hu;cases hu;rw [hj] at hj';cases hj';exact ⟨h0,hjs⟩
  ·obtain ⟨h1,h2⟩:=s.cl k f hf hh (fun hx=>hk (Or.inl hx)) m u hu (fun hkk=>by
    have:=hm hkk
    have:m≠i:=fun hmi=>hc ⟨hkk,hmi⟩
    omega) j' hj'
   exact ⟨h1,hup _ h2⟩
theorem oM.done (s:oM es i0 a kc i W sn) {e:cD} (he:es[kc]?=some e) (hi:e.x.ai.length<=i):oM es i0 a es.length 0 W sn:=by
 refine ⟨s.len,s.Ro,s.src,fun k d hd hh hk m u hu hm j hj=>s.cl k d hd hh hk m u hu (fun hkk=>?_) j hj⟩;subst hkk;rw [he] at hd;cases hd;obtain ⟨hl,_⟩:=WM.1 hu;omega
theorem oM.no (s:oM es i0 a es.length 0 [] sn) (hn:(aT es).Nodup) {e:cD} (he:es[i0]?=some e) (ha:e.name=a):¬ jS (df es) a:=by
 have hcl:∀ k e,es[k]?=some e->(k=i0\/sn[k]?=some true)->∀ z,df es e.name z->∃ j d,es[j]?=some d/\d.name=z/\j≠i0/\sn[j]?=some true:=by
  intro k e he h z hz;obtain ⟨t,ht,j,d,hj,hd,hdz⟩:=OR hn he hz;obtain ⟨m,hm⟩:=List.getElem?_of_mem ht;obtain ⟨hkl,_⟩:=WM.1 he;obtain ⟨h1,h2⟩:=s.cl k e he h aj m t hm (fun hh=>ad) j hj;exact ⟨j,d,hd,hdz,h1,h2⟩
 have key:∀ y z,ph (df es) y z->z=a->(∃ j d,es[j]?=some d/\d.name=y/\j≠i0/\sn[j]?=some true)->False:=by
  intro y z r
  induction r with
  | refl y =>
   rintro rfl ⟨j,d,hd,hdn,h1,_⟩;exact h1 (Oi hn hd he (hdn.trans ha.symm))
  | head hE r ih =>
   rintro rfl ⟨j,d,hd,rfl,h1,h2⟩;exact ih rfl (hcl j d hd (Or.inr h2) _ hE)
 rintro ⟨y,hy,r⟩;rw [<- ha] at hy;exact key y a r rfl (hcl i0 e he (Or.inl rfl) y hy)
theorem OY (hn:(aT es).Nodup) {e:cD} (he:es[kc]?=some e) (hr:ph (df es) a e.name) {t:YA × Nat} (ht:t∈e.x.ai) {d:cD} (hd:es[i0]?=some d) (ha:d.name=a) (hj:jP es t.1=some i0):jS (df es) a:=by
 obtain ⟨d',hd',hed⟩:=Is hn he ht hj;rw [hd] at hd';cases hd';rw [ha] at hed;cases hr with
 | refl _=>exact ⟨_,hed,.refl _⟩
 | head h1 h2=>exact ⟨_,h1,h2.trans (.one hed)⟩
theorem Ta:Tryz.prog.underlying 204=some (.slice 4):=az
theorem Ua:(Tryz.prog.info? 4).map (fun i=>(i.zero,i.size,i.bytes))=some (some (.bool false),1,1):=az
theorem CA:Tryz.prog.underlying 126=some (.slice 3):=az
theorem Pc:(Tryz.prog.info? 3).map (fun i=>(i.zero,i.size,i.bytes))=some (some (.int .i64 0),1,8):=az
def Q5 (b:Bool):List YB:=[.bool b]
def J8 (n:Nat):List YB:=[.int .i64 (n:Int)]
theorem Na {α:Type} (f:α->YB) (l:List α):(l.map fun x=>[f x]).flatten=l.map f:=by
 induction l with
 | nil=>rfl
 | cons a l ih=>rw [Xf,XZ,ih]; rfl
theorem UR {h:Hp} {g:Nat} {e:TypeId} {sz:Nat} {cells:List YB} (xs:List (List YB)) (b:bC h g e cells) (hc:cells=xs.flatten) (hl:∀ x,x∈xs->x.length=sz) (hn:xs.length<9223372036854775808):SL h g e sz (some ⟨g,0,none⟩) xs.length xs.length xs:=by
 subst hc;exact ⟨rfl,hl,g,[],[],rfl,WH _,⟨WH _,hn⟩,by simpa using b,aj⟩
theorem B9 (n:Int):Instr.fill (fun j=>some (j*1,1)) ((Array.range (1*1)).map ((Value.int .i64 0).cells[· % (Value.int .i64 0).cells.size]!)) [(0,.int .i64 n)]=some ([.int .i64 n]:List YB).toArray:=az
theorem MD {L:Lp} {K:YB->Hp->Prop} {h:Hp} {n:Nat} (hn:n<=2^40) {k:Option YC->Nat->Nat->T} (hk:∀ h',SL h' h.size 4 1 (some ⟨h.size,0,none⟩) n n ((List.replicate n false).map Q5)->Ext h h'->h'.size=h.size+1->k (some ⟨h.size,0,none⟩) n n L K h') :
  T.dW Tryz.prog (Instr.makeSlice 204 (.int .i64 (n:Int)) (.int .i64 (n:Int))) false [(false,[.slice 0])] k L K h:=by
 obtain ⟨i5,hi5,hz5,hs5,hb5⟩:=kH Ua;refine cR (pA (l:=n) (c:=n) Ta hi5 hz5 (WH _) (by rw [hb5]; omega) ad ?_);intro h14 b14 e14 z14;refine ⟨_,_,_,rfl,hk h14 ?_ e14 z14⟩;have hc:(List.range (n*i5.size)).map ((Value.bool false).cells[· % (Value.bool false).cells.size]!)=((List.replicate n false).map Q5).flatten:=by
  rw [hs5,Nat.mul_one];show _=((List.replicate n false).map fun b=>[Value.bool b]).flatten;rw [Na];apply Yp
  ·simp
  ·intro i h1 h2;rw [Wy,Wy,List.getElem_replicate];show (#[Value.bool false]:Array YB)[((List.range n)[i]'(by simpa using h1)) % 1]! = _;rw [Nat.mod_one] <;> rfl
 have:=UR ((List.replicate n false).map Q5) b14 hc (fun x hx=>by obtain ⟨b,_,rfl⟩:=Wz.1 hx; rfl) (by simp; omega)
 rw [Wr,List.length_replicate] at this;exact this
def nF (sn:List Bool):Nat:=sn.count false
theorem Mh:∀ (sn:List Bool) (j:Nat),sn[j]?=some false->nF (sn.set j true)+1=nF sn
 | [],j,h=>by simp at h
 | b::l,0,h=>by
  simp at h;subst h;simp [nF]
 | b::l,j+1,h=>by
  have ih:=Mh l j (by simpa using h);unfold nF at ih ⊢;rw [List.set_cons_succ,List.count_cons,List.count_cons];omega
theorem O5 (sn:List Bool) (j:Nat):(sn.map Q5).set j [.bool true]=(sn.set j true).map Q5:=by rw [Yn]; rfl
theorem LI (p:Option YC) (c:Nat):(if c=0 then p else Option.map (fun a=>Addr.add a 0) p)=p:=by
 split
 ·rfl
 ·cases p with
  | none=>rfl
  | some a=>show some (a.add 0)=some a; rw [add_zero']
open Classical in
theorem OM {h:Hp} {p:Option YC} {l c:Nat} {es:List cD} (v:tu h p l es) (hn:(aT es).Nodup) (hl:es.length<=2^40) (ht:∀ e,e∈es->e.x.ai.length<=2^40) {i0:Nat} {e0:cD} (he0:es[i0]?=some e0) :
  HC Tryz.prog 114 #[.slice p l c,.int .i64 (i0:Int),.int .i64 (i0:Int)] h fun w h'=>Ext h h'/\w=.bool (decide (jS (df es) e0.name)):=by
 refine aZ (args:=[.slice p l c,.int .i64 (i0:Int),.int .i64 (i0:Int)]) mixed Tryz.func114 az (oS p l c i0 i0) ?_;unfold kg aX bh bm aH cn bk bj bo dI aM bT da;obtain rfl:=v.len;obtain ⟨hi0,_⟩:=WM.1 he0;refine MD hl ?_;intro h1 sB1 e1 z1;refine jX CA Pc ad ad (B9 _) ?_;intro h2 b2 e2 z2;have sW2:SL h2 h1.size 3 1 (some ⟨h1.size,0,none⟩) 1 1 ([i0].map J8):=UR [[.int .i64 (i0:Int)]] b2 rfl aj aj;have sB2:=sB1.bG e2 aj;have e02:=e1.trans e2;refine aR (cs:=[(false,[.bool]),(false,[.slice 0])]) (fun y m h'=>∃ (W:List Nat) (sn:List Bool),m=nF sn+W.length/\m<=es.length+1/\Ext h h'/\h1.size<=h'.size/\SL h' h.size 4 1 (some ⟨h.size,0,none⟩) es.length es.length (sn.map Q5)/\SL h' h1.size 3 1 y.2.1.1 y.2.1.2.1 y.2.1.2.2 (W.map J8)/\oM es i0 e0.name es.length 0 W sn)
  (false,(some ⟨h1.size,0,none⟩,1,1),()) _ rfl ⟨[i0],List.replicate es.length false,rfl,by simp [nF],e02,ad,sB2,sW2,oM.start he0 rfl⟩ ?_
 rintro ⟨b9,⟨p10,l11,l12⟩,⟨⟩⟩ m h3 ⟨W,sn,rfl,hM,e3,z3,sB3,sW3,I3⟩;simp only at sW3;refine an ?_;have hlW:l11=W.length:=by have:=sW3.1; rwa [Wr] at this
 have hWn:∀ w,w∈W->w<es.length:=fun w hw=>by
  obtain ⟨e,he,_⟩:=I3.Ro w hw;exact (WM.1 he).1
 refine ak (fun g1=>?_) (fun g1=>?_)
 ·have g1:=Ws g1;rcases List.eq_nil_or_concat W with rfl | ⟨W0,kc,rfl⟩
  ·simp at hlW; omega
  ·rw [List.concat_eq_append] at hlW sW3 I3 hWn hM;have hM':nF sn+(W0.length+1)<=es.length+1:=by simpa using hM
   have hlW:l11=W0.length+1:=by simpa using hlW
   subst hlW;obtain ⟨I4,e,he,hr⟩:=I3.pop;have hkc:=(WM.1 he).1;have hem:=Xh he;have hw1:IntKind.wrap .i64 (((W0.length+1:Nat):Int)-1)=(W0.length:Int):=by rw [wrap_i64 ad ad]; omega
   obtain ⟨a,rfl,hc⟩:=SL.cells sW3 (i:=W0.length) aj;have hc:aG h3 (a.add (W0.length*1)) 0 [.int .i64 (kc:Int)]:=by simpa [J8] using hc
   rw [hw1,show Int.toNat (W0.length:Int)=W0.length from ad];refine ay ⟨ad,ad⟩ (av rfl ?_);refine ax ((kc:Int),()) hc ?_;refine an ?_;have hcap:W0.length+1<=l12:=by
    obtain ⟨g,pre,rest,_,_,hlc,_⟩:=sW3.2.2;exact hlc.1
   refine ay ⟨ad,ad,ad⟩ ?_;rw [LI,Yw,Yw];have sW4:=SL.take sW3 (k:=W0.length) ad;rw [<- List.map_take,Ys] at sW4;have hte:=ht e hem;refine aR (cs:=[(false,[.bool]),(false,[.slice 0]),(false,[.int .i64])]) (fun y m h'=>∃ (W:List Nat) (sn':List Bool) (i:Nat),y.2.2.1=(i:Int)/\i<=e.x.ai.length/\m=e.x.ai.length-i/\nF sn'+W.length+1=nF sn+(W0.length+1)/\Ext h h'/\h1.size<=h'.size /\
    SL h' h.size 4 1 (some ⟨h.size,0,none⟩) es.length es.length (sn'.map Q5)/\SL h' h1.size 3 1 y.2.1.1 y.2.1.2.1 y.2.1.2.2 (W.map J8)/\oM es i0 e0.name kc i W sn')
    (b9,(some a,W0.length,l12),(0:Int),()) _ rfl ⟨W0,sn,0,rfl,ad,rfl,ad,e3,z3,sB3,sW4,I4⟩ ?_
   rintro ⟨b15,⟨p16,l17,c18⟩,n19,⟨⟩⟩ m5 h5 ⟨W,sn',i,hi,hile,rfl,hMM,e5,z5,sB5,sW5,I5⟩;simp only at hi sW5;subst hi;refine an ?_;have hl17:l17=W.length:=by have:=sW5.1; rwa [Wr] at this
   subst hl17;have v5:=v.ao e5;obtain ⟨ae,rfl,hce⟩:=v5.cells kc hkc;have hek:es[kc]=e:=(WM.1 he).2;rw [hek] at hce;have vt:=v5.eY e hem;have hll:=vt.len;have hw:IntKind.wrap .i64 ((i:Int)+1)=((i+1:Nat):Int):=by rw [wrap_i64 ad ad]; omega
   have hsl:aG h5 ((ae.add (kc*3)).add 1) 0 [.slice e.p e.l e.c]:=⟨by rw [add_add]; exact hce.2.1,trivial⟩
   refine ay ⟨ad,ad⟩ (av rfl ?_);rw [show Int.toNat (kc:Int)=kc from ad];refine ax ((e.p,e.l,e.c),()) hsl ?_;refine an ?_;refine ak (fun g2=>?_) (fun g2=>?_)
   ·have g2:=Ws g2;have hil:i<e.x.ai.length:=ad
    refine ay ⟨ad,ad⟩ (av rfl ?_);refine ax ((e.p,e.l,e.c),()) hsl ?_;refine an ?_;obtain ⟨at',hp',hct⟩:=vt.cells i hil;have hti:e.x.ai[i]?=some e.x.ai[i]:=Wu hil;have htm:=WA hil;generalize e.x.ai[i]=t at hct hti htm;refine ay ⟨ad,ad⟩ (av hp' ?_);rw [show Int.toNat (i:Int)=i from ad];refine ax (t.1,()) ⟨hct.1,trivial⟩ ?_;refine an ?_;refine ic (Fa v5 ad t.1) ?_;refine ak (fun g3=>?_) (fun g3=>?_)
    ·have g3:Ha (jP es t.1)=(i0:Int):=by simpa using g3
     have hj:jP es t.1=some i0:=by
      cases hq:jP es t.1 with
      | none=>rw [hq] at g3; exact absurd g3 (by show ¬ ((-1:Int)=_); omega)
      | some j =>
       rw [hq] at g3
       have:(j:Int)=i0:=g3
       rw [show j=i0 from ad]
     refine ⟨e5,?_⟩;rw [WB (OY hn he hr htm he0 rfl hj)]
    ·have g3:¬ Ha (jP es t.1)=(i0:Int):=by simpa using g3
     cases hq:jP es t.1 with
     | none =>
      refine bM (by show decide ((-1:Int)>=0)=false; decide) ?_;refine aF (cs:=[(false,[.bool]),(false,[.slice 0]),(false,[.int .i64])]) (b15,(p16,W.length,c18),((i+1:Nat):Int),()) (e.x.ai.length-(i+1)) rfl ad (WJ (fun z=>[Value.bool b15,.slice p16 W.length c18,Value.int .i64 z]) hw)
       ⟨W,sn',i+1,rfl,ad,rfl,hMM,e5,z5,sB5,sW5,I5.skip he hti (fun j hj=>by rw [hq] at hj; cases hj)⟩
     | some j =>
      rw [hq] at g3;have hj0:j≠i0:=fun hh=>g3 (by rw [hh]; rfl)
      obtain ⟨d,hd,_⟩:=vk hq;have hjl:=(WM.1 hd).1;refine bX (WB (show (0:Int)<=((j:Nat):Int) from ad)) ?_;have hjs:j<sn'.length:=by rw [I5.len]; exact hjl
      obtain ⟨ab,hab,hcb⟩:=SL.cells sB5 (i:=j) (by rw [Wr]; exact hjs);rw [Wy] at hcb;refine ay ⟨by show (0:Int)<=(j:Int); omega,by show (j:Int)<_; omega⟩ (av hab ?_);rw [show Int.toNat (Ha (some j))=j from Int.toNat_natCast j];refine ax (sn'[j],()) hcb ?_;refine an ?_;have hjg:sn'[j]?=some sn'[j]:=Wu hjs;cases hb:sn'[j] with
      | true =>
       rw [hb] at hjg;refine bM rfl ?_;refine aF (cs:=[(false,[.bool]),(false,[.slice 0]),(false,[.int .i64])]) (b15,(p16,W.length,c18),((i+1:Nat):Int),()) (e.x.ai.length-(i+1)) rfl ad (WJ (fun z=>[Value.bool b15,.slice p16 W.length c18,Value.int .i64 z]) hw)
        ⟨W,sn',i+1,rfl,ad,rfl,hMM,e5,z5,sB5,sW5,I5.skip he hti (fun j' hj=>by rw [hq] at hj; cases hj; exact ⟨hj0,hjg⟩)⟩
      | false =>
       rw [hb] at hjg;refine bX rfl ?_;refine ay ⟨by show (0:Int)<=(j:Int); omega,by show (j:Int)<_; omega⟩ (av hab ?_);refine SL.store (P:=Tryz.prog) sB5 (i:=j) (by rw [Wr]; exact hjs) (vs:=[.bool true]) rfl rfl hab ?_;intro h6 sB6 k6 z6;rw [O5] at sB6;have hbb:∀ q,q∈aK (some (⟨h.size,0,none⟩:YC))->q=h.size:=fun q hq=>by simpa [aK] using hq
       have sW6:=sW5.bG k6 (fun q hq hm=>by have:=(sW5.cd hq).1; have:=hbb q hm; omega);have e6:Ext h h6:=Ch.trans e5 k6 (fun q hq hl=>by have:=hbb q hq; omega);refine ml (vs:=J8 j) CA Pc rfl ad ad (B9 _) rfl rfl sW6 ad ad ad ?_;intro p' c' h7 sW7 k7 hp7;have e7:Ext h h7:=Ch.trans e6 k7 (fun q hq hl=>by have:=(sW6.cd hq).1; omega);have sB7:=sB6.bG k7 (fun q hq hm=>by have:=hbb q hq; have:=(sW6.cd hm).1; omega);have hnf:=Mh sn' j hjg;refine aF (cs:=[(false,[.bool]),(false,[.slice 0]),(false,[.int .i64])]) (b15,(p',W.length+1,c'),((i+1:Nat):Int),()) (e.x.ai.length-(i+1)) rfl ad (WJ (fun z=>[Value.bool b15,.slice p' (W.length+1) c',Value.int .i64 z]) hw)
        ⟨W++[j],sn'.set j true,i+1,rfl,ad,rfl,by rw [Wv]; show nF (sn'.set j true)+(W.length+1)+1=_; omega,e7,by have:=k7.size; omega,sB7,by rw [WG]; exact sW7,I5.push hn he hr hti hq hj0⟩
   ·have g2:=Wt g2;refine aF (cs:=[(false,[.bool]),(false,[.slice 0])]) (b15,(p16,W.length,c18),()) (nF sn'+W.length) rfl (by rw [List.concat_eq_append,Wv]; show nF sn'+W.length<nF sn+(W0.length+1); omega) rfl ⟨W,sn',rfl,ad,e5,z5,sB5,sW5,I5.done he ad⟩
 ·have g1:=Wt g1;have hW:W=[]:=X0.1 ad;subst hW;refine ⟨e3,?_⟩;rw [WE (I3.no hn he0 rfl)]
noncomputable def R2 (es:List cD) (i:Nat):Bool:=by
 classical
 exact decide (∃ e,es[i]?=some e/\jS (df es) e.name)
theorem Cf {es:List cD} {i:Nat} {e:cD} (he:es[i]?=some e) {d:Decidable (jS (df es) e.name)}:decide (jS (df es) e.name)=R2 es i:=by
 unfold R2;refine Ym.2 ⟨fun h=>⟨e,he,h⟩,?_⟩;rintro ⟨e',he',h⟩;rw [he] at he';cases he';exact h
noncomputable def lu (es:List cD) (n:Nat):List Nat:=(List.range n).filter (R2 es)
theorem FX (es:List cD) (i:Nat):lu es (i+1)=lu es i++if R2 es i=true then [i] else []:=by
 unfold lu;rw [List.range_succ,List.filter_append]
 congr 1
 by_cases h:R2 es i=true <;> simp [h]
theorem IS (es:List cD) (i:Nat):(lu es i).length<=i:=by
 unfold lu
 have:=XT (R2 es) (List.range i)
 simpa using this
theorem MV {h:Hp} {p:Option YC} {l c:Nat} {es:List cD} (v:tu h p l es) (hn:(aT es).Nodup) (hl:es.length<=2^40) (ht:∀ e,e∈es->e.x.ai.length<=2^40) :
  HC Tryz.prog 93 #[.slice p l c] h fun w h'=>Ext h h'/\∃ p' l' c',w=.slice p' l' c'/\SL h' h.size 3 1 p' l' c' ((lu es es.length).map J8):=by
 refine aZ (args:=[.slice p l c]) mixed Tryz.func93 az (nO p l c) ?_;unfold jM bh bm aU bk bi aM da;have hll:=v.len;refine aR (cs:=[(false,[.slice 0]),(false,[.int .i64])]) (fun y m h'=>∃ i:Nat,y.2.1=(i:Int)/\m=es.length-i/\i<=es.length/\Ext h h'/\SL h' h.size 3 1 y.1.1 y.1.2.1 y.1.2.2 ((lu es i).map J8)) ((none,0,0),(0:Int),()) es.length rfl
  ⟨0,rfl,rfl,ad,Ch.refl _ _,SL.nil _ _ _ _⟩ ?_
 rintro ⟨⟨p1,l1,c1⟩,n4,⟨⟩⟩ m h1 ⟨i,hi,rfl,hle,e1,s1⟩;simp only at hi s1;subst hi;refine an ?_;have hl1:l1=(lu es i).length:=by have:=s1.1; rwa [Wr] at this
 have hbl:=IS es i;refine ak (fun q=>?_) (fun q=>?_)
 ·have q:=Ws q;have hil:i<es.length:=ad
  have hw:IntKind.wrap .i64 ((i:Int)+1)=((i+1:Nat):Int):=by rw [wrap_i64 ad ad]; omega
  have he:=Wu hil;have hbs:=FX es i;refine aI (OM (c:=c) (v.ao e1) hn hl ht he) ?_;rintro _ h2 ⟨e2,rfl⟩;rw [Cf he];refine ⟨(R2 es i,()),rfl,?_⟩;refine an ?_;have s2:=s1.bG e2 aj;refine ak (fun r=>?_) (fun r=>?_)
  ·rw [WC r] at hbs
   have:=(e1.trans e2).size
   refine ml (vs:=J8 i) CA Pc rfl ad ad (B9 _) rfl rfl s2 ad ad ad ?_;intro p' c' h3 s3 k3 hp3;refine aF (cs:=[(false,[.slice 0]),(false,[.int .i64])]) ((p',l1+1,c'),((i+1:Nat):Int),()) (es.length-(i+1)) rfl ad (WJ (fun z=>[Value.slice p' (l1+1) c',Value.int .i64 z]) hw) ?_;exact ⟨i+1,rfl,rfl,ad,Ch.trans (e1.trans e2) k3 (fun j hj hl=>by have:=(s2.cd hj).1; omega),by rw [hbs,WG]; exact s3⟩
  ·rw [Ww (by rw [r]; simp),Xy] at hbs;refine aF (cs:=[(false,[.slice 0]),(false,[.int .i64])]) ((p1,l1,c1),((i+1:Nat):Int),()) (es.length-(i+1)) rfl ad (WJ (fun z=>[Value.slice p1 l1 c1,Value.int .i64 z]) hw) ?_;exact ⟨i+1,rfl,rfl,ad,e1.trans e2,by rw [hbs]; exact s2⟩
 ·have q:=Wt q
  have:i=es.length:=ad
  subst this;exact ⟨e1,p1,l1,c1,rfl,s1⟩
noncomputable def dt (es:List cD):Option Nat:=by
 classical
 exact es.findIdx? fun e=>decide (jS (df es) e.name)
theorem GM {es:List cD} {i:Nat} {r:List Nat} (h:lu es es.length=i::r):i<es.length/\dt es=some i:=by
 unfold lu at h;obtain ⟨l1,l2,h1,h2,h3,_⟩:=List.filter_eq_cons_iff.1 h;have hlen:es.length=l1.length+(l2.length+1):=by
  have:=WJ List.length h1
  simpa using this
 have hil:l1.length=i:=by
  have:=WJ (fun l:List Nat=>l[l1.length]?) h1
  simp only [List.getElem?_append_right (Nat.le_refl _),Nat.sub_self,List.getElem?_cons_zero] at this;rw [XE ad] at this;exact WQ this
 subst hil;have hb:l1.length<es.length:=ad
 refine ⟨hb,?_⟩;unfold dt;rw [WR];refine ⟨hb,?_,fun j hj=>?_⟩
 ·rw [Cf (Wu hb)];exact h3
 ·rw [Cf (Wu ad)];refine h2 j ?_
  have:=WJ (fun l:List Nat=>l[j]?) h1
  simp only [List.getElem?_append_left hj] at this;rw [XE ad] at this;exact Xh this.symm
theorem IP {es:List cD} (h:lu es es.length=[]):dt es=none:=by
 unfold lu at h;unfold dt;rw [Xe];intro e he;obtain ⟨i,hi⟩:=List.getElem?_of_mem he;rw [Cf hi]
 have:=List.filter_eq_nil_iff.1 h i (X6.2 (WM.1 hi).1)
 simpa using this
def Q8 (of:YA->Option bZ):Nat->bZ->bZ
 | 0,x=>x
 | t+1,x=>cY of (Q8 of t x)
theorem rN (of:YA->Option bZ):∀ (l:cZ) (n:Nat),n<4294967296->l.foldl (fS of) n<4294967296
 | [],n,h=>h
 | t::l,n,h=>by
  rw [Xk];refine rN of l _ ?_;unfold fS;split
  ·exact h
  ·exact Yx _ cg
structure rX (S:List YA) (x:bZ):Prop where
 nf:Nf x.ai
 num:x.num<4294967296
 eY:∀ t,t∈x.ai->t.1∈S
theorem rX.put {S:List YA} {es:List cD} (hes:∀ e,e∈es->rX S e.x) {x:bZ} (h:rX S x):rX S (cY (cj es) x) :=
 ⟨eE _ _,rN _ _ _ h.num,H8 h.eY fun e he=>(hes e he).eY⟩
theorem rX.it {S:List YA} {es:List cD} (hes:∀ e,e∈es->rX S e.x) {x:bZ} (h:rX S x):∀ t,rX S (Q8 (cj es) t x)
 | 0=>h
 | t+1=>(rX.it hes h t).put hes
structure PK (B:Nat) (h0 h':Hp) (p:Option YC) (l c:Nat) (es ms:List cD) (f:Nat->Nat):Prop where
 out:SL h' h0.size 88 3 p l c (ms.map Ah)
 len:ms.length=es.length
 eq:∀ j e m,es[j]?=some e->ms[j]?=some m->m.name=e.name/\m.x=Q8 (cj es) (f j) e.x
 eY:∀ m,m∈ms->gp h' m.p m.l m.x.ai
 low:∀ m,m∈ms->∀ i,i∈aK m.p->(B<=i/\i<h'.size)/\i∉aK p
theorem Pz (ms:List cD) (i:Nat) (m:cD):(ms.map Ah).set i (Ah m)=(ms.set i m).map Ah:=by rw [Yn]
theorem Od {h:Hp} {p:Option YC} {l:Nat} {es:List cD} (v:tu h p l es):(p=none/\es.map Ah=[])\/∃ a,p=some a/\aG h a 0 (es.map Ah).flatten:=by
 cases p with
 | none =>
  refine .inl ⟨rfl,?_⟩;cases es with
  | nil=>rfl
  | cons e es =>
   obtain ⟨a,ha,_⟩:=v.cells 0 aj;cases ha
 | some a =>
  refine .inr ⟨a,rfl,?_⟩
  have:=fM (h:=h) (a:=a) (sz:=3) (es.map Ah) 0 (fun x hx=>by obtain ⟨e,_,rfl⟩:=Wz.1 hx; rfl) (fun i hi=>by
   obtain ⟨a',ha,hc⟩:=v.cells i (by simpa using hi);cases ha;rw [Wy,Xa];exact hc)
  rwa [Nat.zero_mul] at this
theorem Js (e:cD):(Ah e).all cS=true:=by unfold Ah; simp [cS]
theorem Gg (es:List cD):(es.map Ah).flatten.all cS=true:=by
 rw [W1];intro x hx;obtain ⟨l,hl,hxl⟩:=List.mem_flatten.1 hx;obtain ⟨e,_,rfl⟩:=Wz.1 hl;exact W1.1 (Js e) x hxl
theorem Jv {h:Hp} {p:Option YC} {l c:Nat} {es:List cD} {B:Nat} (hB:B<=h.size) (v:tu h p l es) (hb:∀ e,e∈es->∀ i,i∈aK e.p->B<=i/\i<h.size) (hn:(aT es).Nodup) (hl:es.length<=2^30) {S:List YA} (hS:S.length<=2^30) (hes:∀ e,e∈es->rX S e.x) :
  HC Tryz.prog 64 #[.slice p l c] h fun w h'=>Ext h h'/\match dt es with
   | some i=>w=.tuple #[.slice none 0 0,.int .i64 (i:Int),.int .i64 24]
   | none=>∃ p' l' c' ms,w=.tuple #[.slice p' l' c',.int .i64 0,.int .i64 0]/\PK B h h' p' l' c' es ms (fun _=>es.length):=by
 refine aZ (args:=[.slice p l c]) mixed Tryz.func64 az (mQ p l c) ?_;unfold iT aX bh bm aH bF bk bi aM;have hll:=v.len;have hlt:∀ e,e∈es->e.x.ai.length<=2^40:=fun e he=>by have:=zN (hes e he).nf (hes e he).eY; omega
 refine aI (MV (c:=c) v hn ad hlt) ?_;rintro _ h1 ⟨e1,p1,l1,c1,rfl,s1⟩;refine ⟨((p1,l1,c1),()),rfl,?_⟩;refine an ?_;have hl1:l1=(lu es es.length).length:=by have:=s1.1; rwa [Wr] at this
 refine ak (fun g=>?_) (fun g=>?_)
 ·have g:=Ws g;cases hbl:lu es es.length with
  | nil=>rw [hbl] at hl1; simp at hl1; omega
  | cons i r =>
   obtain ⟨hi,hf⟩:=GM hbl;obtain ⟨a,rfl,hc⟩:=SL.cells s1 (i:=0) (by rw [Wr,hbl]; simp);have hc:aG h1 a 0 [.int .i64 (i:Int)]:=by
    rw [Wy,Nat.zero_mul,add_zero'] at hc;simp only [hbl,List.getElem_cons_zero] at hc;exact hc
   refine ay ⟨ad,ad⟩ (av rfl ?_);refine ax ((i:Int),()) hc ?_;refine an ?_;refine ⟨⟨hc,trivial⟩,e1,?_⟩;rw [hf]
 ·have g:=Wt g;have hbn:lu es es.length=[]:=X0.1 ad;rw [IP hbn];refine lr (ys:=es.map Ah) Bc JQ rfl (Od (v.ao e1)) (by rw [Wr]; exact hll) (fun y hy=>by obtain ⟨e,_,rfl⟩:=Wz.1 hy; rfl) (Gg es) ad ad ?_;intro p2 c2 h2 s2 e2;have z1:=e1.size;have e02:=e1.trans e2;have o0:PK B h h2 p2 l c2 es es fun _=>0:=⟨s2.mono z1,rfl,fun j e m he hm=>by rw [he] at hm; cases hm; exact ⟨rfl,rfl⟩,fun m hm=>(v.eY m hm).ao e02 aj,fun m hm i hi=>by
   have h1:=hb m hm i hi
   have:=e02.size
   exact ⟨⟨h1.1,ad⟩,fun hh=>by have:=(s2.cd hh).1; omega⟩⟩
  refine aR (cs:=[(false,[.int .i64])]) (fun y m h'=>∃ (t:Nat) (ms:List cD),y.1=(t:Int)/\m=es.length-t/\t<=es.length/\Ext h h'/\PK B h h' p2 l c2 es ms fun _=>t) ((0:Int),()) es.length rfl ⟨0,es,rfl,rfl,ad,e02,o0⟩ ?_;rintro ⟨n10,⟨⟩⟩ m3 h3 ⟨t,ms,hi,rfl,hle,e3,o3⟩;simp only at hi;subst hi;refine an ?_;refine ak (fun q=>?_) (fun q=>?_)
  ·have q:=Ws q;have hwt:IntKind.wrap .i64 ((t:Int)+1)=((t+1:Nat):Int):=by rw [wrap_i64 ad ad]; omega
   refine aR (cs:=[(false,[.int .i64])]) (fun y m h'=>∃ (i:Nat) (ms:List cD),y.1=(i:Int)/\m=es.length-i/\i<=es.length/\Ext h h'/\PK B h h' p2 l c2 es ms fun j=>if j<i then t+1 else t) ((0:Int),()) es.length rfl ⟨0,ms,rfl,rfl,ad,e3,by simpa using o3⟩ ?_;rintro ⟨n11,⟨⟩⟩ m4 h4 ⟨i,ms4,hi,rfl,hle4,e4,o4⟩;simp only at hi;subst hi;refine an ?_;refine ak (fun r=>?_) (fun r=>?_)
   ·have r:=Ws r;have hil:i<es.length:=ad
    have him:i<ms4.length:=by rw [o4.len]; exact hil
    have hwi:IntKind.wrap .i64 ((i:Int)+1)=((i+1:Nat):Int):=by rw [wrap_i64 ad ad]; omega
    obtain ⟨a,rfl,hc⟩:=SL.cells o4.out (i:=i) (by rw [Wr]; exact him);rw [Wy] at hc;obtain ⟨hnm,hx⟩:=o4.eq i es[i] ms4[i] (Wu hil) (Wu him);have hmm:=WA him;have hemm:=WA hil;have vm:=o4.eY _ hmm;have lm:=o4.low _ hmm;rw [Ww ad] at hx;have hmi:ms4[i]?=some ms4[i]:=Wu him;have hei:es[i]?=some es[i]:=Wu hil;generalize ms4[i]=m at hc hnm hx hmm vm lm hmi;generalize es[i]=e at hnm hx hemm hei;have hsx:rX S m.x:=by rw [hx]; exact rX.it hes (hes e hemm) t
    refine ay ⟨ad,ad⟩ (av rfl ?_);rw [show Int.toNat (i:Int)=i from ad];refine ax ((m.p,m.l,m.c),(m.x.num:Int),()) ⟨by rw [add_add]; exact hc.2.1,by rw [add_add]; exact hc.2.2.1,trivial⟩ ?_;refine an ?_;have z4:=e4.size;refine aI (Ii (c:=m.c) (d:=c) vm (v.ao e4) (fun j hj=>(lm j hj).1.2) (fun e he j hj=>by have:=hb e he j hj; omega) ad hsx.nf hsx.num (fun e he=>(hes e he).nf) hS hsx.eY fun e he=>(hes e he).eY) ?_;rintro _ h5 ⟨e5,p5,l5,c5,rfl,s5⟩;refine ⟨((p5,l5,c5),((cY (cj es) m.x).num:Int),()),rfl,?_⟩;refine an ?_;have z5:=e5.size;refine ay ⟨ad,ad⟩ (av rfl ?_);have so:=o4.out.bG e5 aj;refine SL.part (P:=Tryz.prog) so (i:=i) (by rw [Wr]; exact him) (vs:=[.slice p5 l5 c5,.int .u32 ((cY (cj es) m.x).num:Int)]) (o:=1) aj (by simp [cS]) rfl ?_;intro h6 s6 k6 z6;have hse:(ms4.map Ah).set i (lG ((ms4.map Ah)[i]'(by rw [Wr]; exact him)) 1 [.slice p5 l5 c5,.int .u32 ((cY (cj es) m.x).num:Int)])=(ms4.set i ⟨m.name,p5,l5,c5,cY (cj es) m.x⟩).map Ah:=by
     rw [<- Pz]
     congr 1
     rw [Wy]
     have:ms4[i]=m:=(WM.1 hmi).2
     rw [this] <;> rfl
    rw [hse] at s6;have hgb:∀ j,j∈aK (some a)->h.size<=j/\j<h4.size:=fun j hj=>o4.out.cd hj
    have e6:Ext h h6:=Ch.trans (e4.trans e5) k6 (fun j hj hl=>by have:=hgb j hj; omega);refine aF (cs:=[(false,[.int .i64])]) (((i+1:Nat):Int),()) (es.length-(i+1)) rfl ad (WJ (fun z=>[Value.int .i64 z]) hwi) ⟨i+1,_,rfl,rfl,ad,e6,⟨s6,by rw [XK]; exact o4.len,fun j e' m' he' hm'=>?_,fun m' hm'=>?_,fun m' hm' j hj=>?_⟩⟩
    ·by_cases hji:i=j
     ·subst hji;rw [Ye him] at hm';cases hm';rw [hei] at he';cases he';refine ⟨hnm,?_⟩;rw [WC ad];show cY (cj es) m.x=cY (cj es) (Q8 (cj es) t e.x);rw [hx]
     ·rw [XY hji] at hm';obtain ⟨h1,h2⟩:=o4.eq j e' m' he' hm';refine ⟨h1,h2.trans ?_⟩
      by_cases hj2:j<i
      ·rw [WC hj2,WC ad]
      ·rw [Ww hj2,Ww ad]
    ·rcases XC hm' with hm' | rfl
     ·exact ((o4.eY m' hm').ao e5 aj).ao k6 (fun j hj=>(o4.low m' hm' j hj).2)
     ·exact (s5.bG k6 (fun j hj hh=>by have:=(s5.cd hj).1; have:=hgb j hh; omega)).QH
    ·rcases XC hm' with hm' | rfl
     ·obtain ⟨h1,h2⟩:=o4.low m' hm' j hj;exact ⟨⟨h1.1,ad⟩,h2⟩
     ·obtain ⟨h1,h2⟩:=s5.cd hj;exact ⟨⟨ad,ad⟩,fun hh=>by have:=hgb j hh; omega⟩
   ·have r:=Wt r
    have:i=es.length:=ad
    subst this;refine aF (cs:=[(false,[.int .i64])]) (((t+1:Nat):Int),()) (es.length-(t+1)) rfl ad (WJ (fun z=>[Value.int .i64 z]) hwt) ⟨t+1,ms4,rfl,rfl,ad,e4,⟨o4.out,o4.len,fun j e m he hm=>?_,o4.eY,o4.low⟩⟩;obtain ⟨h1,h2⟩:=o4.eq j e m he hm;rw [WC (WM.1 he).1] at h2;exact ⟨h1,h2⟩
  ·have q:=Wt q
   have:t=es.length:=ad
   subst this;exact ⟨e3,p2,l,c2,ms,rfl,o3⟩
theorem qZ (s:YA):∀ l:cZ,fP (fun r=>if r=s then 1 else 0) l=cf l s
 | []=>rfl
 | p::l=>by
  rw [eK,eC,qZ s l]
  congr 1
  split <;> simp
theorem nC:∀ l:cZ,fP (fun _=>0) l=0
 | []=>rfl
 | p::l=>by rw [eK,nC l]; simp
theorem Ir {x y:bZ} (hx:Nf x.ai) (hy:Nf y.ai) (nx:x.num<4294967296) (ny:y.num<4294967296) (h:∀ f,ja f x=ja f y):x=y:=by
 have h0:=h fun _=>0
 unfold ja at h0;rw [nC,nC] at h0;have hn:x.num=y.num:=ad
 have ht:x.ai=y.ai:=hx.Qb hy fun s=>by
  have h1:=h fun r=>if r=s then 1 else 0
  unfold ja at h1;rw [qZ,qZ] at h1;omega
 obtain ⟨a,b⟩:=x;obtain ⟨c,d⟩:=y;simp only at hn ht;rw [hn,ht]
def FK (of:YA->Option bZ) (f:YA->Nat) (s:YA):Nat:=match of s with
 | none=>f s
 | some y=>ja f y
theorem ft (of:YA->Option bZ) (f:YA->Nat) (x:bZ):ja f (cY of x)=ja (FK of f) x:=Kp (fun s=>by unfold FK; rfl) x
theorem yz {f g:YA->Nat}:∀ {l:cZ},(∀ t,t∈l->f t.1=g t.1)->fP f l=fP g l
 | [],_=>rfl
 | p::l,h=>by rw [eK,eK,h p aj,yz fun t ht=>h t (WN _ ht)]
theorem pu {f g:YA->Nat} {x:bZ} (h:∀ t,t∈x.ai->f t.1=g t.1):ja f x=ja g x:=by
 unfold ja;rw [yz h]
section
variable {own:YA->Bool} {lin:YA->bZ}
def Tg (own:YA->Bool) (lin:YA->bZ) (t:Nat) (s:YA):Option bZ:=if own s=true then some (qc own lin t s) else none
def xm (own:YA->Bool) (lin:YA->bZ) (s:YA):Option bZ:=if own s=true then some (lin s) else none
theorem rV (t:Nat) (v:YA):qc own lin (t+1) v=cY (Tg own lin t) (lin v):=rfl
theorem AU (hnum:∀ v,own v=true->(lin v).num<4294967296):∀ (t:Nat) (v:YA),own v=true->cY (xm own lin) (qc own lin t v)=qc own lin (t+1) v
 | 0,v,hv=>rfl
 | t+1,v,hv=>by
  rw [rV (t+1) v,rV t v];refine Ir (eE _ _) (eE _ _) (rN _ _ _ (rN _ _ _ (hnum v hv))) (rN _ _ _ (hnum v hv)) fun f=>?_
  rw [ft,ft,ft];refine pu fun u _=>?_
  generalize u.1=s;unfold FK Tg
  by_cases ho:own s=true
  ·rw [WC ho,WC ho];show ja (FK (xm own lin) f) (qc own lin t s)=ja f (qc own lin (t+1) s);rw [<- AU hnum t s ho,ft]
  ·rw [Ww ho,Ww ho];show (match xm own lin s with | none=>f s | some y=>ja f y)=f s;unfold xm;rw [Ww ho]
theorem DA (hnum:∀ v,own v=true->(lin v).num<4294967296):∀ (t:Nat) (v:YA),own v=true->Q8 (xm own lin) t (lin v)=qc own lin t v
 | 0,v,hv=>rfl
 | t+1,v,hv=>by
  show cY (xm own lin) (Q8 (xm own lin) t (lin v))=_;rw [DA hnum t v hv,AU hnum t v hv]
end
theorem Oo {es:List cD} (hn:(aT es).Nodup) (hnum:∀ e,e∈es->e.x.num<4294967296) {e:cD} (he:e∈es):Q8 (cj es) es.length e.x=eM es e.name:=by
 have hown:cm es e.name=true:=by
  unfold cm;cases hp:jP es e.name with
  | some k=>rfl
  | none =>
   unfold jP at hp;rw [Xe] at hp
   have:=hp e he
   simp at this
 have hnum':∀ v,cm es v=true->(db es v).num<4294967296:=by
  intro v hv;unfold cm at hv;obtain ⟨k,hk⟩:=Xn.1 hv;obtain ⟨d,hd,hdn⟩:=vk hk;rw [<- hdn,oK hn (Xh hd)];exact hnum d (Xh hd)
 have h1:=DA hnum' es.length e.name hown;rw [oK hn he] at h1;have h2:xm (cm es) (db es)=cj es:=rfl;rw [h2] at h1;rw [h1];unfold eM Iy aT;rw [Wr]
def xV (K:Ky->Prop) (a b:Ky->YA) (x y:bZ):Prop:=∀ f g:YA->Nat,(∀ k,K k->f (a k)=g (b k))->ja f x=ja g y
theorem xV.symm {K:Ky->Prop} {a b:Ky->YA} {x y:bZ} (h:xV K a b x y):xV K b a y x:=fun f g hh=>(h g f fun k hk=>(hh k hk).symm).symm
structure vA {δ:Type} (Q:List δ) (ky:δ->Ky) (K:Ky->Prop) (a b:Ky->YA) (xa xb:δ->bZ):Prop where
 nd:(Q.map ky).Nodup
 N7:∀ q,q∈Q->K (ky q)
 ia:∀ k k',K k->K k'->a k=a k'->k=k'
 ib:∀ k k',K k->K k'->b k=b k'->k=k'
 Hx:∀ k,K k->k∉Q.map ky->a k=b k
 rel:∀ q,q∈Q->xV K a b (xa q) (xb q)
 fa:∀ q,q∈Q->Nf (xa q).ai
 fb:∀ q,q∈Q->Nf (xb q).ai
theorem vA.symm {δ:Type} {Q:List δ} {ky:δ->Ky} {K:Ky->Prop} {a b:Ky->YA} {xa xb:δ->bZ} (t:vA Q ky K a b xa xb):vA Q ky K b a xb xa :=
 ⟨t.nd,t.N7,t.ib,t.ia,fun k hk hn=>(t.Hx k hk hn).symm,fun q hq=>(t.rel q hq).symm,t.fb,t.fa⟩
def wD {δ:Type} (Q:List δ) (ky:δ->Ky) (a:Ky->YA) (xa:δ->bZ):List (YA × bZ):=Q.map fun q=>(a (ky q),xa q)
theorem uC (D:List (YA × bZ)):Sx.aT (eN D)=D.map (·.1):=by
 have:=WJ (List.map (·.1)) (oG D)
 rw [WT] at this;exact this
theorem rM {D:List (YA × bZ)} {s:YA}:cm (eN D) s=true↔s∈D.map (·.1):=by rw [dX,uC]
theorem Qy:∀ {l:cZ} {t:YA × Nat},Nf l->t∈l->cf l t.1=t.2
 | [],t,_,h=>by simp at h
 | p::l,t,n,h=>by
  rcases WY.1 h with h | h
  ·subst h;exact n.lZ
  ·rw [eC,Ww (jU (n.head t h)),Xa];exact Qy n.tail h
theorem KM {l:cZ} (n:Nf l) {s:YA}:s∈l.map (·.1)↔cf l s % 4294967296≠0:=by
 constructor
 ·intro h;obtain ⟨t,ht,rfl⟩:=Wz.1 h;rw [Qy n ht]
  have:=n.2 t ht
  omega
 ·intro h;apply Classical.byContradiction;intro k;exact h (by rw [yr fun p hp e=>k (Wz.2 ⟨p,hp,e⟩)])
section
variable {δ:Type} {Q:List δ} {ky:δ->Ky} {K:Ky->Prop} {a b:Ky->YA} {xa xb:δ->bZ}
theorem zC:(wD Q ky a xa).map (·.1)=(Q.map ky).map a:=by
 unfold wD;rw [WT,WT] <;> rfl
theorem vA.Tn (t:vA Q ky K a b xa xb):((wD Q ky a xa).map (·.1)).Nodup:=by
 rw [zC];have h:=t.nd;rw [XP] at h ⊢;rw [Xp];refine List.Pairwise.imp_of_mem ?_ h;intro k k' hk hk' hne e;obtain ⟨q,hq,rfl⟩:=Wz.1 hk;obtain ⟨r,hr,rfl⟩:=Wz.1 hk';exact hne (t.ia _ _ (t.N7 q hq) (t.N7 r hr) e)
theorem vA.own (t:vA Q ky K a b xa xb) {k:Ky} (hk:K k):cm (eN (wD Q ky a xa)) (a k)=true↔k∈Q.map ky:=by
 rw [rM,zC,Wz];constructor
 ·rintro ⟨k',hk',e⟩;obtain ⟨q,hq,rfl⟩:=Wz.1 hk';rw [<- t.ia _ _ (t.N7 q hq) hk e];exact hk'
 ·intro h;exact ⟨k,h,rfl⟩
theorem vA.lin (t:vA Q ky K a b xa xb) {q:δ} (hq:q∈Q):db (eN (wD Q ky a xa)) (a (ky q))=xa q:=by
 have h2:(⟨a (ky q),none,0,0,xa q⟩:cD)∈eN (wD Q ky a xa):=Wz.2 ⟨(a (ky q),xa q),Wz.2 ⟨q,hq,rfl⟩,rfl⟩;exact oK (by rw [uC]; exact t.Tn) h2
theorem xV.cf {x y:bZ} (h:xV K a b x y) {k:Ky} (ha:∀ k',K k'->a k'=a k->k'=k) (hb:∀ k',K k'->b k'=b k->k'=k):cf x.ai (a k) % 4294967296=cf y.ai (b k) % 4294967296:=by
 have h0:=h (fun _=>0) (fun _=>0) fun _ _=>rfl
 have h1:=h (fun r=>if r=a k then 1 else 0) (fun r=>if r=b k then 1 else 0) fun k' hk'=>by
  by_cases e:k'=k
  ·subst e
   simp
  ·rw [Ww fun x=>e (ha k' hk' x),Ww fun x=>e (hb k' hk' x)]
 unfold ja at h0 h1;rw [nC,nC] at h0;rw [qZ,qZ] at h1;omega
theorem vA.T5 (t:vA Q ky K a b xa xb) {q r:δ} (hq:q∈Q) (hr:r∈Q) (h:df (eN (wD Q ky a xa)) (a (ky q)) (a (ky r))):df (eN (wD Q ky b xb)) (b (ky q)) (b (ky r)):=by
 obtain ⟨h1,h2⟩:=h;refine ⟨?_,(t.symm.own (t.N7 r hr)).2 (WL hr)⟩;unfold cE at h1 ⊢;rw [t.lin hq,KM (t.fa q hq)] at h1;rw [t.symm.lin hq,KM (t.fb q hq)];rw [(t.rel q hq).cf (fun k' hk' e=>t.ia _ _ hk' (t.N7 r hr) e) (fun k' hk' e=>t.ib _ _ hk' (t.N7 r hr) e)] at h1;exact h1
theorem vA.VL (t:vA Q ky K a b xa xb) {s u:YA} (h:df (eN (wD Q ky a xa)) s u):∃ r,r∈Q/\u=a (ky r):=by
 have h2:=h.2;rw [rM,zC] at h2;obtain ⟨k,hk,rfl⟩:=Wz.1 h2;obtain ⟨r,hr,rfl⟩:=Wz.1 hk;exact ⟨r,hr,rfl⟩
theorem vA.Ro (t:vA Q ky K a b xa xb) {u v:YA} (h:ph (df (eN (wD Q ky a xa))) u v):∀ q r,q∈Q->r∈Q->u=a (ky q)->v=a (ky r)->ph (df (eN (wD Q ky b xb))) (b (ky q)) (b (ky r)):=by
 induction h with
 | refl u =>
  intro q r hq hr e1 e2;rw [t.ia _ _ (t.N7 q hq) (t.N7 r hr) (e1.symm.trans e2)];exact .refl _
 | head e _ ih =>
  intro q r hq hr e1 e2;subst e1;obtain ⟨m,hm,rfl⟩:=t.VL e;exact .head (t.T5 hq hm e) (ih m r hm hr rfl e2)
theorem vA.TQ (t:vA Q ky K a b xa xb) {q:δ} (hq:q∈Q) (h:jS (df (eN (wD Q ky a xa))) (a (ky q))):jS (df (eN (wD Q ky b xb))) (b (ky q)):=by
 obtain ⟨y,h1,h2⟩:=h;obtain ⟨m,hm,rfl⟩:=t.VL h1;exact ⟨_,t.T5 hq hm h1,t.Ro h2 m q hm hq rfl rfl⟩
theorem vA.Wi (t:vA Q ky K a b xa xb) {q:δ} (hq:q∈Q):jS (df (eN (wD Q ky a xa))) (a (ky q))↔jS (df (eN (wD Q ky b xb))) (b (ky q)):=⟨t.TQ hq,t.symm.TQ hq⟩
theorem vA.UE (t:vA Q ky K a b xa xb):mE (wD Q ky a xa)=dt (eN (wD Q ky b xb)):=by
 classical
 unfold mE dt;have h2:∀ D:List (YA × bZ),∀ P:YA->Bool,(eN D).findIdx? (fun e=>P e.name)=D.findIdx? fun y=>P y.1:=by
  intro D P;unfold eN;rw [Yj] <;> rfl
 have h3:=h2 (wD Q ky b xb) (fun s=>decide (jS (df (eN (wD Q ky b xb))) s));rw [h3];have key:∀ l:List δ,(∀ q,q∈l->q∈Q)->(l.map fun q=>(a (ky q),xa q)).findIdx? (fun y=>decide (jS (df (eN (wD Q ky a xa))) y.1))=(l.map fun q=>(b (ky q),xb q)).findIdx? (fun y=>decide (jS (df (eN (wD Q ky b xb))) y.1)):=by
  intro l
  induction l with
  | nil=>intro _; rfl
  | cons q l ih =>
   intro hl;rw [Xf,Xf,List.findIdx?_cons,List.findIdx?_cons,ih fun r hr=>hl r (WN _ hr)];have h4:decide (jS (df (eN (wD Q ky a xa))) (a (ky q)))=decide (jS (df (eN (wD Q ky b xb))) (b (ky q))):=Ym.2 (t.Wi (hl q (XW ..)));simp only [h4]
 exact key Q fun q hq=>hq
theorem vA.Iy (t:vA Q ky K a b xa xb):∀ (n:Nat) (q:δ),q∈Q->xV K a b (qc (cm (eN (wD Q ky a xa))) (db (eN (wD Q ky a xa))) n (a (ky q))) (qc (cm (eN (wD Q ky b xb))) (db (eN (wD Q ky b xb))) n (b (ky q)))
 | 0,q,hq=>by
  show xV K a b (db (eN (wD Q ky a xa)) (a (ky q))) (db (eN (wD Q ky b xb)) (b (ky q)));rw [t.lin hq,t.symm.lin hq];exact t.rel q hq
 | n+1,q,hq=>by
  intro f g hfg;rw [rV,rV,ft,ft,t.lin hq,t.symm.lin hq];refine t.rel q hq _ _ fun k hk=>?_
  unfold FK Tg
  by_cases hE:k∈Q.map ky
  ·rw [WC ((t.own hk).2 hE),WC ((t.symm.own hk).2 hE)];obtain ⟨r,hr,rfl⟩:=Wz.1 hE;exact vA.Iy t n r hr f g hfg
  ·rw [Ww fun h=>hE ((t.own hk).1 h),Ww fun h=>hE ((t.symm.own hk).1 h)];exact hfg k hk
theorem P4 {D:List (YA × bZ)} (s:YA):eM (eN D) s=qc (cm (eN D)) (db (eN D)) D.length s:=by
 unfold eM Iy;rw [uC,Wr]
theorem NE {D:List (YA × bZ)} (s:YA):cm (eN (lU D)) s=cm (eN D) s:=by
 have h:(lU D).map (·.1)=D.map (·.1):=by
  unfold lU;rw [WT] <;> rfl
 rw [Bool.eq_iff_iff,rM,rM,h]
theorem vz {D:List (YA × bZ)} (hn:(D.map (·.1)).Nodup) (s:YA):cj (eN (lU D)) s=if cm (eN D) s=true then some (eM (eN D) s) else none:=by
 unfold cj;rw [NE]
 by_cases h:cm (eN D) s=true
 ·rw [WC h,WC h];rw [rM] at h;obtain ⟨y,hy,rfl⟩:=Wz.1 h;have h0:(lU D).map (·.1)=D.map (·.1):=by
   unfold lU;rw [WT] <;> rfl
  have h2:(⟨y.1,none,0,0,eM (eN D) y.1⟩:cD)∈eN (lU D):=Wz.2 ⟨(y.1,eM (eN D) y.1),Wz.2 ⟨y,hy,rfl⟩,rfl⟩;exact WJ some (oK (by rw [uC,h0]; exact hn) h2)
 ·rw [Ww h,Ww h]
theorem vA.put (t:vA Q ky K a b xa xb) {x y:bZ} (h:xV K a b x y):xV K a b (ue (lU (wD Q ky a xa)) x) (ue (lU (wD Q ky b xb)) y):=by
 intro f g hfg;unfold ue;rw [ft,ft];refine h _ _ fun k hk=>?_
 unfold FK;rw [vz t.Tn,vz t.symm.Tn]
 by_cases hE:k∈Q.map ky
 ·rw [WC ((t.own hk).2 hE),WC ((t.symm.own hk).2 hE)];obtain ⟨r,hr,rfl⟩:=Wz.1 hE;have e1:(wD Q ky a xa).length=Q.length:=by unfold wD; rw [Wr]
  have e2:(wD Q ky b xb).length=Q.length:=by unfold wD; rw [Wr]
  simp only [P4,e1,e2];exact t.Iy Q.length r hr f g hfg
 ·rw [Ww fun h=>hE ((t.own hk).1 h),Ww fun h=>hE ((t.symm.own hk).1 h)];exact hfg k hk
theorem Io {D:List (YA × bZ)} (hn:(D.map (·.1)).Nodup) (hc:∀ v,¬ jS (df (eN D)) v) {x:bZ}:∀ u,u∈(ue (lU D) x).ai->cm (eN D) u.1=false:=by
 intro u hu;unfold ue at hu;rcases rz hu with ⟨p,hp,e,ho⟩ | ⟨p,y,v,hp,ho,hv,e⟩
 ·rw [vz hn] at ho;cases hb:cm (eN D) u.1 with
  | false=>rfl
  | true=>rw [WC hb] at ho; cases ho
 ·rw [vz hn] at ho
  by_cases hb:cm (eN D) p.1=true
  ·rw [WC hb] at ho;have ho:=WQ ho;subst ho
   have:=(vF (own:=cm (eN D)) (lin:=db (eN D)) (names:=Sx.aT (eN D)) (fun s=>dX _ s) hc ((dX _ _).1 hb) v hv).1
   rw [<- e];exact this
  ·rw [Ww hb] at ho; cases ho
theorem Mv {D:List (YA × bZ)} (h:mE D=none):∀ v,¬ jS (df (eN D)) v:=by
 classical
 intro v hv;unfold mE at h;rw [Xe] at h;have key:∃ u,cm (eN D) u=true/\jS (df (eN D)) u:=by
  obtain ⟨y,h1,h2⟩:=hv;refine ⟨y,h1.2,?_⟩;have h3:ph (df (eN D)) v y:=.one h1;cases h2 with
  | refl=>exact ⟨_,h1,.refl _⟩
  | head e r=>exact ⟨_,e,r.trans h3⟩
 obtain ⟨u,h1,h2⟩:=key;rw [rM] at h1;obtain ⟨q,hq,rfl⟩:=Wz.1 h1
 have:=h q hq
 exact absurd h2 (Wt this)
theorem vA.same (t:vA Q ky K a b xa xb) (hc:mE (wD Q ky a xa)=none) {x y:bZ} (h:xV K a b x y) (hx:x.num<4294967296) (hy:y.num<4294967296):ue (lU (wD Q ky a xa)) x=ue (lU (wD Q ky b xb)) y:=by
 classical
 have ca:=Mv hc;have cb:∀ v,¬ jS (df (eN (wD Q ky b xb))) v:=Mv (by
  have h1:=t.UE;have h2:=t.symm.UE;rw [hc] at h1
  have:mE (wD Q ky b xb)=dt (eN (wD Q ky b xb)):=by
   unfold mE dt eN;rw [Yj] <;> rfl
  rw [this,<- h1])
 refine Ir (eE _ _) (eE _ _) (lf hx) (lf hy) fun f=>?_
 have e1:ja f (ue (lU (wD Q ky a xa)) x)=ja (fun s=>if cm (eN (wD Q ky a xa)) s=true then 0 else f s) (ue (lU (wD Q ky a xa)) x):=pu fun u hu=>by
  rw [Io t.Tn ca u hu] <;> rfl
 have e2:ja f (ue (lU (wD Q ky b xb)) y)=ja (fun s=>if cm (eN (wD Q ky b xb)) s=true then 0 else f s) (ue (lU (wD Q ky b xb)) y):=pu fun u hu=>by
  rw [Io t.symm.Tn cb u hu] <;> rfl
 rw [e1,e2];refine t.put h _ _ fun k hk=>?_
 by_cases hE:k∈Q.map ky
 ·rw [WC ((t.own hk).2 hE),WC ((t.symm.own hk).2 hE)]
 ·rw [Ww fun h=>hE ((t.own hk).1 h),Ww fun h=>hE ((t.symm.own hk).1 h),t.Hx k hk hE]
end
theorem Ib {h:Hp} {p:Option YC} {l c:Nat} {xs:List YA} (n:l=xs.length) (hc:∀ i,(hi:i<xs.length)->∃ a,p=some a/\aG h (a.add (i*1)) 0 [.string xs[i]]) (hl:xs.length<=2^61) (s:YA):vC Tryz.prog 38 [.slice p l c,.string s] h (.bool (fC xs s)):=by
 refine ee mixed Tryz.func38 az (iS p l c s) ?_;unfold gu aX bh bm aH bo dI aM bT;refine aR (cs:=[(false,[.bool]),(false,[.int .i64])]) (fun y m h'=>∃ i:Nat,y.2.1=(i:Int)/\m=xs.length-i/\i<=xs.length/\h'=h/\fC (xs.take i) s=false) (false,(0:Int),()) xs.length rfl
  ⟨0,rfl,rfl,ad,rfl,rfl⟩ ?_
 rintro ⟨b2,n3,⟨⟩⟩ m h' ⟨i,hi,rfl,hle,rfl,hn⟩;simp only at hi;subst hi;refine an ?_;refine ak (fun q=>?_) (fun q=>?_)
 ·have q:=Ws q;have hil:i<xs.length:=ad
  obtain ⟨a,ha,hca⟩:=hc i hil;refine ay ⟨ad,ad⟩ (av ha ?_);rw [show Int.toNat (i:Int)=i from ad];refine ax (xs[i],()) hca ?_;refine an ?_;have hs:=UD xs s i hil;rw [ow];refine ak (fun r=>?_) (fun r=>?_)
  ·have r:=Ws r;refine ⟨WJ Value.bool ?_,rfl⟩;unfold fC;exact (Yb.2 ⟨_,WA hil,WB r⟩).symm
  ·rw [hn,r] at hs;refine aF (cs:=[(false,[.bool]),(false,[.int .i64])]) (b2,((i+1:Nat):Int),()) (xs.length-(i+1)) rfl ad (by rw [wrap_i64 ad ad]; rfl) ?_;exact ⟨i+1,rfl,rfl,ad,rfl,hs⟩
 ·have q:=Wt q
  have:i=xs.length:=ad
  subst this;rw [Xd] at hn;exact ⟨by rw [hn],rfl⟩
def fw (us:List bP) (n:Nat) (s:YA):Option Nat :=
 if (us[n]?.map fun u=>fC (fl u) s)=some true then some n else us.findIdx? fun u=>fC u.aS s
structure Dd (us:List bP):Prop where
 many:us.length<=2^20
 text:∀ u,u∈us->u.text.length<=2^20
 data:∀ u,u∈us->u.data.length<=2^20
 bf:∀ u,u∈us->u.bf.length<=2^20
theorem yF {h:Hp} {p:Option YC} {l c:Nat} {us:List bP} (v:sT h p l us) (sz:Dd us) {n:Nat} (hn:n<us.length) (s:YA) :
  HC Tryz.prog 69 #[.slice p l c,.int .i64 (n:Int),.string s] h fun w h'=>w=.int .i64 (Ha (fw us n s))/\Ext h h':=by
 refine aZ (args:=[.slice p l c,.int .i64 (n:Int),.string s]) mixed Tryz.func69 az (mz p l c n s) ?_;unfold iW aX bh bm aH aU bF aM;have hll:=v.len;have hmany:=sz.many;have hug:us[n]?=some us[n]:=Wu hn;obtain ⟨a,sa,sb,sc,sd,rfl,hc,va⟩:=v.cells n hn;have hm:=WA hn;generalize us[n]=u at hug hc va hm;refine ay ⟨ad,ad⟩ (av rfl ?_);rw [show Int.toNat (n:Int)=n from ad];refine ax ((sa.p,sa.l,sa.c),(sb.p,sb.l,sb.c),(sc.p,sc.l,sc.c),(sd.p,sd.l,sd.c),()) hc ?_;refine an ?_;refine aI (Nx va (sz.text u hm) (sz.data u hm) (sz.bf u hm)) ?_;rintro _ h1 ⟨p1,l1,c1,rfl,s1,e1⟩;refine ⟨((p1,l1,c1),()),rfl,?_⟩;refine an ?_;have hal:(fl u).length<=2^61:=by
  have h1:=sz.text u hm;have h2:=sz.data u hm;have h3:=sz.bf u hm;unfold fl dY;rw [Wv,Wv,Wr,Wr,Wr];have h4:=XT (fun x:cz=>decide (x.kind=1)) u.text;have h5:=XT (fun x:cz=>decide (x.kind=1)) u.data;omega
 refine aJ (C' s1 hal s) ?_;refine ak (fun q=>?_) (fun q=>?_)
 ·refine ⟨?_,e1⟩;unfold fw;rw [hug,Yq,q,WC rfl] <;> rfl
 ·have ho:fw us n s=us.findIdx? fun u=>fC u.aS s:=by
   unfold fw;rw [hug,Yq,q,Ww aj]
  rw [ho];refine aR (cs:=[(false,[.int .i64]),(false,[.int .i64])]) (fun y m h'=>∃ i:Nat,y.2.1=(i:Int)/\m=us.length-i/\i<=us.length/\h'=h1/\∀ j,j<i->(hj:j<us.length)->fC us[j].aS s=false) ((0:Int),(0:Int),()) us.length rfl
   ⟨0,rfl,rfl,ad,rfl,fun j hj=>absurd hj ad⟩ ?_
  rintro ⟨n2,n3,⟨⟩⟩ m h' ⟨i,hi,rfl,hle,rfl,hno⟩;simp only at hi;subst hi;refine an ?_;refine ak (fun q=>?_) (fun q=>?_)
  ·have q:=Ws q;have hil:i<us.length:=ad
   obtain ⟨a',ta,tb,tc,td,ha',hc',va'⟩:=(v.ao e1).cells i hil;refine ay ⟨ad,ad⟩ (av ha' ?_);rw [show Int.toNat (i:Int)=i from ad];refine ax ((td.p,td.l,td.c),()) ⟨by rw [add_add]; exact hc'.2.2.2.1,trivial⟩ ?_;refine an ?_;refine aJ (Ib va'.aS.len (fun j hj=>by
    obtain ⟨a,ha,hc,_⟩:=va'.aS.cells j hj;exact ⟨a,ha,hc⟩) (by have:=va'.aS.many; omega) s) ?_
   refine ak (fun r=>?_) (fun r=>?_)
   ·refine ⟨?_,e1⟩;rw [show us.findIdx? (fun u=>fC u.aS s)=some i from by
     rw [WR];exact ⟨hil,r,fun j hj=>by rw [hno j hj ad]; simp⟩]
    rfl
   ·refine aF (cs:=[(false,[.int .i64]),(false,[.int .i64])]) (n2,((i+1:Nat):Int),()) (us.length-(i+1)) rfl ad (by rw [wrap_i64 ad ad]; rfl) ?_;exact ⟨i+1,rfl,rfl,ad,rfl,fun j hj hx=>by
     by_cases e:j=i
     ·subst e; exact r
     ·exact hno j ad hx⟩
  ·have q:=Wt q
   have:i=us.length:=ad
   subst this;refine ⟨?_,e1⟩;rw [show us.findIdx? (fun u=>fC u.aS s)=none from by
    rw [Xe];intro u hu;obtain ⟨j,hj,rfl⟩:=WS hu;exact hno j hj hj]
   rfl
def lP (n sec:Nat):Nat->List cz->List Lb
 | _,[]=>[]
 | i,x::l=>(if x.kind=1 then [⟨n,sec,i,x.name⟩] else [])++lP n sec (i+1) l
def Ce (n:Nat) (u:bP):List Lb:=lP n 0 0 u.text++lP n 1 0 u.data
def bt:Nat->List bP->List Lb
 | _,[]=>[]
 | n,u::us=>Ce n u++bt (n+1) us
def yP (x:Lb):Ky:=(x.u,x.n)
def ju (q:Nat × qi):Ky:=(q.1,q.2.1)
def mF (l:List Ky) (k:Ky):Option Nat:=l.findIdx? fun x=>decide (x=k)
theorem nT {l:List Ky} {k:Ky}:mF l k=none↔k∉l:=by
 unfold mF;rw [Xe];constructor
 ·intro h hk
  have:=h k hk
  simp at this
 ·intro h x hx;exact WE fun e=>h (e▸hx)
theorem jc {l:List Ky} {k:Ky} {i:Nat} (h:mF l k=some i):∃ hi:i<l.length,l[i]=k:=by
 unfold mF at h;rw [WR] at h;obtain ⟨h1,h2,_⟩:=h;exact ⟨h1,Ws h2⟩
theorem zS {l:List Ky} {k:Ky} (h:k∈l):∃ i,mF l k=some i:=by
 cases hk:mF l k with
 | some i=>exact ⟨i,rfl⟩
 | none=>exact absurd h (nT.1 hk)
theorem BP {l:List Ky} {y:Ky} (hn:y∉l):mF (l++[y])=x5 (mF l) y l.length:=by
 funext k
 unfold x5
 by_cases hk:k=y
 ·subst hk;rw [WC rfl];have h0:=nT.2 hn;unfold mF at h0 ⊢;rw [List.findIdx?_append,h0]
  simp
 ·rw [Ww hk];unfold mF;rw [List.findIdx?_append]
  have:decide (y=k)=false:=WE fun e=>hk e.symm
  simp [List.findIdx?_cons,this]
structure WI (w:LW) (L:List Lb) (E:List Ky):Prop where
 lb:w.lb=L
 num:w.num=mF (L.map yP)
 sx:w.sx=mF E
 ne:w.ne=E.length
theorem WI.Hx {w:LW} {L:List Lb} {E:List Ky} (i0:WI w L E) {n sec:Nat}:∀ (l:List cz) (i:Nat) {w:LW} {L:List Lb} (i0:WI w L E) (hn:(dY l).Nodup) (hd:∀ s,s∈dY l->(n,s)∉L.map yP),WI (ix n sec i l w) (L++lP n sec i l) E
 | [],i,w,L,i0,hn,hd=>by simpa [ix,lP] using i0
 | x::l,i,w,L,i0,hn,hd=>by
  rw [ry] at hn hd;rw [ix,lP,<- WU]
  by_cases hk:x.kind=1
  ·simp only [hk,if_true,List.singleton_append,List.nodup_cons,List.mem_cons] at hn hd;have hx:=hd x.name (.inl rfl);refine WI.Hx i0 l (i+1) ?_ hn.2 (fun s hs=>?_)
   ·unfold jf;rw [WC hk,WC hk];refine ⟨by show w.lb++_=_; rw [i0.lb],?_,i0.sx,i0.ne⟩;show x5 w.num (n,x.name) w.lb.length=_;rw [WG,List.map_singleton];show _=mF (L.map yP++[(n,x.name)]);rw [BP hx,i0.num,i0.lb,Wr]
   ·rw [WC hk,WG,WV];rintro (h | h)
    ·exact hd s (.inr hs) h
    ·have:(n,s)=(n,x.name):=by simpa [yP] using h
     have:s=x.name:=(Yc this).2
     exact hn.1 (this▸hs)
  ·simp only [hk,if_false,List.nil_append] at hn hd;rw [Ww hk,Xy];refine WI.Hx i0 l (i+1) ?_ hn hd;unfold jf;rw [Ww hk];exact i0
theorem WI.eqs {L:List Lb} {n:Nat}:∀ (l:List qi) {w:LW} {E:List Ky} (i0:WI w L E) (hn:(l.map (·.1)).Nodup) (hd:∀ s,s∈l.map (·.1)->(n,s)∉E),WI (l.foldl (uM n) w) L (E++l.map fun e=>(n,e.1))
 | [],w,E,i0,hn,hd=>by simpa using i0
 | x::l,w,E,i0,hn,hd=>by
  simp only [List.map_cons,List.nodup_cons,List.mem_cons] at hn hd;have hx:=hd x.1 (.inl rfl);rw [Xk,Xf,show E++(n,x.1)::l.map (fun e=>(n,e.1))=(E++[(n,x.1)])++l.map fun e=>(n,e.1) from aj];refine WI.eqs l ?_ hn.2 (fun s hs=>?_)
  ·refine ⟨i0.lb,i0.num,?_,?_⟩
   ·show x5 w.sx (n,x.1) w.ne=_;rw [BP hx,i0.sx,i0.ne]
   ·show (if (w.sx (n,x.1)).isSome then w.ne else w.ne+1)=_;rw [i0.sx,nT.2 hx,Wv,i0.ne] <;> rfl
  ·rw [WV];rintro (h | h)
   ·exact hd s (.inr hs) h
   ·have:(n,s)=(n,x.1):=by simpa using h
    have:s=x.1:=(Yc this).2
    exact hn.1 (this▸hs)
theorem wH (n sec:Nat):∀ (l:List cz) (i:Nat),(lP n sec i l).map yP=(dY l).map fun s=>(n,s)
 | [],i=>rfl
 | x::l,i=>by
  rw [lP,ry,WG,WG,wH n sec l (i+1)]
  by_cases hk:x.kind=1 <;> simp [hk,yP]
theorem WI.Wn {w:LW} {L:List Lb} {E:List Ky} {n:Nat} (i0:WI w L E) {u:bP} (hn:(fl u).Nodup) (h1:∀ k,k∈L.map yP->k.1<n) (h2:∀ k,k∈E->k.1<n):WI (Fm n u w) (L++Ce n u) (E++u.bf.map fun e=>(n,e.1)):=by
 unfold fl at hn;rw [XG,XG] at hn;obtain ⟨⟨n1,n2,n3⟩,n4,n5⟩:=hn;unfold Fm Ce;rw [<- WU];refine WI.eqs _ (WI.Hx i0 _ _ (WI.Hx i0 _ _ i0 n1 (fun s hs h=>by have:=h1 _ h; simp at this)) n2 (fun s hs h=>?_)) n4 (fun s hs h=>by have:=h2 _ h; simp at this);rw [WG,WV] at h;rcases h with h | h
 ·have:=h1 _ h; simp at this
 ·rw [wH] at h;obtain ⟨t,ht,he⟩:=Wz.1 h
  have:t=s:=(Yc he).2
  exact n3 t ht s hs this
theorem WI.vV:∀ (us:List bP) (n:Nat) {w:LW} {L:List Lb} {E:List Ky} (i0:WI w L E) (hn:∀ u,u∈us->(fl u).Nodup) (h1:∀ k,k∈L.map yP->k.1<n) (h2:∀ k,k∈E->k.1<n),WI (mw n us w) (L++bt n us) (E++(dZ n us).map ju)
 | [],n,w,L,E,i0,hn,h1,h2=>by simpa [mw,bt,dZ] using i0
 | u::us,n,w,L,E,i0,hn,h1,h2=>by
  rw [mw,bt,dZ,WG,<- WU,<- WU];have he:(u.bf.map fun e=>(n,e)).map ju=u.bf.map fun e=>(n,e.1):=by rw [WT]; rfl
  rw [he];refine WI.vV us (n+1) (WI.Wn i0 (hn u aj) h1 h2) (fun v hv=>hn v (by simp [hv])) (fun k hk=>?_) (fun k hk=>?_)
  ·rw [WG,WV] at hk;rcases hk with hk | hk
   ·have:=h1 _ hk; omega
   ·unfold Ce at hk;rw [WG,wH,wH,<- WG] at hk;obtain ⟨s,_,rfl⟩:=Wz.1 hk;show n<n+1;omega
  ·rcases WV.1 hk with hk | hk
   ·have:=h2 _ hk; omega
   ·obtain ⟨s,_,rfl⟩:=Wz.1 hk;show n<n+1;omega
theorem vD {u:bP} (h:eG u=0):(fl u).Nodup:=by
 have h1:=(zZ h).2;rw [wK] at h1;unfold vK at h1;simp only [Bool.and_eq_true,decide_eq_true_eq] at h1;exact h1.2.2.2.1
theorem Qx {us:List bP} (hr:∀ u,u∈us->eG u=0):WI (mw 0 us Q4) (bt 0 us) ((dZ 0 us).map ju):=by
 have:=WI.vV us 0 (w:=Q4) (L:=[]) (E:=[]) ⟨rfl,rfl,rfl,rfl⟩ (fun u hu=>vD (hr u hu)) aj aj
 simpa using this
theorem MM {n:Nat} {u:bP} {w:LW}:(Ez n u w).lb=w.lb/\(Ez n u w).num=w.num/\(Ez n u w).sx=w.sx/\(Ez n u w).ne=w.ne:=by
 have h:=K4 n u.aS w;exact ⟨h.1,h.2.1,h.2.2.2.1,h.2.2.2.2⟩
theorem Bn:∀ (us:List bP) (n:Nat) (w w':LW),jZ n us w=.ok w'->w'.lb=w.lb/\w'.num=w.num/\w'.sx=w.sx/\w'.ne=w.ne
 | [],n,w,w',h=>by
  unfold jZ at h;cases h;exact ⟨rfl,rfl,rfl,rfl⟩
 | u::us,n,w,w',h=>by
  rw [jZ] at h;split at h
  ·cases h
  ·have h1:=Bn us (n+1) _ w' h;have h2:=MM (n:=n) (u:=u) (w:=w);exact ⟨h1.1.trans h2.1,h1.2.1.trans h2.2.1,h1.2.2.1.trans h2.2.2.1,h1.2.2.2.trans h2.2.2.2⟩
theorem WI.meet {us:List bP} {n:Nat} {w w':LW} {L:List Lb} {E:List Ky} (i0:WI w L E) (h:jZ n us w=.ok w'):WI w' L E:=by
 have:=Bn us n w w' h
 exact ⟨this.1.trans i0.lb,this.2.1.trans i0.num,this.2.2.1.trans i0.sx,this.2.2.2.trans i0.ne⟩
theorem WI.JE {w:LW} {L:List Lb} {E:List Ky} (i0:WI w L E) (h1:L.length<=2^50) (h2:E.length<=2^50):N5 w:=by
 refine ⟨fun k i h=>?_,fun k i h=>?_⟩
 ·rw [i0.num] at h;obtain ⟨hi,_⟩:=jc h;rw [Wr] at hi;omega
 ·rw [i0.sx] at h;obtain ⟨hi,_⟩:=jc h;omega
theorem He (u:Nat):(Lib.decDigits u).foldl (fun a b=>a*10+(b.toNat-48)) 0=u:=by
 induction u using Nat.strongRecOn with
 | ind u ih =>
  rw [Lib.decDigits];split
  ·next h =>
   have h1:(UInt8.ofNat (48+u)).toNat=48+u:=by rw [UInt8.toNat_ofNat']; omega
   simp only [List.foldl_cons,List.foldl_nil,h1];omega
  ·next h =>
   have h1:(UInt8.ofNat (48+u % 10)).toNat=48+u % 10:=by rw [UInt8.toNat_ofNat']; omega
   rw [Xz,ih (u / 10) ad];simp only [List.foldl_cons,List.foldl_nil,h1];omega
theorem vR (n:Nat):mv n=⟨(Lib.decDigits n).toArray⟩:=by
 unfold mv;rw [Lib.itoa_nonneg]
theorem rJ {m n:Nat} (h:mv m=mv n):m=n:=by
 rw [vR,vR] at h;have h1:Lib.decDigits m=Lib.decDigits n:=by
  have:=WJ (fun b:YA=>b.data.toList) h
  simpa using this
 rw [<- He m,h1,He]
theorem ek (a b:YA):(a++b).data.toList=a.data.toList++b.data.toList:=by
 rw [ByteArray.data_append,Array.toList_append]
theorem uY {a b c:YA} (h:a++b=a++c):b=c:=by
 have h1:=WJ (fun b:YA=>b.data.toList) h;simp only [ek] at h1;have h2:=List.append_cancel_left h1;cases b; cases c;simp only at h2
 congr 1
 exact Array.ext' h2
theorem word_inj {w:LW} {L:List Lb} {E:List Ky} (i0:WI w L E) {k k':Ky} (hk:k∈L.map yP\/k∈E) (hk':k'∈L.map yP\/k'∈E) (h:w.word k=w.word k'):k=k':=by
 have hne:∀ a b:YA,(⟨#[76]⟩:YA)++a≠(⟨#[69]⟩:YA)++b:=by
  intro a b e;have h1:=WJ (fun b:YA=>b.data.toList) e;simp only [ek] at h1;simp at h1
 have hg:∀ {k:Ky},k∈L.map yP\/k∈E->w.num k=none->∃ i,w.sx k=some i/\∃ hi:i<E.length,E[i]=k:=by
  intro k hk hn;rw [i0.num] at hn
  have:=nT.1 hn
  have hk:k∈E:=hk.elim (fun h=>absurd h this) id;obtain ⟨i,hi⟩:=zS hk;exact ⟨i,by rw [i0.sx]; exact hi,jc hi⟩
 unfold LW.word at h;cases h1:w.num k with
 | some i =>
  cases h2:w.num k' with
  | some j =>
   rw [h1,h2] at h
   have:=rJ (uY h)
   subst this;rw [i0.num] at h1 h2;obtain ⟨a,ha⟩:=jc h1;obtain ⟨b,hb⟩:=jc h2;rw [<- ha,<- hb]
  | none =>
   rw [h1,h2] at h;exact absurd h (hne _ _)
 | none =>
  obtain ⟨i,h3,hi,hie⟩:=hg hk h1;cases h2:w.num k' with
  | some j =>
   rw [h1,h2] at h;exact absurd h.symm (hne _ _)
  | none =>
   obtain ⟨j,h4,hj,hje⟩:=hg hk' h2;rw [h1,h2] at h;simp only [h3,h4,Option.getD_some] at h
   have:=rJ (uY h)
   subst this;rw [<- hie,<- hje]
theorem BE {w:LW} (b:N5 w) (k:Ky):(w.word k).size<=maxLen:=by
 have hml:2000<=maxLen:=cg
 unfold LW.word;cases h:w.num k with
 | some n =>
  have:=kO (n:=n) (by have:=b.n _ _ h; omega)
  show (_++_:YA).size<=_;rw [XU]
  have:(⟨#[76]⟩:YA).size=1:=rfl
  omega
 | none =>
  have h1:(w.sx k).getD 0<=2^60:=by
   cases h2:w.sx k with
   | none=>simp
   | some i=>have:=b.e _ _ h2; simp; omega
  have:=kO h1
  show (_++_:YA).size<=_;rw [XU]
  have:(⟨#[69]⟩:YA).size=1:=rfl
  omega
theorem zJ {w:LW} {u:Nat} {x:bZ} (h:w.bad u x=none):∀ t,t∈x.ai->∃ k,w.own u t.1=some k:=by
 unfold LW.bad at h;rw [Option.map_eq_none_iff,List.find?_eq_none] at h;intro t ht
 have:=h t ht
 cases ho:w.own u t.1 with
 | none=>rw [ho] at this; simp at this
 | some k=>exact ⟨k,rfl⟩
theorem HB {w:LW} {u:Nat} {x:bZ} (h:w.bad u x=none):∀ t,t∈(w.lin u x).ai->∃ p k,p∈x.ai/\w.own u p.1=some k/\t.1=w.word k:=by
 intro t ht;have hb:=zJ h;rcases rz ht with ⟨p,hp,he,ho⟩ | ⟨p,y,v,hp,ho,hv,he⟩
 ·obtain ⟨k,hk⟩:=hb p hp;rw [he] at hk;rw [hk] at ho;cases ho
 ·obtain ⟨k,hk⟩:=hb p hp;rw [hk] at ho;simp only [Option.map_some,Option.some.injEq] at ho;subst ho;refine ⟨p,k,hp,hk,?_⟩;rw [<- he]
  have:v=(w.word k,1):=by simpa [lO] using hv
  rw [this]
theorem yn {w:LW} {u:Nat} {x:bZ} (h:w.bad u x=none):(w.lin u x).ai.length<=x.ai.length:=by
 have hnf:Nf (w.lin u x).ai:=eE _ _;have h1:((w.lin u x).ai.map (·.1)).Nodup:=Xp.2 (hnf.1.imp fun h=>jU h);have h2:=lz ((w.lin u x).ai.map (·.1)) (x.ai.map fun t=>w.word ((w.own u t.1).getD (0,du))) h1 (fun s hs=>by
  obtain ⟨t,ht,rfl⟩:=Wz.1 hs;obtain ⟨p,k,hp,hk,he⟩:=HB h t ht;rw [he];refine Wz.2 ⟨p,hp,?_⟩;rw [hk];rfl)
 rwa [Wr,Wr] at h2
theorem KO {w:LW} (b:N5 w) {u:Nat} {x:bZ} (h:w.bad u x=none):∀ t,t∈(w.lin u x).ai->t.1.size<=maxLen:=by
 intro t ht;obtain ⟨p,k,_,_,he⟩:=HB h t ht;rw [he];exact BE b k
theorem BQ {w:LW} {n:Nat} {u:bP} (h:rb w n u=none):(∀ x,x∈u.text->w.bad n x.e=none)/\(∀ x,x∈u.data->w.bad n x.e=none)/\∀ e,e∈u.bf->w.bad n e.2=none:=by
 unfold rb at h;rw [Option.or_eq_none_iff,Option.or_eq_none_iff] at h;obtain ⟨h1,h2,h3⟩:=h;unfold LW.xN at h1 h2;rw [Xq] at h1 h2 h3;exact ⟨h1,h2,h3⟩
theorem kX {w:LW}:∀ (us:List bP) (n:Nat),fJ w n us=none->∀ i,(hi:i<us.length)->rb w (n+i) us[i]=none
 | [],n,h,i,hi=>absurd hi aj
 | u::us,n,h,i,hi=>by
  rw [fJ] at h;cases hb:rb w n u with
  | some s=>rw [hb] at h; cases h
  | none =>
   rw [hb] at h
   match i with
   | 0=>simpa using hb
   | i+1 =>
    have:=kX us (n+1) h i (by simpa using hi)
    rw [show n+1+i=n+(i+1) from ad] at this;simpa using this
theorem vu:∀ (us:List bP) (n:Nat) (q:Nat × qi),q∈dZ n us->∃ i,∃ hi:i<us.length,q.1=n+i/\q.2∈us[i].bf
 | [],n,q,h=>by simp [dZ] at h
 | u::us,n,q,h=>by
  rw [dZ,WV] at h;rcases h with h | h
  ·obtain ⟨e,he,rfl⟩:=Wz.1 h;exact ⟨0,aj,rfl,he⟩
  ·obtain ⟨i,hi,h1,h2⟩:=vu us (n+1) q h;exact ⟨i+1,by simpa using hi,ad,by simpa using h2⟩
theorem CR {w:LW} {us:List bP} (h:fJ w 0 us=none) {q:Nat × qi} (hq:q∈dZ 0 us):w.bad q.1 q.2.2=none:=by
 obtain ⟨i,hi,h1,h2⟩:=vu us 0 q hq
 have:=(BQ (kX us 0 h i hi)).2.2 _ h2
 rw [h1];exact this
theorem Hz:∀ (us:List bP) (n:Nat),(∀ u,u∈us->u.bf.length<=8192)->(dZ n us).length<=us.length*8192
 | [],n,h=>by simp [dZ]
 | u::us,n,h=>by
  rw [dZ,Wv,Wr,Xi];have h1:=Hz us (n+1) (fun v hv=>h v (by simp [hv]));have h2:=h u aj;omega
theorem wy:∀ (us:List bP) (n:Nat),(∀ u,u∈us->(u.bf.map (·.1)).Nodup)->((dZ n us).map ju).Nodup
 | [],n,h=>by simp [dZ]
 | u::us,n,h=>by
  rw [dZ,WG,XG];refine ⟨?_,wy us (n+1) (fun v hv=>h v (by simp [hv])),?_⟩
  ·have:(u.bf.map fun e=>(n,e)).map ju=(u.bf.map (·.1)).map fun s=>(n,s):=by rw [WT,WT]; rfl
   rw [this,XP,Xp];exact (XP.1 (h u aj)).imp fun h e=>h (Yc e).2
  ·intro a ha b hb e;obtain ⟨q,hq,rfl⟩:=Wz.1 ha;obtain ⟨r,hr,rfl⟩:=Wz.1 hb;obtain ⟨x,_,rfl⟩:=Wz.1 hq;obtain ⟨i,_,h1,_⟩:=vu us (n+1) r hr
   have:n=r.1:=(Yc e).1
   omega
theorem AM:∀ (us:List bP) (n:Nat),((dZ n us).map fun q=>q.2.2.ai.length).sum<=((us.flatMap cF).flatMap (·.ai)).length
 | [],n=>by simp [dZ]
 | u::us,n=>by
  rw [dZ,WG,List.sum_append,Xj,X3,Wv];have h1:=AM us (n+1);have h2:((u.bf.map fun e=>(n,e)).map fun q=>q.2.2.ai.length).sum<=((cF u).flatMap (·.ai)).length:=by
   unfold cF;rw [X3,Wv,WT]
   have:∀ l:List qi,(l.map ((fun q:Nat × qi=>q.2.2.ai.length) ∘ fun e=>(n,e))).sum=((l.map (·.2)).flatMap (·.ai)).length:=by
    intro l
    induction l with
    | nil=>rfl
    | cons e l ih=>rw [Xf,XM,Xf,Xj,Wv,ih]; rfl
   rw [this];omega
  omega
structure Ew (us:List bP):Prop where
 right:∀ u,u∈us->eG u=0
 many:us.length<=64
theorem Ew.bf {us:List bP} (r:Ew us) {u:bP} (hu:u∈us):u.bf.length<=8192/\u.text.length+u.data.length<=8192:=by
 have h:=(zZ (r.right u hu)).1;unfold uA at h;rw [Bool.or_eq_false_iff] at h;have h1:=Wt h.1;have h2:=Wt h.2;omega
theorem Ew.eqs {us:List bP} (r:Ew us):(dZ 0 us).length<=2^19:=by
 have h1:=Hz us 0 (fun u hu=>(r.bf hu).1);have h2:=r.many;omega
theorem qW (n sec:Nat):∀ (l:List cz) (i:Nat),(lP n sec i l).length<=l.length
 | [],i=>by simp [lP]
 | x::l,i=>by
  have:=qW n sec l (i+1)
  rw [lP,Wv,Xi];split <;> simp <;> omega
theorem BC:∀ (us:List bP) (n:Nat),(∀ u,u∈us->u.text.length+u.data.length<=8192)->(bt n us).length<=us.length*8192
 | [],n,h=>by simp [bt]
 | u::us,n,h=>by
  rw [bt,Wv,Xi];have h1:=BC us (n+1) (fun v hv=>h v (by simp [hv]));have h2:=h u aj;have h3:=qW n 0 u.text 0;have h4:=qW n 1 u.data 0;unfold Ce;rw [Wv];omega
theorem Ew.dY {us:List bP} (r:Ew us):(bt 0 us).length<=2^19:=by
 have h1:=BC us 0 (fun u hu=>(r.bf hu).2);have h2:=r.many;omega
theorem Ew.JE {us:List bP} (r:Ew us) {w:LW} (i0:WI w (bt 0 us) ((dZ 0 us).map ju)):N5 w :=
 i0.JE (by have:=r.dY; omega) (by rw [Wr]; have:=r.eqs; omega)
theorem Sw {us:List bP} (r:Ew us) (sm:Ho us) {w:LW} (i0:WI w (bt 0 us) ((dZ 0 us).map ju)) (hb:fJ w 0 us=none) {es:List cD} (h:es.map fc=uS w us):sG es:=by
 have lb:=r.JE i0;have hn:Sx.aT es=(dZ 0 us).map fun q=>w.word (ju q):=by
  have:=WJ (List.map (·.1)) h
  unfold uS at this;rw [WT,WT] at this;exact this
 have hl:es.length=(dZ 0 us).length:=by
  have:=WJ List.length h
  unfold uS at this;simpa using this
 have hmem:∀ e,e∈es->∃ q,q∈dZ 0 us/\e.name=w.word (ju q)/\e.x=w.lin q.1 q.2.2:=by
  intro e he;have h1:fc e∈uS w us:=by rw [<- h]; exact WL he
  unfold uS at h1;obtain ⟨q,hq,h2⟩:=Wz.1 h1;exact ⟨q,hq,(Yc h2).1.symm,(Yc h2).2.symm⟩
 have htot:(es.flatMap (·.x.ai)).length<=2^20:=by
  have e1:∀ l:List cD,(l.flatMap (·.x.ai)).length=((l.map fc).map (·.2.ai.length)).sum:=by
   intro l
   induction l with
   | nil=>rfl
   | cons e l ih=>rw [Xj,Wv,Xf,Xf,XM,ih]; rfl
  rw [e1,h];unfold uS;rw [WT];have e2:∀ l:List (Nat × qi),(∀ q,q∈l->w.bad q.1 q.2.2=none)->(l.map ((fun p:YA × bZ=>p.2.ai.length) ∘ fun q=>(w.word (q.1,q.2.1),w.lin q.1 q.2.2))).sum<=(l.map fun q=>q.2.2.ai.length).sum:=by
   intro l hl
   induction l with
   | nil=>simp
   | cons q l ih =>
    rw [Xf,Xf,XM,XM];have h1:=ih (fun p hp=>hl p (by simp [hp]));have h2:=yn (hl q aj);have h3:((fun p:YA × bZ=>p.2.ai.length) ∘ fun q:Nat × qi=>(w.word (q.1,q.2.1),w.lin q.1 q.2.2)) q=(w.lin q.1 q.2.2).ai.length:=rfl;omega
  have h1:=e2 (dZ 0 us) (fun q hq=>CR hb hq);have h2:=AM us 0;have h3:=sm.ai;omega
 refine ⟨⟨?_,?_,?_,?_,?_⟩,htot⟩
 ·rw [hn];have h1:=wy us 0 (fun u hu=>by
   have:=vD (r.right u hu)
   unfold fl at this;rw [XG] at this;exact this.2.1)
  rw [XP,Xp] at h1 ⊢;refine List.Pairwise.imp_of_mem ?_ h1;intro a b ha hb' hne e;exact hne (word_inj i0 (.inr (WL ha)) (.inr (WL hb')) e)
 ·have:=r.eqs; omega
 ·intro e he;obtain ⟨q,_,h1,_⟩:=hmem e he;rw [h1];exact BE lb _
 ·intro e he
  have:=gF (fun e:cD=>e.x.ai) he
  omega
 ·intro e he t ht;obtain ⟨q,hq,_,h2⟩:=hmem e he;rw [h2] at ht;exact KO lb (CR hb hq) t ht
theorem I6 {es ms:List cD} (o:sG es) (hc:∀ v,¬ jS (df es) v) (hm:ms.map (fun m=>(m.name,m.x))=es.map (fun e=>(e.name,eM es e.name))) (hl:es.length<=2^19) :
  EqsOk ms/\(∀ e,e∈ms->e.x.ai.length<=2^20)/\(ms.flatMap (·.x.ai)).length<=2^39/\ms.length<=2^20:=by
 have hn:Sx.aT ms=Sx.aT es:=by
  have:=WJ (List.map (·.1)) hm
  rw [WT,WT] at this;exact this
 have hll:ms.length=es.length:=by
  have:=WJ List.length hm
  simpa using this
 have hmem:∀ e,e∈ms->e.name∈Sx.aT es/\e.x=eM es e.name:=by
  intro e he;have h1:(e.name,e.x)∈es.map (fun e=>(e.name,eM es e.name)):=by rw [<- hm]; exact WL (f:=fun m:cD=>(m.name,m.x)) he
  obtain ⟨q,hq,h2⟩:=Wz.1 h1;have h3:=(Yc h2).1;exact ⟨by rw [<- h3]; exact WL hq,by rw [<- (Yc h2).2,h3]⟩
 have hlen:∀ e,e∈ms->e.x.ai.length<=2^20:=fun e he=>by rw [(hmem e he).2]; exact o.Db hc (hmem e he).1
 refine ⟨⟨by rw [hn]; exact o.nodup,ad,fun e he=>?_,fun e he=>by have:=hlen e he; omega,fun e he t ht=>?_⟩,hlen,?_,ad⟩
 ·exact o.names _ (hmem e he).1
 ·rw [(hmem e he).2] at ht;exact o.NW hc (hmem e he).1 t ht
 ·have e1:∀ l:List cD,(∀ e,e∈l->e.x.ai.length<=2^20)->(l.flatMap (·.x.ai)).length<=l.length*2^20:=by
   intro l h
   induction l with
   | nil=>simp
   | cons e l ih =>
    rw [Xj,Wv,Xi];have h1:=ih (fun d hd=>h d (by simp [hd]));have h2:=h e aj;omega
  have:=e1 ms hlen
  omega
theorem R0 (n:Int):Instr.fill (fun j=>some (j*1,1)) ((Array.range (1*1)).map ((Value.int .u8 0).cells[· % (Value.int .u8 0).cells.size]!)) [(0,.int .u8 n)]=some ([.int .u8 n]:List YB).toArray:=az
def sO (n:Nat):YA:=⟨[UInt8.ofNat (48+n % 10)].toArray⟩
def fK (n:Nat):YA:=⟨(Lib.decDigits n).toArray⟩
theorem zX {n:Nat} (h:n<10):fK n=sO n:=by
 unfold fK sO;rw [Lib.decDigits_one h,X4 h]
theorem Jd {n:Nat} (h:¬ n<10) (s:YA):fK n++s=fK (n / 10)++(sO n++s):=by
 unfold fK sO
 conv=>lhs; rw [Lib.decDigits,dif_neg h]
 apply xB;rw [ek,ek,ek];simp [List.append_assoc]
theorem xf {L:Lp} {K:YB->Hp->Prop} {h:Hp} {n:Nat} (hn:n<=2^60) {k:YA->T} (hk:∀ h',Ext h h'->k (sO n) L K h') :
  T.dW Tryz.prog (Instr.buildSlice 182 1 #[(0,.int .u8 (IntKind.wrap .u8 (IntKind.wrap .i64 ((48:Int)+(Int.tmod (n:Int) (10:Int))))))]) false [(false,[.slice 0])] (fun p3 l4 l5 =>
   T.dW Tryz.prog (convert 182 9 (.slice p3 l4 l5)) false [(false,[.string])] k) L K h:=by
 have hw:=RJ n;rw [hw];refine jX Ma We ad ad (R0 _) ?_;intro h1 b1 e1 z1;have s1:SL h1 h.size 5 1 (some ⟨h.size,0,none⟩) 1 1 (Lw [UInt8.ofNat (48+n % 10)]):=⟨rfl,by simp [Lw],h.size,[],[],rfl,WH _,ad,by simpa [Lw] using b1,aj⟩
 exact KJ s1 aj (hk h1 e1)
theorem yu (s:YA):((ByteArray.toList s)==([]:List UInt8))=decide (s.data.toList=[]):=by
 rw [ByteArray.toList_eq];cases h:s.data.toList <;> simp
theorem vU {h:Hp} {n:Nat} (hn:n<=2^60):HC Tryz.prog 91 #[.int .i64 (n:Int)] h fun w h'=>w=.string (fK n)/\Ext h h':=by
 refine aZ (args:=[.int .i64 (n:Int)]) mixed Tryz.func91 az (lQ n) ?_;unfold ir bk bK bj bU aM;have hd1:∀ m,(sO m).size=1:=fun m=>rfl
 have hde:∀ m s,¬ (sO m++s).data.toList=[]:=fun m s hh=>by rw [ek] at hh; simp [sO] at hh
 refine aR (cs:=[(false,[.int .i64]),(false,[.string])]) (fun y k h'=>∃ (m:Nat) (s:YA),y.1=(m:Int)/\y.2.1=s/\k=2*m+(if s.data.toList=[] then 1 else 0)/\m<=n/\s.size+m<=n+1/\Ext h h'/\((s=⟨#[]⟩/\m=n)\/(¬ s.data.toList=[]/\fK n=(if m=0 then ⟨#[]⟩ else fK m)++s))) ((n:Int),(⟨#[]⟩:YA),()) _ rfl
  ⟨n,⟨#[]⟩,rfl,rfl,rfl,WH _,by show 0+n<=n+1; omega,Ch.refl _ _,.inl ⟨rfl,rfl⟩⟩ ?_
 rintro ⟨n1,(s:YA),⟨⟩⟩ k h1 ⟨m,s',hi,hs',rfl,hmn,hsz,e1,hs⟩;simp only at hi hs';subst hi hs';refine an ?_;have hdiv:IntKind.wrap .i64 (Int.tdiv (m:Int) 10)=((m / 10:Nat):Int):=by
  have:Int.tdiv (m:Int) 10=((m / 10:Nat):Int):=by rw [Int.tdiv_eq_ediv_of_nonneg ad]; omega
  rw [this,wrap_i64 ad ad]
 have hsa:∀ s:YA,(sO m++s).size=1+s.size:=fun s=>by rw [XU,hd1]
 refine ak (fun q=>?_) (fun q=>?_)
 ·have q:=Ws q;have hm:¬ m=0:=ad
  refine ay cg ?_;refine xf ad ?_;intro h2 e2;refine ay (by show ((((sO m).size+s.size:Nat)):Int)<=_; rw [hd1]; omega) (ay cg ?_);have hb:fK n=fK m++s:=by
   rcases hs with ⟨rfl,rfl⟩ | ⟨_,hs⟩
   ·apply xB;rw [ek]
    simp
   ·rw [hs,Ww hm]
  refine aF (cs:=[(false,[.int .i64]),(false,[.string])]) (((m / 10:Nat):Int),sO m++s,()) (2*(m / 10)+0) rfl ad (WJ (fun z=>[Value.int .i64 z,.string (sO m++s)]) hdiv) ⟨m / 10,sO m++s,rfl,rfl,by rw [Ww (hde m s)],ad,by rw [hsa]; omega,e1.trans e2,.inr ⟨hde m s,?_⟩⟩;rw [hb]
  by_cases h10:m<10
  ·rw [zX h10,WC ad];apply xB;rw [ek,ek,ek]
   simp
  ·rw [Jd h10,Ww ad]
 ·have q:=Wt q;have hm:m=0:=ad
  subst hm;rw [yu];refine ak (fun r=>?_) (fun r=>?_)
  ·have r:=Ws r;rcases hs with ⟨rfl,h0⟩ | ⟨hh,_⟩
   ·subst h0;refine ay cg ?_;refine xf ad ?_;intro h2 e2;refine ay cg (ay cg ?_);refine aF (cs:=[(false,[.int .i64]),(false,[.string])]) (((0:Nat):Int),sO 0++⟨#[]⟩,()) 0 rfl aj rfl ⟨0,sO 0++⟨#[]⟩,rfl,rfl,by rw [Ww (hde 0 _)],ad,cg,e1.trans e2,.inr ⟨hde 0 _,?_⟩⟩;rw [zX ad,WC rfl];apply xB;rw [ek,ek]
    simp
   ·exact absurd r hh
  ·have r:=Wt r;rcases hs with ⟨rfl,_⟩ | ⟨_,hs⟩
   ·exact absurd rfl r
   ·refine ⟨?_,e1⟩;rw [hs,WC rfl]
    congr 1
def kG (us:List bP) (n:Nat) (x:bZ):Option YA:=(x.ai.find? fun t=>(fw us n t.1).isNone).map (·.1)
def dG (us:List bP) (n:Nat) (x:bZ):YA:=(kG us n x).getD ⟨#[]⟩
theorem PD (o:Option Nat):decide (Ha o<0)=o.isNone:=by
 cases o with
 | none=>rfl
 | some k=>exact WE (by show ¬ ((k:Int)<0); omega)
theorem E1 {h:Hp} {p:Option YC} {l c:Nat} {us:List bP} (v:sT h p l us) (sz:Dd us) {n:Nat} (hn:n<us.length) {q:Option YC} {m d:Nat} {x:bZ} (u:gp h q m x.ai) (hx:x.ai.length<=2^60) :
  HC Tryz.prog 113 #[.slice p l c,.int .i64 (n:Int),gn q m d x] h fun w h'=>w=.string (dG us n x)/\Ext h h':=by
 refine aZ (args:=[.slice p l c,.int .i64 (n:Int),.agg #[.slice q m d,.int .u32 x.num]]) mixed Tryz.func113 az (mR p l c n q m d x.num) ?_;unfold iU aX bh bm aH cn bU aM;have hll:=u.len;refine bq ?_;intro h1 b1 e1 z1;refine aR (cs:=[(false,[.string]),(false,[.int .i64])]) (fun y k h'=>∃ i:Nat,y.2.1=(i:Int)/\k=x.ai.length-i/\i<=x.ai.length/\Ext h h'/\Ext h1 h'/\∀ j,j<i->(hj:j<x.ai.length)->(fw us n x.ai[j].1).isNone=false) ((⟨#[]⟩:YA),(0:Int),()) x.ai.length rfl
  ⟨0,rfl,rfl,ad,e1,Ch.refl _ _,fun j hj=>absurd hj ad⟩ ?_
 rintro ⟨s4,n5,⟨⟩⟩ k h2 ⟨i,hi,rfl,hle,e02,e12,hno⟩;simp only at hi;subst hi;refine an ?_;have b2:=b1.ao e12 aj;refine af b2 ((q,m,d),()) rfl ?_;refine an ?_;refine ak (fun g=>?_) (fun g=>?_)
 ·have g:=Ws g;have hil:i<x.ai.length:=ad
  refine af b2 ((q,m,d),()) rfl ?_;refine an ?_;obtain ⟨a,rfl,hc⟩:=(u.ao e02 aj).cells i hil;refine ay ⟨ad,ad⟩ (av rfl ?_);rw [show Int.toNat (i:Int)=i from ad];refine ax (x.ai[i].1,()) ⟨hc.1,trivial⟩ ?_;refine an ?_;refine aI (yF (c:=c) (v.ao e02) sz hn x.ai[i].1) ?_;rintro _ h3 ⟨rfl,e3⟩;refine ⟨(Ha (fw us n x.ai[i].1),()),rfl,?_⟩;refine an ?_;rw [PD];refine ak (fun r=>?_) (fun r=>?_)
  ·refine af (b2.ao e3 aj) ((some a,m,d),()) rfl ?_;refine an ?_;refine ay ⟨ad,ad⟩ (av rfl ?_);refine ax (x.ai[i].1,()) ⟨(aQ e3 aj _ _ hc).1,trivial⟩ ?_;refine ⟨?_,e02.trans e3⟩;unfold dG kG;rw [kB (fun t:YA × Nat=>(fw us n t.1).isNone) x.ai i hil (fun j hj=>hno j hj ad) r] <;> rfl
  ·refine aF (cs:=[(false,[.string]),(false,[.int .i64])]) (s4,((i+1:Nat):Int),()) (x.ai.length-(i+1)) rfl ad (by rw [wrap_i64 ad ad]; rfl) ?_;exact ⟨i+1,rfl,rfl,ad,e02.trans e3,e12.trans e3,fun j hj hx=>by
    by_cases e:j=i
    ·subst e; exact r
    ·exact hno j ad hx⟩
 ·have g:=Wt g
  have:i=x.ai.length:=ad
  subst this;refine ⟨?_,e02⟩;unfold dG kG;rw [om (fun t:YA × Nat=>(fw us n t.1).isNone) x.ai fun j hj=>hno j hj hj] <;> rfl
theorem Bv {P:Program} {h:Hp} {L:Lp} {K:YB->Hp->Prop} {k:Option YC->Nat->Nat->T} {t ty e:TypeId} {z:YB} {sz by':Nat} (ht:P.underlying t=some (.slice e)) (hinf:(P.info? e).map (fun i=>(i.zero,i.size,i.bytes))=some (some z,sz,by'))
  (hzs:z.cells.size=sz) {b:Nat} {p:Option YC} {l c:Nat} {xs:List (List YB)} (s:SL h b e sz p l c xs) {q:Option YC} {m d:Nat} {ys:List (List YB)} (hsrc:(q=none/\ys=[])\/∃ a,q=some a/\aG h a 0 ys.flatten) (hm:m=ys.length) (hys:∀ y,y∈ys->y.length=sz) (hpl:ys.flatten.all cS=true)
  (hby:(2*(l+m)+1024)*by'<=2^48) (hlm:l+m<=2^48) (hb:b<=h.size)
  (hk:∀ p' c' h',SL h' b e sz p' (l+m) c' (xs++ys)->Ch (aK p) h h'->k p' (l+m) c' L K h') :
  T.dW P (Builtin.append_ #[t,t] ty #[.slice p l c,.slice q m d]) false [(false,[.slice 0])] k L K h:=by
 obtain ⟨i,hi,hz,rfl,rfl⟩:=kH hinf;refine cR ?_;rcases hsrc with ⟨rfl,rfl⟩ | ⟨a,rfl,hc⟩
 ·have h0:m=0:=hm;subst h0;have hc0:l<=c:=SL.Cp s;simp [Builtin.append_,ar,aC ht,bJ hi,cr hi,Builtin.lenOf,Builtin.firstCells,hc0];have hfin:∃ p' l' c',Value.slice p l c=.slice p' l' c'/\k p' l' c' L K h:=⟨p,l,c,rfl,by simpa using hk p c h (by simpa using s) (Ch.refl _ _)⟩
  cases p with
  | none=>exact hfin
  | some a=>exact hfin
 ·exact nr (P:=P) (K:=fun v h'=>∃ p l c,v=.slice p l c/\k p l c L K h') (ty:=ty) (ys:=ys) ht hi hz hzs s hm hys hc hpl hby hlm hb fun p' c' h' s' k' _=>⟨p',_,c',rfl,hk p' c' h' s' k'⟩
def qf (us:List bP) (n:Nat) (l:List bZ):YA:=((l.map (dG us n)).find? fun s=>!decide (s.data.toList=[])).getD ⟨#[]⟩
theorem HA {us:List bP} {n:Nat} {l:List bZ} {i:Nat} (hi:i<l.length) (h:∀ j,(hj:j<i)->(dG us n (l[j]'ad)).data.toList=[]) (hs:¬ (dG us n l[i]).data.toList=[]):qf us n l=dG us n l[i]:=by
 unfold qf;rw [kB (fun s:YA=>!decide (s.data.toList=[])) (l.map (dG us n)) i (by rw [Wr]; exact hi) (fun j hj=>by rw [Wy]; simp [h j hj]) (by rw [Wy]; simpa using hs)];rw [Wy] <;> rfl
theorem Jz {us:List bP} {n:Nat} {l:List bZ} (h:∀ j,(hj:j<l.length)->(dG us n l[j]).data.toList=[]):qf us n l=⟨#[]⟩:=by
 unfold qf;rw [om (fun s:YA=>!decide (s.data.toList=[])) (l.map (dG us n)) fun j hj=>by
  rw [Wr] at hj;rw [Wy];simp [h j hj]]
 rfl
theorem CY {h:Hp} {p:Option YC} {l c:Nat} {us:List bP} (v:sT h p l us) (sz:Dd us) {n:Nat} (hn:n<us.length) :
  HC Tryz.prog 90 #[.slice p l c,.int .i64 (n:Int)] h fun w h'=>w=.string (qf us n (cF us[n]))/\Ext h h':=by
 refine aZ (args:=[.slice p l c,.int .i64 (n:Int)]) mixed Tryz.func90 az (jQ p l c n) ?_;unfold fT aX bh bm aH iA bk bi bU aM;have hll:=v.len;have hmany:=sz.many;obtain ⟨a,sa,sb,sc,sd,rfl,hc,va⟩:=v.cells n hn;have hm:=WA hn;generalize us[n]=u at hc va hm;refine ay ⟨ad,ad⟩ (av rfl ?_);rw [show Int.toNat (n:Int)=n from ad];refine ax ((sa.p,sa.l,sa.c),(sb.p,sb.l,sb.c),(sc.p,sc.l,sc.c),(sd.p,sd.l,sd.c),()) hc ?_;refine an ?_;refine bq ?_;intro h1 b1 e1 z1;refine aw b1 rfl aj ?_;intro h2 b2 k2 z2;have b2:bC h2 h.size 30 [sa.v,sb.v,sc.v,sd.v]:=b2;have e2:Ext h h2:=Ch.trans e1 k2 (fun j hj hl=>by simp at hj; omega);refine af b2 ((sa.p,sa.l,sa.c),()) rfl ?_;refine an ?_;rw [aE];refine af b2 ((sb.p,sb.l,sb.c),()) rfl ?_;refine an ?_;have va2:=va.ao e2;obtain ⟨wt,hwt,vwt,iwt⟩:=Cd va2.text;obtain ⟨wd,hwd,vwd,iwd⟩:=Cd va2.data;have hlt:wt.length=u.text.length:=by rw [<- hwt,Wr]
 have hld:wd.length=u.data.length:=by rw [<- hwd,Wr]
 have h1t:=sz.text u hm;have h1d:=sz.data u hm;have h1e:=sz.bf u hm;have hlvt:=vwt.len;have hlvd:=vwd.len;refine Qo (z:=.agg iz.toArray) (sz:=10) (by':=104) yN DK ?_;intro h3 s3 e3;have z3:=e3.size;have z2':=e2.size;have b3:=b2.ao e3 aj;refine ⟨⟨b3.cells _ rfl,b3.cells _ rfl,trivial⟩,?_⟩;have esrc:∀ {h h':Hp} {q:Option YC} {us:List (bY × cz)},Ext h h'->((q=none/\us.map sH=[])\/∃ a,q=some a/\aG h a 0 (us.map sH).flatten)->((q=none/\us.map sH=[])\/∃ a,q=some a/\aG h' a 0 (us.map sH).flatten):=by
  rintro h h' q us e (x | ⟨a,ha,hc⟩)
  ·exact .inl x
  ·exact .inr ⟨a,ha,aQ e aj _ _ hc⟩
 refine Bv (z:=.agg iz.toArray) (sz:=10) (by':=104) yN DK rfl s3 (esrc e3 vwt.src) (by simpa using hlvt) (ou wt) (pn wt) ad ad ad ?_;intro p4 c4 h4 s4 k4;have e4:Ext h2 h4:=Ch.trans e3 k4 (fun j hj hl=>by simp [aK] at hj; omega);have b4:=b2.ao e4 aj;have z4:=e4.size;rw [X1] at s4;refine ⟨⟨b4.cells _ rfl,trivial⟩,?_⟩;refine Bv (z:=.agg iz.toArray) (sz:=10) (by':=104) yN DK rfl s4 (esrc e4 vwd.src) (by simpa using hlvd) (ou wd) (pn wd) ad ad ad ?_;intro p5 c5 h5 s5 k5;have e5:Ext h2 h5:=Ch.trans e4 k5 (fun j hj hl=>by have:=(s4.cd hj).1; omega);have b5:=b2.ao e5 aj;rw [<- WG] at s5;refine ⟨⟨b5.cells _ rfl,trivial⟩,?_⟩;have e05:=e2.trans e5;have hI:∀ w,w∈wt++wd->lA h5 w.1.p w.1.l w.2:=fun w hw=>by
  rcases WV.1 hw with hw | hw
  ·exact (iwt w hw).ao e5
  ·exact (iwd w hw).ao e5
 have hE:(wt++wd).map (fun w=>w.2.e)=u.text.map (·.e)++u.data.map (·.e):=by
  rw [WG,<- hwt,<- hwd,WT,WT] <;> rfl
 have hlin:cF u=(wt++wd).map (fun w=>w.2.e)++u.bf.map (·.2):=by rw [hE]; rfl
 have hwl:(wt++wd).length=sa.l+sb.l:=by rw [Wv]; omega
 generalize wt++wd=W at s5 hI hlin hwl;clear hE;refine aR (cs:=[(false,[.string]),(false,[.int .i64])]) (fun y k h'=>∃ i:Nat,y.2.1=(i:Int)/\k=W.length-i/\i<=W.length/\Ext h5 h'/\∀ j,j<i->(hj:j<W.length)->(dG us n W[j].2.e).data.toList=[]) ((⟨#[]⟩:YA),(0:Int),()) W.length rfl
  ⟨0,rfl,rfl,ad,Ch.refl _ _,fun j hj=>absurd hj ad⟩ ?_
 rintro ⟨s31,n32,⟨⟩⟩ k h6 ⟨i,hi,rfl,hle,e6,hno⟩;simp only at hi;subst hi;refine an ?_;have s6:=s5.bG e6 aj;have e06:=e05.trans e6;have b6:=b5.ao e6 aj;refine ak (fun g=>?_) (fun g=>?_)
 ·have g:=Ws g;have hil:i<W.length:=ad
  obtain ⟨a6,rfl,hc6⟩:=SL.cells s6 (i:=i) (by rw [Wr]; exact hil);rw [Wy] at hc6;have hiw:=(hI _ (WA hil)).ao e6;refine ay ⟨ad,ad⟩ (av rfl ?_);rw [show Int.toNat (i:Int)=i from ad];refine ax ((W[i].1.p,W[i].1.l,W[i].1.c),(W[i].2.e.num:Int),()) ⟨by rw [add_add]; exact hc6.2.2.2.2.2.2.2.1,by rw [add_add]; exact hc6.2.2.2.2.2.2.2.2.1,trivial⟩ ?_;refine an ?_;refine aI (E1 (c:=c) (d:=W[i].1.c) (v.ao e06) sz hn hiw.lin.vw hiw.lin.many) ?_;rintro _ h7 ⟨rfl,e7⟩;refine ⟨(dG us n W[i].2.e,()),rfl,?_⟩;refine an ?_;rw [yu];refine ak (fun r=>?_) (fun r=>?_)
  ·have r:¬ (dG us n W[i].2.e).data.toList=[]:=by simpa using r
   refine ⟨?_,e06.trans e7⟩;rw [hlin,HA (i:=i) (by rw [Wv,Wr]; omega) (fun j hj=>by
    rw [XN (by rw [Wr]; omega),Wy];exact hno j hj ad) (by
    rw [XN (by rw [Wr]; omega),Wy];exact r)]
   rw [XN (by rw [Wr]; omega),Wy]
  ·have r:(dG us n W[i].2.e).data.toList=[]:=by simpa using r
   refine aF (cs:=[(false,[.string]),(false,[.int .i64])]) (s31,((i+1:Nat):Int),()) (W.length-(i+1)) rfl ad (by rw [wrap_i64 ad ad]; rfl) ?_;exact ⟨i+1,rfl,rfl,ad,e6.trans e7,fun j hj hx=>by
    by_cases e:j=i
    ·subst e; exact r
    ·exact hno j ad hx⟩
 ·have g:=Wt g;have hiW:i=W.length:=ad
  subst hiW;have veq:=va.bf;have hlq:=veq.len;refine aR (cs:=[(false,[.string]),(false,[.int .i64])]) (fun y k h'=>∃ i:Nat,y.2.1=(i:Int)/\k=u.bf.length-i/\i<=u.bf.length/\Ext h5 h'/\∀ j,j<i->(hj:j<u.bf.length)->(dG us n u.bf[j].2).data.toList=[]) (s31,(0:Int),()) u.bf.length rfl
   ⟨0,rfl,rfl,ad,e6,fun j hj=>absurd hj ad⟩ ?_
  rintro ⟨s33,n34,⟨⟩⟩ k h7 ⟨i,hi,rfl,hle,e7,hno7⟩;simp only at hi;subst hi;refine an ?_;have b7:=b5.ao e7 aj;have e07:=e05.trans e7;rw [aE];refine af b7 ((sc.p,sc.l,sc.c),()) rfl ?_;refine an ?_;refine ak (fun g=>?_) (fun g=>?_)
  ·have g:=Ws g;have hil:i<u.bf.length:=ad
   refine af b7 ((sc.p,sc.l,sc.c),()) rfl ?_;refine an ?_;obtain ⟨aq,q,m,d,haq,hcq,hvq,_⟩:=(veq.ao e07).cells i hil;refine ay ⟨ad,ad⟩ (av haq ?_);rw [show Int.toNat (i:Int)=i from ad];refine ax ((q,m,d),(u.bf[i].2.num:Int),()) ⟨by rw [add_add]; exact hcq.2.1,by rw [add_add]; exact hcq.2.2.1,trivial⟩ ?_;refine an ?_;refine aI (E1 (c:=c) (d:=d) (v.ao e07) sz hn hvq.vw hvq.many) ?_;rintro _ h8 ⟨rfl,e8⟩;refine ⟨(dG us n u.bf[i].2,()),rfl,?_⟩;refine an ?_;rw [yu];have hlen:(W.map fun w=>w.2.e).length=W.length:=Wr _;refine ak (fun r=>?_) (fun r=>?_)
   ·have r:¬ (dG us n u.bf[i].2).data.toList=[]:=by simpa using r
    refine ⟨?_,e07.trans e8⟩;have hget:∀ j (hj:j<u.bf.length),((W.map fun w=>w.2.e)++u.bf.map (·.2))[W.length+j]'(by rw [Wv,Wr,Wr]; omega)=u.bf[j].2:=fun j hj=>by
     rw [List.getElem_append_right (by rw [hlen]; omega)];simp [hlen]
    rw [hlin,HA (i:=W.length+i) (by rw [Wv,Wr,Wr]; omega) (fun j hj=>by
     by_cases hjW:j<W.length
     ·rw [XN (by rw [hlen]; omega),Wy];exact hno j ad hjW
     ·have:=hget (j-W.length) ad
      simp only [show W.length+(j-W.length)=j from ad] at this;rw [this];exact hno7 _ ad _) (by rw [hget i hil]; exact r),hget i hil]
   ·have r:(dG us n u.bf[i].2).data.toList=[]:=by simpa using r
    refine aF (cs:=[(false,[.string]),(false,[.int .i64])]) (s33,((i+1:Nat):Int),()) (u.bf.length-(i+1)) rfl ad (by rw [wrap_i64 ad ad]; rfl) ?_;exact ⟨i+1,rfl,rfl,ad,e7.trans e8,fun j hj hx=>by
     by_cases e:j=i
     ·subst e; exact r
     ·exact hno7 j ad hx⟩
  ·have g:=Wt g;have hie:i=u.bf.length:=ad
   subst hie;refine ⟨?_,e07⟩;rw [hlin,Jz fun j hj=>by
    rw [Wv,Wr,Wr] at hj
    by_cases hjW:j<W.length
    ·rw [XN (by rw [Wr]; omega),Wy];exact hno j hjW hjW
    ·rw [List.getElem_append_right (by rw [Wr]; omega),Wy];exact hno7 _ (by simp; omega) _]
theorem jJ {α:Type} (f:Nat->Option α) (x:α):∀ (n i:Nat),i<n->(∀ j,j<i->f j=none)->f i=some x->(List.range n).findSome? f=some x
 | 0,i,hi,_,_=>absurd hi ad
 | n+1,i,hi,h0,hx=>by
  rw [List.range_succ,Yi]
  by_cases h:i<n
  ·rw [jJ f x n i h h0 hx] <;> rfl
  ·have:i=n:=ad
   subst this;have hn:(List.range i).findSome? f=none:=by
    rw [Xq];intro j hj;exact h0 j (X6.1 hj)
   rw [hn];simp [hx]
theorem jm {α:Type} (f:Nat->Option α) (n:Nat) (h:∀ j,j<n->f j=none):(List.range n).findSome? f=none:=by
 rw [Xq];intro j hj;exact h j (X6.1 hj)
def xt (us:List bP) (i:Nat):Option (Nat × YA):=us[i]?.bind fun u=>(u.aS.find? fun s=>(us.take i).any fun v=>fC v.aS s).map fun s=>(i,s)
def Ed (us:List bP):Option (Nat × YA):=(List.range us.length).findSome? (xt us)
def y7 (us:List bP) (i:Nat):Option (Nat × YA):=us[i]?.bind fun u=>if (qf us i (cF u)).data.toList=[] then none else some (i,qf us i (cF u))
def Nk (us:List bP):Option (Nat × YA):=(List.range us.length).findSome? (y7 us)
def fk (us:List bP):Fl :=
 if us.length=0 then ⟨25,0,du⟩
 else if 64<us.length then ⟨4,0,du⟩
 else match us.findIdx? fun u=>decide (eG u≠0) with
 | some n=>⟨31,n,du⟩
 | none=>match Ed us with
  | some q=>⟨22,q.1,q.2⟩
  | none=>match Nk us with
   | some q=>⟨23,q.1,q.2⟩
   | none=>⟨0,0,du⟩
def N2 (f:Fl):YB:=.agg #[.int .i64 (f.pX:Int),.int .i64 (f.unit:Int),.string f.name]
theorem rT {L:Lp} {K:YB->Hp->Prop} {h0 h:Hp} {g:Nat} {a b:Int} {s:YA} (bx:bC h g 54 [.int .i64 a,.int .i64 b,.string s]) (e0:Ext h0 h) (hg:h0.size<=g) (f:Fl) (hk:∀ h',Ext h0 h'->K (N2 f) h') :
  T.aD ⟨g,0,none⟩ [.int .i64 (f.pX:Int),.int .i64 (f.unit:Int),.string f.name] (T.ah ⟨g,0,none⟩ [.int .i64,.int .i64,.string] fun (n2:Int) (n3:Int) (s4:YA)=>T.ret (.agg #[.int .i64 n2,.int .i64 n3,.string s4])) L K h:=by
 refine aw bx rfl aj ?_;intro h2 b2 k2 z2;have b2:bC h2 g 54 [.int .i64 (f.pX:Int),.int .i64 (f.unit:Int),.string f.name]:=b2;refine af b2 ((f.pX:Int),(f.unit:Int),f.name,()) rfl ?_;exact hk h2 (Ch.trans e0 k2 (fun j hj hl=>by simp at hj; omega))
theorem Dd.of {us:List bP} (h64:us.length<=64) (hr:∀ u,u∈us->eG u=0):Dd us:=by
 have r:Ew us:=⟨hr,h64⟩
 refine ⟨ad,fun u hu=>?_,fun u hu=>?_,fun u hu=>?_⟩ <;> have:=r.bf hu <;> omega
theorem GS {h : Hp} {p : Option YC} {l c : Nat} {us : List bP} (v : sT h p l us) : HC Tryz.prog 60 #[.slice p l c] h fun w h' => w = N2 (fk us) /\ Ext h h' := by
  refine aZ (args := [.slice p l c]) mixed Tryz.func60 az (kU p l c) ?_;unfold gP aX bh bm aH aU cn iA bU aM;have hll := v.len;refine bq ?_;intro h1 b1 e1 z1;refine ak (fun g => ?_) (fun g => ?_)
  · have g : l = 0 := by have : (l : Int) = 0 := by simpa using g
                         omega
    refine rT b1 e1 (WH _) ⟨25, 0, du⟩ fun h' e' => ⟨?_, e'⟩
    unfold fk;rw [WC ad]
  have hl0 : ¬ us.length = 0 := by
    intro hh;have : l = 0 :=ad
    subst this;cases g
  refine ak (fun g64 => ?_) (fun g64 => ?_)
  · have g64 := Ws g64
    refine rT b1 e1 (WH _) ⟨4, 0, du⟩ fun h' e' => ⟨?_, e'⟩
    unfold fk;rw [Ww hl0, WC ad]
  have g64 := Wt g64;have h64 : ¬ 64 < us.length :=ad
  refine aR (cs := [(false, [.int .i64])]) (fun y k h' => ∃ i : Nat, y.1 = (i : Int) /\ k = us.length - i /\ i <= us.length /\ Ext h1 h' /\ ∀ j, j < i -> (hj : j < us.length) -> eG us[j] = 0) ((0 : Int), ()) us.length rfl
    ⟨0, rfl, rfl, ad, Ch.refl _ _, fun j hj => absurd hj ad⟩ ?_
  rintro ⟨n2, ⟨⟩⟩ k h2 ⟨i, hi, rfl, hle, e2, hr⟩;simp only at hi;subst hi;refine an ?_;have b2 := b1.ao e2 aj;have e02 := e1.trans e2;refine ak (fun q => ?_) (fun q => ?_)
  · have q := Ws q
    have hil : i < us.length :=ad
    obtain ⟨a, sa, sb, sc, sd, rfl, hc, va⟩ := (v.ao e02).cells i hil;refine ay ⟨ad, ad⟩ (av rfl ?_);rw [show Int.toNat (i : Int) = i from ad];refine ax ((sa.p, sa.l, sa.c), (sb.p, sb.l, sb.c), (sc.p, sc.l, sc.c), (sd.p, sd.l, sd.c), ()) hc ?_;refine an ?_;refine aI (JN va) ?_;rintro _ h3 ⟨rfl, e3⟩;refine ⟨(((eG us[i] : Nat) : Int), ()), rfl, ?_⟩;refine an ?_;refine ak (fun r => ?_) (fun r => ?_)
    · have r : ¬ eG us[i] = 0 := by
        intro hh;rw [hh] at r;cases r
      refine rT (b2.ao e3 aj) (e02.trans e3) (WH _) ⟨31, i, du⟩ fun h' e' => ⟨?_, e'⟩
      unfold fk
      rw [Ww hl0, Ww h64, show us.findIdx? (fun u => decide (eG u ≠ 0)) = some i from by
        rw [WR];exact ⟨hil, WB r, fun j hj => by simp [hr j hj ad]⟩]
    · have r : eG us[i] = 0 := by
        have : ((eG us[i] : Nat) : Int) = 0 := by simpa using r
        omega
      refine aF (cs := [(false, [.int .i64])]) (((i + 1 : Nat) : Int), ()) (us.length - (i + 1)) rfl ad (by rw [wrap_i64 ad ad]; rfl) ?_
      exact ⟨i + 1, rfl, rfl, ad, e2.trans e3, fun j hj hx => by
        by_cases e : j = i
        · subst e; exact r
        · exact hr j ad hx⟩
  have q := Wt q
  have hR : ∀ u, u ∈ us -> eG u = 0 := fun u hu => by
    obtain ⟨j, hj, rfl⟩ := WS hu;exact hr j ad hj
  have sz := Dd.of ad hR
  have hfi : us.findIdx? (fun u => decide (eG u ≠ 0)) = none := by
    rw [Xe];intro u hu;rw [hR u hu];decide
  clear hr
  refine aR (cs := [(false, [.int .i64])]) (fun y k h' => ∃ i : Nat, y.1 = (i : Int) /\ k = us.length - i /\ i <= us.length /\ Ext h1 h' /\ ∀ j, j < i -> xt us j = none) ((0 : Int), ()) us.length rfl
    ⟨0, rfl, rfl, ad, e2, fun j hj => absurd hj ad⟩ ?_
  rintro ⟨n3, ⟨⟩⟩ k h3 ⟨i3, hi, rfl, hle3, e3, hd3⟩;simp only at hi;subst hi;refine an ?_;have hw3 : IntKind.wrap .i64 ((i3 : Int) + 1) = ((i3 + 1 : Nat) : Int) := by rw [wrap_i64 ad ad]; omega
  refine ak (fun q3 => ?_) (fun q3 => ?_)
  · have q3 := Ws q3
    have hil3 : i3 < us.length :=ad
    have hug : us[i3]? = some us[i3] := Wu hil3;obtain ⟨a3, sa, sb, sc, sd, rfl, hc3, va3⟩ := v.cells i3 hil3;generalize us[i3] = u at hug hc3 va3;have hgm := va3.aS.many;have hgl := va3.aS.len
    refine aR (cs := [(false, [.int .i64])]) (fun y k h' => ∃ i : Nat, y.1 = (i : Int) /\ k = u.aS.length - i /\ i <= u.aS.length /\ Ext h1 h' /\ ∀ j, j < i -> (hj : j < u.aS.length) -> ((us.take i3).any fun v => fC v.aS u.aS[j]) = false) ((0 : Int), ()) u.aS.length rfl
      ⟨0, rfl, rfl, ad, e3, fun j hj => absurd hj ad⟩ ?_
    rintro ⟨n4, ⟨⟩⟩ k h4 ⟨i4, hi, rfl, hle4, e4, hd4⟩;simp only at hi;subst hi;refine an ?_;have hw4 : IntKind.wrap .i64 ((i4 : Int) + 1) = ((i4 + 1 : Nat) : Int) := by rw [wrap_i64 ad ad]; omega
    have e04 := e1.trans e4;have hcg : ∀ {h' : Hp}, Ext h h' -> aG h' ((a3.add (i3 * 4)).add 3) 0 [.slice sd.p sd.l sd.c] := fun e => ⟨by rw [add_add]; exact (aQ e aj _ _ hc3).2.2.2.1, trivial⟩
    refine ay ⟨ad, ad⟩ (av rfl ?_);rw [show Int.toNat (i3 : Int) = i3 from ad];refine ax ((sd.p, sd.l, sd.c), ()) (hcg e04) ?_;refine an ?_;refine ak (fun q4 => ?_) (fun q4 => ?_)
    · have q4 := Ws q4
      have hil4 : i4 < u.aS.length :=ad
      have hsg : u.aS[i4]? = some u.aS[i4] := Wu hil4;obtain ⟨ag, hag, hcs, _⟩ := va3.aS.cells i4 hil4
      refine aR (cs := [(false, [.int .i64])]) (fun y k h' => ∃ i : Nat, y.1 = (i : Int) /\ k = i3 - i /\ i <= i3 /\ Ext h1 h' /\ ∀ j, j < i -> (hj : j < us.length) -> fC us[j].aS u.aS[i4] = false) ((0 : Int), ()) i3 rfl
        ⟨0, rfl, rfl, ad, e4, fun j hj => absurd hj ad⟩ ?_
      rintro ⟨n9, ⟨⟩⟩ k h5 ⟨i5, hi, rfl, hle5, e5, hd5⟩;simp only at hi;subst hi;refine an ?_;have hw5 : IntKind.wrap .i64 ((i5 : Int) + 1) = ((i5 + 1 : Nat) : Int) := by rw [wrap_i64 ad ad]; omega
      have e05 := e1.trans e5;have b5 := b1.ao e5 aj;refine ak (fun q5 => ?_) (fun q5 => ?_)
      · have q5 := Ws q5
        have hil5 : i5 < us.length :=ad
        obtain ⟨a5, ta, tb, tc, td, ha5, hc5, va5⟩ := (v.ao e05).cells i5 hil5;refine ay ⟨ad, ad⟩ (av ha5 ?_);rw [show Int.toNat (i5 : Int) = i5 from ad];refine ax ((td.p, td.l, td.c), ()) ⟨by rw [add_add]; exact hc5.2.2.2.1, trivial⟩ ?_;refine an ?_;refine ay ⟨ad, ad⟩ (av rfl ?_);refine ax ((sd.p, sd.l, sd.c), ()) (hcg e05) ?_;refine an ?_;refine ay ⟨ad, ad⟩ (av hag ?_);rw [show Int.toNat (i4 : Int) = i4 from ad];refine ax (u.aS[i4], ()) (aQ e05 aj _ _ hcs) ?_;refine an ?_
        refine aJ (Ib va5.aS.len (fun j hj => by
          obtain ⟨a, ha, hc, _⟩ := va5.aS.cells j hj;exact ⟨a, ha, hc⟩) (by have := va5.aS.many; omega) u.aS[i4]) ?_
        refine ⟨⟨hcg e05, trivial⟩, ?_⟩;refine ak (fun r => ?_) (fun r => ?_)
        · refine ay ⟨ad, ad⟩ (av rfl ?_)
          refine ax ((sd.p, sd.l, sd.c), ()) (hcg e05) ?_;refine an ?_;refine ay ⟨ad, ad⟩ (av hag ?_);refine ax (u.aS[i4], ()) (aQ e05 aj _ _ hcs) ?_;refine an ?_;refine rT b5 e05 (WH _) ⟨22, i3, u.aS[i4]⟩ fun h' e' => ⟨?_, e'⟩
          have hda : xt us i3 = some (i3, u.aS[i4]) := by
            unfold xt
            rw [hug, Xv, kB (fun s => (us.take i3).any fun v => fC v.aS s) u.aS i4 hil4 (fun j hj => hd4 j hj ad) (by
              rw [Yb];exact ⟨us[i5], List.mem_take_iff_getElem.2 ⟨i5, ad, rfl⟩, r⟩)]
            rfl
          unfold fk Ed;rw [Ww hl0, Ww h64, hfi, jJ _ _ _ i3 hil3 hd3 hda]
        · refine aF (cs := [(false, [.int .i64])]) (((i5 + 1 : Nat) : Int), ()) (i3 - (i5 + 1)) rfl ad (WJ (fun z => [Value.int .i64 z]) hw5) ⟨i5 + 1, rfl, rfl, ad, e5, fun j hj hx => ?_⟩
          by_cases e : j = i5
          · subst e; exact r
          · exact hd5 j ad hx
      · have q5 := Wt q5
        have : i5 = i3 :=ad
        subst this;refine aF (cs := [(false, [.int .i64])]) (((i4 + 1 : Nat) : Int), ()) (u.aS.length - (i4 + 1)) rfl ad (WJ (fun z => [Value.int .i64 z]) hw4) ⟨i4 + 1, rfl, rfl, ad, e5, fun j hj hx => ?_⟩
        by_cases e : j = i4
        · subst e
          rw [List.any_eq_false];intro w hw;obtain ⟨j5, hj5, rfl⟩ := List.mem_take_iff_getElem.1 hw;rw [hd5 j5 ad ad]
          simp
        · exact hd4 j ad hx
    · have q4 := Wt q4
      have : i4 = u.aS.length :=ad
      subst this;refine aF (cs := [(false, [.int .i64])]) (((i3 + 1 : Nat) : Int), ()) (us.length - (i3 + 1)) rfl ad (WJ (fun z => [Value.int .i64 z]) hw3) ⟨i3 + 1, rfl, rfl, ad, e4, fun j hj => ?_⟩
      by_cases e : j = i3
      · subst e
        unfold xt;rw [hug, Xv, om _ u.aS fun j hj => hd4 j hj hj] <;> rfl
      · exact hd3 j ad
  have q3 := Wt q3;have hdn : Ed us = none := jm _ _ fun j hj => hd3 j ad
  refine aR (cs := [(false, [.int .i64])]) (fun y k h' => ∃ i : Nat, y.1 = (i : Int) /\ k = us.length - i /\ i <= us.length /\ Ext h1 h' /\ ∀ j, j < i -> y7 us j = none) ((0 : Int), ()) us.length rfl
    ⟨0, rfl, rfl, ad, e3, fun j hj => absurd hj ad⟩ ?_
  rintro ⟨n4, ⟨⟩⟩ k h4 ⟨i4, hi, rfl, hle4, e4, hu4⟩;simp only at hi;subst hi;refine an ?_;have hw4 : IntKind.wrap .i64 ((i4 : Int) + 1) = ((i4 + 1 : Nat) : Int) := by rw [wrap_i64 ad ad]; omega
  have e04 := e1.trans e4;have b4 := b1.ao e4 aj;refine ak (fun q4 => ?_) (fun q4 => ?_)
  · have q4 := Ws q4
    have hil4 : i4 < us.length :=ad
    have hug : us[i4]? = some us[i4] := Wu hil4;refine aI (CY (c := c) (v.ao e04) sz hil4) ?_;rintro _ h5 ⟨rfl, e5⟩;refine ⟨(qf us i4 (cF us[i4]), ()), rfl, ?_⟩;refine an ?_;rw [yu]
    have hun : y7 us i4 = if (qf us i4 (cF us[i4])).data.toList = [] then none else some (i4, qf us i4 (cF us[i4])) := by
      unfold y7;rw [hug, Xv]
    refine ak (fun r => ?_) (fun r => ?_)
    · have r : ¬ (qf us i4 (cF us[i4])).data.toList = [] := by simpa using r
      rw [Ww r] at hun;refine rT (b4.ao e5 aj) (e04.trans e5) (WH _) ⟨23, i4, qf us i4 (cF us[i4])⟩ fun h' e' => ⟨?_, e'⟩
      unfold fk Nk;rw [Ww hl0, Ww h64, hfi, hdn, jJ _ _ _ i4 hil4 hu4 hun]
    · have r : (qf us i4 (cF us[i4])).data.toList = [] := by simpa using r
      rw [WC r] at hun;refine aF (cs := [(false, [.int .i64])]) (((i4 + 1 : Nat) : Int), ()) (us.length - (i4 + 1)) rfl ad (WJ (fun z => [Value.int .i64 z]) hw4) ⟨i4 + 1, rfl, rfl, ad, e4.trans e5, fun j hj => ?_⟩
      by_cases e : j = i4
      · subst e; exact hun
      · exact hu4 j ad
  · have q4 := Wt q4
    refine rT b4 e04 (WH _) ⟨0, 0, du⟩ fun h' e' => ⟨?_, e'⟩
    unfold fk Nk;rw [Ww hl0, Ww h64, hfi, hdn, jm _ _ fun j hj => hu4 j ad]
theorem Ka (n:Nat):∀ (l:List YA) (w:LW) (s:YA),(l.foldl (ur n) w).gl s=if fC l s=true then some n else w.gl s
 | [],w,s=>by simp [fC]
 | a::l,w,s=>by
  rw [Xk,Ka n l (ur n w a) s];have h1:fC (a::l) s=(decide (a=s) || fC l s):=by unfold fC; rw [List.any_cons]
  have h2:(ur n w a).gl s=if a=s then some n else w.gl s:=by
   show dy w.gl a n s=_;unfold dy
   by_cases h:s=a
   ·rw [WC h,WC h.symm]
   ·rw [Ww h,Ww fun e=>h e.symm]
  rw [h1,h2]
  by_cases ha:a=s <;> by_cases hl:fC l s=true <;> simp [ha,hl]
def Oy (us:List bP) (s:YA):Option Nat:=us.findIdx? fun u=>fC u.aS s
theorem LJ (us:List bP) (s:YA):(Oy us s).isSome=us.any fun u=>fC u.aS s:=by
 unfold Oy;rw [List.findIdx?_isSome]
theorem FE (us:List bP):∀ (k n:Nat) (w:LW),us.length-n=k->n<=us.length->(∀ s,w.gl s=Oy (us.take n) s)->(∀ j,j<n->xt us j=none) ->
  match jZ n (us.drop n) w with
  | .error q=>Ed us=some q
  | .ok w'=>Ed us=none/\∀ s,w'.gl s=Oy us s
 | 0,n,w,hk,hn,hg,hd=>by
  have:n=us.length:=ad
  subst this;rw [X5];rw [Xd] at hg;exact ⟨jm _ _ hd,hg⟩
 | k+1,n,w,hk,hn,hg,hd=>by
  have hlt:n<us.length:=ad
  rw [WK hlt];unfold jZ;have hug:us[n]?=some us[n]:=Wu hlt;have hf:(fun g=>(w.gl g).isSome)=fun g=>(us.take n).any fun v=>fC v.aS g:=by
   funext g
   rw [hg,LJ]
  have hda:xt us n=(us[n].aS.find? fun g=>(w.gl g).isSome).map fun s=>(n,s):=by
   unfold xt;rw [hug,Xv,hf]
  cases hx:us[n].aS.find? fun g=>(w.gl g).isSome with
  | some g =>
   rw [hx] at hda;exact jJ _ _ _ n hlt hd hda
  | none =>
   rw [hx] at hda;refine FE us k (n+1) (Ez n us[n] w) ad hlt (fun s=>?_) (fun j hj=>?_)
   ·unfold Ez;rw [Ka,Wx hlt];unfold Oy;rw [List.findIdx?_append];have h0:=hg s;unfold Oy at h0;rw [<- h0]
    by_cases hi:fC us[n].aS s=true
    ·rw [WC hi];have hm:s∈us[n].aS:=by
      unfold fC at hi;obtain ⟨x,hx1,hx2⟩:=Yb.1 hi;rw [<- Ws hx2]; exact hx1
     have:=List.find?_eq_none.1 hx s hm
     have hn0:w.gl s=none:=by
      cases hq:w.gl s with
      | none=>rfl
      | some q=>rw [hq] at this; exact absurd rfl this
     rw [hn0];simp [List.findIdx?_cons,hi,List.length_take];omega
    ·rw [Ww hi];cases w.gl s <;> simp [List.findIdx?_cons,hi]
   ·by_cases e:j=n
    ·subst e; exact hda
    ·exact hd j ad
theorem we (s:YA) (n:Nat):∀ (us:List bP) (m:Nat),(n,s)∈(bt m us).map yP↔∃ u,m<=n/\us[n-m]?=some u/\(s∈dY u.text\/s∈dY u.data)
 | [],m=>by simp [bt]
 | u::us,m=>by
  rw [bt,WG,WV,we s n us (m+1)];unfold Ce;rw [WG,wH,wH,WV,Wz,Wz];constructor
  ·rintro ((⟨x,hx,he⟩ | ⟨x,hx,he⟩) | ⟨v,h1,h2,h3⟩)
   ·cases he;exact ⟨u,WH _,aj,.inl hx⟩
   ·cases he;exact ⟨u,WH _,aj,.inr hx⟩
   ·refine ⟨v,ad,?_,h3⟩;rw [show n-m=(n-(m+1))+1 from ad];exact h2
  ·rintro ⟨v,h1,h2,h3⟩
   by_cases e:n=m
   ·subst e;rw [Yo] at h2;cases h2;rcases h3 with h3 | h3
    ·exact .inl (.inl ⟨s,h3,rfl⟩)
    ·exact .inl (.inr ⟨s,h3,rfl⟩)
   ·refine .inr ⟨v,ad,?_,h3⟩;rw [show n-m=(n-(m+1))+1 from ad] at h2;exact h2
theorem zw (s:YA) (n:Nat):∀ (us:List bP) (m:Nat),(n,s)∈(dZ m us).map ju↔∃ u,m<=n/\us[n-m]?=some u/\s∈u.bf.map (·.1)
 | [],m=>by simp [dZ]
 | u::us,m=>by
  rw [dZ,WG,WV,zw s n us (m+1),WT];constructor
  ·rintro (h | ⟨v,h1,h2,h3⟩)
   ·obtain ⟨e,he,hee⟩:=Wz.1 h;cases hee;exact ⟨u,WH _,aj,Wz.2 ⟨e,he,rfl⟩⟩
   ·refine ⟨v,ad,?_,h3⟩;rw [show n-m=(n-(m+1))+1 from ad];exact h2
  ·rintro ⟨v,h1,h2,h3⟩
   by_cases e:n=m
   ·subst e;rw [Yo] at h2;cases h2;obtain ⟨x,hx,rfl⟩:=Wz.1 h3;exact .inl (Wz.2 ⟨x,hx,rfl⟩)
   ·refine .inr ⟨v,ad,?_,h3⟩;rw [show n-m=(n-(m+1))+1 from ad] at h2;exact h2
theorem xp (l:List Ky) (k:Ky):(mF l k).isSome=true↔k∈l:=by
 constructor
 ·intro h;apply Classical.byContradiction;intro hk;rw [nT.2 hk] at h;cases h
 ·intro h;obtain ⟨i,hi⟩:=zS h;rw [hi] <;> rfl
theorem PV {us:List bP} {w:LW} (i0:WI w (bt 0 us) ((dZ 0 us).map ju)) {n:Nat} {u:bP} (hu:us[n]?=some u) (s:YA):w.has (n,s)=true↔s∈fl u:=by
 unfold LW.has;rw [i0.num,i0.sx,Bool.or_eq_true,xp,xp,we,zw];unfold fl;rw [WV,WV];simp only [Nat.sub_zero,Nat.zero_le,true_and];constructor
 ·rintro (⟨v,hv,h⟩ | ⟨v,hv,h⟩)
  ·rw [hu] at hv; cases hv; exact .inl h
  ·rw [hu] at hv; cases hv; exact .inr h
 ·rintro (h | h)
  ·exact .inl ⟨u,hu,h⟩
  ·exact .inr ⟨u,hu,h⟩
theorem MK {us:List bP} {w:LW} (i0:WI w (bt 0 us) ((dZ 0 us).map ju)) (hg:∀ s,w.gl s=Oy us s) {n:Nat} (hn:n<us.length) (s:YA):w.own n s=(fw us n s).map fun o=>(o,s):=by
 have hu:=Wu hn;have h1:=PV i0 hu s;have h2:fC (fl us[n]) s=true↔s∈fl us[n]:=by
  unfold fC;rw [Yb];constructor
  ·rintro ⟨x,hx,he⟩;rw [<- Ws he]; exact hx
  ·intro h;exact ⟨s,h,WB rfl⟩
 unfold LW.own fw;rw [hu,Yq,hg s]
 by_cases h:s∈fl us[n]
 ·rw [WC (h1.2 h),WC (by rw [h2.2 h])] <;> rfl
 ·rw [Ww fun x=>h (h1.1 x),Ww fun x=>h (h2.1 (WQ x))] <;> rfl
theorem AK (n sec:Nat) (x:cz):∀ (l:List cz) (i:Nat),lP n sec i (l++[x])=lP n sec i l++if x.kind=1 then [⟨n,sec,i+l.length,x.name⟩] else []
 | [],i=>by simp [lP]
 | y::l,i=>by
  simp only [List.cons_append,lP,List.length_cons];rw [AK n sec x l (i+1),show i+1+l.length=i+(l.length+1) from ad,WU]
structure Bq (h:Hp) (g:Nat) (su lb st sd:bY) (L:List Lb):Prop where
 box:bC h g 70 [su.v,lb.v,st.v,sd.v]
 mV:SL h (g+1) 82 4 lb.p lb.l lb.c (L.map wq)
theorem Bq.ao {h h':Hp} {g:Nat} {su lb st sd:bY} {L:List Lb} (s:Bq h g su lb st sd L) (e:Ext h h'):Bq h' g su lb st sd L:=⟨s.box.ao e aj,s.mV.bG e aj⟩
theorem SC:Tryz.prog.underlying 67=some (.slice 82):=az
theorem Uh:(Tryz.prog.info? 82).map (fun i=>(i.zero,i.size,i.bytes))=some (some (.agg #[.int .i64 0,.int .i64 0,.int .i64 0,.string ⟨#[]⟩]),4,40):=az
theorem EM {h0 h:Hp} {g:Nat} {su lb st sd:bY} {L:List Lb} (hg:h0.size<=g) (e0:Ext h0 h) (s:Bq h g su lb st sd L) {p:Option YC} {l c:Nat} {xs:List cz} (v:Am h0 p l xs) (hL:L.length+xs.length<=2^40) (n sec:Nat) :
  HC Tryz.prog 61 #[.pointer (some ⟨g,0,none⟩),.int .i64 (n:Int),.int .i64 (sec:Int),.slice p l c] h fun w h'=>w=.tuple #[]/\Ext h0 h'/\h.size<=h'.size/\∃ lb',Bq h' g su lb' st sd (L++lP n sec 0 xs):=by
 refine aZ (args:=[.pointer (some ⟨g,0,none⟩),.int .i64 (n:Int),.int .i64 (sec:Int),.slice p l c]) mixed Tryz.func61 az (gW (some ⟨g,0,none⟩) n sec p l c) ?_;unfold eJ aX bh bm aH bk aM;have hll:=v.len;refine aR (cs:=[(false,[.int .i64])]) (fun y k h'=>∃ (i:Nat) (lb':bY),y.1=(i:Int)/\k=xs.length-i/\i<=xs.length/\Ext h0 h'/\h.size<=h'.size/\Bq h' g su lb' st sd (L++lP n sec 0 (xs.take i))) ((0:Int),()) xs.length rfl
  ⟨0,lb,rfl,rfl,ad,e0,WH _,by simpa [lP] using s⟩ ?_
 rintro ⟨n4,⟨⟩⟩ k h1 ⟨i,lb1,hi,rfl,hle,e1,z1,s1⟩;simp only at hi;subst hi;refine an ?_;have hw:IntKind.wrap .i64 ((i:Int)+1)=((i+1:Nat):Int):=by rw [wrap_i64 ad ad]; omega
 refine ak (fun q=>?_) (fun q=>?_)
 ·have q:=Ws q;have hil:i<xs.length:=ad
  have htk:xs.take (i+1)=xs.take i++[xs[i]]:=Wx hil;have hsn:=AK n sec xs[i] (xs.take i) 0;rw [<- htk,WO,XR ad,Xa] at hsn;obtain ⟨a,pp,ll,cc,rfl,hc,_⟩:=v.cells i hil;generalize xs[i]=x at hc hsn;refine ay ⟨ad,ad⟩ (av rfl ?_);rw [show Int.toNat (i:Int)=i from ad];refine ax (x.kind,()) ⟨(aQ e1 aj _ _ hc).1,trivial⟩ ?_;refine an ?_;refine ak (fun r=>?_) (fun r=>?_)
  ·have r:x.kind=1:=by simpa using r
   rw [WC r] at hsn;refine av rfl ?_;rw [aE];refine af s1.box ((lb1.p,lb1.l,lb1.c),()) rfl ?_;refine an ?_;have hcn:∀ {h':Hp},Ext h0 h'->aG h' ((a.add (i*10)).add 1) 0 [.string x.name]:=fun e=>⟨by rw [add_add]; exact (aQ e aj _ _ hc).2.1,trivial⟩
   refine ay ⟨ad,ad⟩ (av rfl ?_);refine ax (x.name,()) (hcn e1) ?_;refine an ?_;have hl1:lb1.l=(L++lP n sec 0 (xs.take i)).length:=by have:=s1.mV.1; rwa [Wr] at this
   have hla:=qW n sec (xs.take i) 0;rw [Wv] at hl1;rw [WO] at hla;have hgs:=s1.box.lt;refine gj (vs:=wq ⟨n,sec,i,x.name⟩) SC Uh rfl ad ad (Nw _ _ _ _) rfl rfl s1.mV ad ad ad (fun h' e=>⟨hcn (e1.trans e),(s1.box.ao e aj).cells _ rfl,trivial⟩) ?_;intro p' c' h2 s2 k2 hp2;have hnb:∀ j,j∈aK lb1.p->h0.size<=j/\g<j:=fun j hj=>by have:=(s1.mV.cd hj).1; omega
   have e2:Ext h0 h2:=Ch.trans e1 k2 (fun j hj hl=>by have:=hnb j hj; omega);have b2:=s1.box.ao k2 (fun hj=>by have:=hnb _ hj; omega);have z2:=k2.size;refine ⟨⟨hcn e2,trivial⟩,av rfl ?_⟩;rw [aE];refine aw b2 rfl aj ?_;intro h3 b3 k3 z3;have b3:bC h3 g 70 [su.v,(⟨p',lb1.l+1,c'⟩:bY).v,st.v,sd.v]:=b3;have e3:Ext h0 h3:=Ch.trans e2 k3 (fun j hj hl=>by simp at hj; omega);refine aF (cs:=[(false,[.int .i64])]) (((i+1:Nat):Int),()) (xs.length-(i+1)) rfl ad (WJ (fun z=>[Value.int .i64 z]) hw) ⟨i+1,⟨p',lb1.l+1,c'⟩,rfl,rfl,ad,e3,ad,b3,?_⟩;rw [hsn,<- WU,WG];exact s2.bG k3 (fun j hj hh=>by have:=(s2.cd hj).1; simp at hh; omega)
  ·have r:¬ x.kind=1:=by simpa using r
   rw [Ww r,Xy] at hsn;refine aF (cs:=[(false,[.int .i64])]) (((i+1:Nat):Int),()) (xs.length-(i+1)) rfl ad (WJ (fun z=>[Value.int .i64 z]) hw) ⟨i+1,lb1,rfl,rfl,ad,e1,z1,by rw [hsn]; exact s1⟩
 ·have q:=Wt q
  have:i=xs.length:=ad
  subst this;rw [Xd] at s1;exact ⟨rfl,e1,z1,lb1,s1⟩
theorem G' (u:Nat):Lib.nDigits u<=u+1:=by
 induction u using Nat.strongRecOn with
 | _ u ih =>
  rw [Lib.nDigits];split
  ·omega
  ·have:=ih (u / 10) ad
   omega
theorem AJ (n:Nat):(fK n).size<=n+1:=by
 have:(fK n).size=(Lib.decDigits n).length:=rfl
 rw [this,Lib.decDigits_length];exact G' n
def OP (L:List Lb) (o:Nat) (s:YA):Option Nat:=L.findIdx? fun x=>decide (x.u=o) && decide (x.n=s)
def xw (L:List Lb) (o:Nat) (s:YA):YA:=match OP L o s with
 | some i=>⟨#[76]⟩++fK i
 | none=>((⟨#[69]⟩++fK o)++⟨#[95]⟩)++s
def dq (us:List bP) (L:List Lb) (n:Nat) (s:YA):YA:=xw L ((fw us n s).getD 0) s
theorem Ow {us:List bP} {n o:Nat} {s:YA} (h:fw us n s=some o):o<us.length:=by
 unfold fw at h;split at h
 ·rename_i hh;cases h;cases hu:us[n]? with
  | none=>rw [hu] at hh; cases hh
  | some u=>exact (WM.1 hu).1
 ·rw [WR] at h;exact h.1
theorem M8 {L:List Lb} {o:Nat} {s:YA} {i:Nat} (hi:i<L.length) (h:∀ j,(hj:j<i)->¬ ((L[j]'ad).u=o/\(L[j]'ad).n=s)) (h1:L[i].u=o) (h2:L[i].n=s):OP L o s=some i:=by
 unfold OP;rw [WR];refine ⟨hi,by simp [h1,h2],fun j hj=>?_⟩
 have:=h j hj
 simpa using this
theorem DB {L:List Lb} {o:Nat} {s:YA} (h:∀ j,(hj:j<L.length)->¬ (L[j].u=o/\L[j].n=s)):OP L o s=none:=by
 unfold OP;rw [Xe];intro x hx;obtain ⟨j,hj,rfl⟩:=WS hx
 have:=h j hj
 simpa using this
theorem HW {h:Hp} {g:Nat} {su lb st sd:bY} {L:List Lb} (s:Bq h g su lb st sd L) {us:List bP} (v:sT h su.p su.l us) (sz:Dd us) {n:Nat} (hn:n<us.length) (hL:L.length<=2^40) {a:YA} {o:Nat} (ho:fw us n a=some o) (ha:a.size<=2^60) :
  HC Tryz.prog 62 #[.pointer (some ⟨g,0,none⟩),.int .i64 (n:Int),.string a] h fun w h'=>w=.string (dq us L n a)/\Ext h h':=by
 refine aZ (args:=[.pointer (some ⟨g,0,none⟩),.int .i64 (n:Int),.string a]) mixed Tryz.func62 az (iE (some ⟨g,0,none⟩) n a) ?_;unfold eS aX bh bm aH cn iA bU aM;have hol:=Ow ho;have hmany:=sz.many;refine av rfl ?_;refine af s.box ((su.p,su.l,su.c),()) rfl ?_;refine an ?_;refine aI (yF (c:=su.c) v sz hn a) ?_;rintro _ h1 ⟨rfl,e1⟩;rw [ho];refine ⟨((o:Int),()),rfl,?_⟩;refine an ?_;have s1:=s.ao e1;have hw0:dq us L n a=xw L o a:=by unfold dq; rw [ho]; rfl
 rw [hw0];have hll:lb.l=L.length:=by have:=s.mV.1; rwa [Wr] at this
 refine aR (cs:=[(false,[.string]),(false,[.int .i64])]) (fun y k h'=>∃ i:Nat,y.2.1=(i:Int)/\k=L.length-i/\i<=L.length/\h'=h1/\∀ j,j<i->(hj:j<L.length)->¬ (L[j].u=o/\L[j].n=a)) ((⟨#[]⟩:YA),(0:Int),()) L.length rfl
  ⟨0,rfl,rfl,ad,rfl,fun j hj=>absurd hj ad⟩ ?_
 rintro ⟨s8,n9,⟨⟩⟩ k h2 ⟨i,hi,rfl,hle,rfl,hno⟩;simp only at hi;subst hi;refine an ?_;have hw:IntKind.wrap .i64 ((i:Int)+1)=((i+1:Nat):Int):=by rw [wrap_i64 ad ad]; omega
 refine av rfl ?_;rw [aE];refine af s1.box ((lb.p,lb.l,lb.c),()) rfl ?_;refine an ?_;refine ak (fun q=>?_) (fun q=>?_)
 ·have q:=Ws q;have hil:i<L.length:=ad
  refine av rfl ?_;rw [aE];refine af s1.box ((lb.p,lb.l,lb.c),()) rfl ?_;refine an ?_;obtain ⟨al,hal,hc⟩:=SL.cells s1.mV (i:=i) (by rw [Wr]; exact hil);rw [Wy] at hc;refine ay ⟨ad,ad⟩ (av hal ?_);rw [show Int.toNat (i:Int)=i from ad];refine ax ((L[i].u:Int),()) ⟨hc.1,trivial⟩ ?_;refine an ?_;have hback:¬ (L[i].u=o/\L[i].n=a)->T.again 0 [.string s8,.int .i64 (IntKind.wrap .i64 ((i:Int)+1))] [Jl (fun (y:qa (flat [(false,[TypeDesc.string]),(false,[TypeDesc.int .i64])])) k h'=>∃ i:Nat,y.2.1=(i:Int)/\k=L.length-i/\i<=L.length/\h'=h2/\∀ j,j<i->(hj:j<L.length)->¬ (L[j].u=o/\L[j].n=a)) (L.length-i)] (fun w h'=>w=.string (xw L o a)/\Ext h h') h2:=by
   intro hne;refine aF (cs:=[(false,[.string]),(false,[.int .i64])]) (s8,((i+1:Nat):Int),()) (L.length-(i+1)) rfl ad (WJ (fun z=>[Value.string s8,Value.int .i64 z]) hw) ⟨i+1,rfl,rfl,ad,rfl,fun j hj hx=>?_⟩
   by_cases e:j=i
   ·subst e; exact hne
   ·exact hno j ad hx
  refine ak (fun r=>?_) (fun r=>?_)
  ·have r:L[i].u=o:=by
    have:((L[i].u:Nat):Int)=(o:Int):=by simpa using r
    omega
   refine av rfl ?_;rw [aE];refine af s1.box ((lb.p,lb.l,lb.c),()) rfl ?_;refine an ?_;refine ay ⟨ad,ad⟩ (av hal ?_);refine ax (L[i].n,()) ⟨by rw [add_add]; exact hc.2.2.2.1,trivial⟩ ?_;refine an ?_;rw [ow];refine ak (fun t=>?_) (fun t=>?_)
   ·have t:=Ws t;refine aI (vU (n:=i) ad) ?_;rintro _ h3 ⟨rfl,e3⟩;refine ⟨(fK i,()),rfl,?_⟩;refine an ?_
    have:=AJ i
    refine ay ad ?_;refine ⟨?_,e1.trans e3⟩;unfold xw;rw [M8 hil (fun j hj=>hno j hj ad) r t]
   ·have t:=Wt t;exact hback fun hh=>t hh.2
  ·refine hback fun hh=>?_
   rw [hh.1] at r;simp at r
 ·have q:=Wt q
  have:i=L.length:=ad
  subst this;refine aI (vU (n:=o) ad) ?_;rintro _ h3 ⟨rfl,e3⟩;refine ⟨(fK o,()),rfl,?_⟩;refine an ?_;have hd:=AJ o;have h1:(⟨#[69]⟩++fK o:YA).size=1+(fK o).size:=XU ..;have h2:((⟨#[69]⟩++fK o)++⟨#[95]⟩:YA).size=(⟨#[69]⟩++fK o:YA).size+1:=XU ..;refine ay ad (ay (by rw [h1]; omega) (ay (by rw [h2,h1]; omega) ?_));refine ⟨?_,e1.trans e3⟩;unfold xw;rw [DB fun j hj=>hno j hj hj]
def sV (f:YA->YA) (s:YA):Option bZ:=some (lO (f s))
def gY (us:List bP) (L:List Lb) (n:Nat) (x:bZ):bZ:=cY (sV (dq us L n)) x
theorem Ps (s:YA):Nf (lO s).ai:=⟨by simp [lO],by simp [lO]⟩
theorem H' {f:YA->YA}:∀ s y,sV f s=some y->Nf y.ai:=by
 intro s y hy;cases hy;exact Ps _
theorem SJ (f:YA->YA) {t:YA × Nat} (h:t.2≠0/\t.2<4294967296):GH (sV f) t=⟨[(f t.1,t.2)],0⟩:=by
 unfold GH sV C7 lO fe;simp only [List.filterMap_cons,List.filterMap_nil,Nat.one_mul,Nat.zero_mul,Nat.zero_mod];rw [X4 h.2,Ww h.1]
theorem EI {h:Hp} {g:Nat} {su lb st sd:bY} {L:List Lb} (s:Bq h g su lb st sd L) {us:List bP} (v:sT h su.p su.l us) (sz:Dd us) {n:Nat} (hn:n<us.length) (hL:L.length<=2^40) {q:Option YC} {m d:Nat} {x:bZ} (u:gp h q m x.ai)
  (hx:Nf x.ai) (hxn:x.num<4294967296) (hlx:x.ai.length<=2^30) (ho:∀ t,t∈x.ai->∃ o,fw us n t.1=some o) (hs:∀ t,t∈x.ai->t.1.size<=2^60) :
  HC Tryz.prog 63 #[.pointer (some ⟨g,0,none⟩),.int .i64 (n:Int),gn q m d x] h fun w h'=>Ext h h'/\∃ p' l' c',w=gn p' l' c' (gY us L n x)/\SL h' h.size 66 2 p' l' c' ((gY us L n x).ai.map cX):=by
 refine aZ (args:=[.pointer (some ⟨g,0,none⟩),.int .i64 (n:Int),.agg #[.slice q m d,.int .u32 x.num]]) mixed Tryz.func63 az (gX (some ⟨g,0,none⟩) n q m d x.num) ?_;unfold eF aX bh bm aH iA bF bk bi aM;have hmm:=u.len;refine bq ?_;intro h1 b1 e1 z1;refine bq ?_;intro h2 b2 e2 z2;have b1:=b1.ao e2 aj;rw [aE];refine af b1 ((x.num:Int),()) rfl ?_;refine an ?_;refine bq ?_;intro h3 b3 e3 z3;refine aw b3 rfl aj ?_;intro h4 b4 k4 z4;have b4:bC h4 h2.size 60 [.slice none 0 0,.int .u32 (x.num:Int)]:=b4;have e24:Ext h2 h4:=Ch.trans e3 k4 (fun j hj hl=>by simp at hj; omega);have b1:=b1.ao e24 aj;have b2:=b2.ao e24 aj;have e04:=(e1.trans e2).trans e24;have hb4:=b4.lt;have hz04:=e04.size;refine aR (cs:=[(false,[.int .i64])]) (fun y w h'=>∃ (i:Nat) (q:Option YC) (m d:Nat),y.1=(i:Int)/\i<=x.ai.length/\w=x.ai.length-i/\Ch [h2.size] h4 h'/\bC h' h2.size 60 [.slice q m d,.int .u32 (((x.ai.take i).foldl (fB (sV (dq us L n))) ⟨[],x.num⟩).num:Int)] /\
  SL h' h4.size 66 2 q m d (((x.ai.take i).foldl (fB (sV (dq us L n))) ⟨[],x.num⟩).ai.map cX)) ((0:Int),()) x.ai.length rfl ⟨0,none,0,0,rfl,ad,ad,Ch.refl _ _,b4,SL.nil _ _ _ _⟩ ?_
 rintro ⟨n8,⟨⟩⟩ w h5 ⟨i,q5,m5,d5,hi,hile,rfl,k5,b5,s5⟩;simp only at hi;subst hi;refine an ?_;have b15:=b1.ao k5 (by simp; omega);have hz5:=k5.size;have e05:Ext h h5:=Ch.trans e04 k5 (fun j hj hl=>by simp at hj; omega);have u5:=u.ao e05 aj;refine af b15 ((q,m,d),()) rfl ?_;refine an ?_;have hw:IntKind.wrap .i64 ((i:Int)+1)=((i+1:Nat):Int):=by rw [wrap_i64 ad ad]; omega
 have hacc:=Bl (of:=sV (dq us L n)) H' hx hxn i;have hal:((x.ai.take i).foldl (fB (sV (dq us L n))) ⟨[],x.num⟩).ai.length<=x.ai.length:=by
  rw [hacc]
  have:=zN (eE (sV (dq us L n)) ⟨x.ai.take i,x.num⟩) (S:=x.ai.map fun t=>dq us L n t.1) (fun t ht=>by
   obtain ⟨u',hu',h | ⟨y,w,hy,hw,he⟩⟩:=zR ht
   ·cases h.1
   ·cases hy;simp [lO] at hw;subst hw;rw [<- he];exact Wz.2 ⟨u',Xx hu',rfl⟩)
  rwa [Wr] at this
 refine ak (fun g1=>?_) (fun g1=>?_)
 ·have g1:=Ws g1;have hilt:i<x.ai.length:=ad
  have htk:(x.ai.take (i+1)).foldl (fB (sV (dq us L n))) ⟨[],x.num⟩=fB (sV (dq us L n)) ((x.ai.take i).foldl (fB (sV (dq us L n))) ⟨[],x.num⟩) x.ai[i]:=by
   rw [Wx hilt,Xz] <;> rfl
  obtain ⟨a,rfl,hc⟩:=u5.cells i hilt;have htm:=WA hilt;generalize x.ai[i]=t at hc htk htm;generalize hA:(x.ai.take i).foldl (fB (sV (dq us L n))) ⟨[],x.num⟩=A at b5 s5 hal htk hacc;obtain ⟨c1,c2⟩:=cL hc;obtain ⟨o,hoo⟩:=ho t htm;refine af b5 ((q5,m5,d5),(A.num:Int),()) rfl ?_;refine an ?_;refine af b15 ((some a,m,d),()) rfl ?_;refine an ?_;refine ay ⟨ad,ad⟩ (av rfl ?_);rw [show Int.toNat (i:Int)=i from ad];refine ax (t.1,()) c1 ?_;refine an ?_;refine af b15 ((some a,m,d),()) rfl ?_;refine an ?_;refine ay ⟨ad,ad⟩ (av rfl ?_);refine ax ((t.2:Int),()) c2 ?_;refine an ?_;refine aI (HW (s.ao e05) (v.ao e05) sz hn hL hoo (hs t htm)) ?_;rintro _ h6 ⟨rfl,e6⟩;refine ⟨(dq us L n t.1,()),rfl,?_⟩;refine an ?_;have hst:∀ {h':Hp},Ext h5 h'->aG h' (a.add (i*2)) 0 [.string t.1]/\aG h' ((a.add (i*2)).add 1) 0 [.int .u32 (t.2:Int)]/\aG h' ⟨h.size,0,none⟩ 0 [.slice (some a) m d]/\aG h' ⟨h2.size,0,none⟩ 0 [.slice q5 m5 d5,.int .u32 (A.num:Int)]:=fun e =>
   ⟨aQ e aj _ _ c1,aQ e aj _ _ c2,(b15.ao e aj).cells _ rfl,(b5.ao e aj).cells _ rfl⟩
  obtain ⟨q1,q2,q3,q4⟩:=hst e6;refine ⟨⟨q2,q3,q3,q4,trivial⟩,?_⟩;refine jX Gv sg ad ad (Gu _ _) ?_;intro h7 b7 e7 z7;obtain ⟨q1,q2,q3,q4⟩:=hst (e6.trans e7);refine ⟨⟨q2,q3,q1,q3,q4,trivial⟩,?_⟩;have e57:=e6.trans e7;have z57:=e57.size;refine aI (Fk (x:=A) (y:=⟨[(dq us L n t.1,t.2)],0⟩) (d:=1) (s5.bG e57 aj).QH (TD b7) (fun j hj=>by have:=(s5.cd hj).2; omega) (fun j hj=>by simp [aK] at hj; have:=b7.lt; omega) (by show A.ai.length+1<=_; omega)) ?_;rintro _ h8 ⟨e8,p',l',c',rfl,s8⟩;refine ⟨((p',l',c'),((vX A ⟨[(dq us L n t.1,t.2)],0⟩).num:Int),()),rfl,?_⟩;refine an ?_;have e58:=e57.trans e8;obtain ⟨q1,q2,q3,q4⟩:=hst e58;refine ⟨⟨q2,q3,q1,q3,trivial⟩,?_⟩;refine aw (b5.ao e58 aj) rfl aj ?_;intro h9 b9 k9 z9;have b9:bC h9 h2.size 60 [.slice p' l' c',.int .u32 ((vX A ⟨[(dq us L n t.1,t.2)],0⟩).num:Int)]:=b9;have hput:fB (sV (dq us L n)) A t=vX A ⟨[(dq us L n t.1,t.2)],0⟩:=by
   unfold fB;rw [SJ _ (hx.2 t htm)]
  rw [hput] at htk;refine aF (cs:=[(false,[.int .i64])]) (((i+1:Nat):Int),()) (x.ai.length-(i+1)) rfl ad (WJ (fun z=>[Value.int .i64 z]) hw) ⟨i+1,p',l',c',rfl,ad,rfl,Ch.trans (Ch.trans k5 e58 aj) k9 (fun j hj _=>hj),by rw [htk]; exact b9,?_⟩;rw [htk];exact (s8.bG k9 (fun j hj=>by have:=(s8.cd hj).1; simp; omega)).mono ad
 ·have g1:=Wt g1;have hi:i=x.ai.length:=ad
  subst hi;rw [Xd,Ck H' hx hxn] at b5 s5;refine af b5 ((q5,m5,d5),((gY us L n x).num:Int),()) rfl ?_;refine an ?_;refine aw (b2.ao k5 (by simp; omega)) rfl aj ?_;intro h7 b7 k7 z7;have b7:bC h7 h1.size 60 [.slice q5 m5 d5,.int .u32 ((gY us L n x).num:Int)]:=b7;refine af b7 ((q5,m5,d5),((gY us L n x).num:Int),()) rfl ?_;exact ⟨Ch.trans e05 k7 (fun j hj hl=>by simp at hj; omega),q5,m5,d5,rfl,(s5.bG k7 (fun j hj=>by have:=(s5.cd hj).1; simp; omega)).mono ad⟩
structure Km (us:List bP) (n:Nat) (x:bZ):Prop where
 nf:Nf x.ai
 num:x.num<4294967296
 len:x.ai.length<=2^30
 own:∀ t,t∈x.ai->∃ o,fw us n t.1=some o
 sz:∀ t,t∈x.ai->t.1.size<=2^60
theorem HZ (us:List bP) (L:List Lb) (n:Nat) (x:bZ):Nf (gY us L n x).ai:=eE _ _
theorem Ef {us:List bP} {L:List Lb} {n:Nat} {x:bZ} (h:x.num<4294967296):(gY us L n x).num<4294967296:=rN _ _ _ h
theorem DG {us:List bP} {L:List Lb} {n:Nat} {x:bZ} {t:YA × Nat} (ht:t∈(gY us L n x).ai):∃ u,u∈x.ai/\t.1=dq us L n u.1:=by
 obtain ⟨u',hu',h | ⟨y,w,hy,hw,he⟩⟩:=zR ht
 ·cases h.1
 ·cases hy;simp [lO] at hw;subst hw;exact ⟨u',hu',he.symm⟩
def vM (us:List bP) (L:List Lb) (es:List cD) (n:Nat) (x:cz):cz:={ x with e:=cY (cj es) (gY us L n x.e) }
structure Vq (h0 h':Hp) (p:Option YC) (l c:Nat) (ws:List (bY × cz)):Prop where
 out:SL h' h0.size 64 10 p l c (ws.map sH)
 eY:∀ w,w∈ws->gp h' w.1.p w.1.l w.2.e.ai
 low:∀ w,w∈ws->w.2.e.ai≠[]->∀ i,i∈aK w.1.p->i<h'.size/\i∉aK p
theorem IN {h:Hp} {a:YC} {v:YB} (hc:ij h a=some v):a.block<h.size:=by
 unfold ij at hc;cases hb:h[a.block]? with
 | none=>simp [hb] at hc
 | some o=>exact eP hb
theorem OA {h:Hp} {p:Option YC} {l:Nat} {us:cZ} (v:gp h p l us) (h0:us≠[]):∀ i,i∈aK p->i<h.size:=by
 intro i hi;cases us with
 | nil=>exact absurd rfl h0
 | cons u us =>
  obtain ⟨a,rfl,hc⟩:=v.cells 0 aj
  have:i=a.block:=by simpa [aK] using hi
  subst this
  have:=IN hc.1
  rwa [gT,gT] at this
theorem J7 {ws:List Nat} {h h':Hp} {p:Option YC} {l:Nat} {us:cZ} (v:gp h p l us) (k:Ch ws h h') (hw:us≠[]->∀ i,i∈aK p->i∉ws):gp h' p l us:=by
 by_cases h0:us=[]
 ·subst h0;exact ⟨v.len,fun i hi=>absurd hi aj⟩
 ·exact v.ao k (hw h0)
theorem Bd {h:Hp} {g:Nat} {su lb st sd:bY} {L:List Lb} (s:Bq h g su lb st sd L) {us:List bP} (v:sT h su.p su.l us) (sz:Dd us) {n:Nat} (hn:n<us.length) (hL:L.length<=2^40) {p:Option YC} {l c:Nat} {xs:List cz} (vi:Am h p l xs)
  (hxl:xs.length<=2^20) (hxs:∀ x,x∈xs->Km us n x.e)
  {q:Option YC} {m d:Nat} {es:List cD} (ve:tu h q m es) (hb:∀ e,e∈es->∀ i,i∈aK e.p->i<h.size) (hm:es.length<=2^40) {S:List YA} (hS:S.length<=2^30) (hes:∀ e,e∈es->rX S e.x) (hSw:∀ x,x∈xs->∀ t,t∈x.e.ai->dq us L n t.1∈S) :
  HC Tryz.prog 65 #[.pointer (some ⟨g,0,none⟩),.int .i64 (n:Int),.slice p l c,.slice q m d] h fun w h'=>Ext h h'/\∃ p' l' c' ws,w=.slice p' l' c'/\RG h' h.size p' l' c' ws/\ws.map (·.2)=xs.map (vM us L es n):=by
 refine aZ (args:=[.pointer (some ⟨g,0,none⟩),.int .i64 (n:Int),.slice p l c,.slice q m d]) mixed Tryz.func65 az (gy (some ⟨g,0,none⟩) n p l c q m d) ?_;unfold ey aX bh bm aH bF bk aM;obtain ⟨w0,hw0,vd,hit⟩:=Cd vi;have hl0:w0.length=xs.length:=by rw [<- hw0,Wr]
 have hll:=vd.len;refine lr (e:=64) (z:=.agg iz.toArray) (sz:=10) (by':=104) yN DK rfl vd.src (by simpa using hll) (ou w0) (pn w0) ad ad ?_;intro p1 c1 h1 s1 e1;have hlow0:∀ w,w∈w0->w.2.e.ai≠[]->∀ i,i∈aK w.1.p->i<h.size:=fun w hw h0=>OA (hit w hw).lin.vw h0
 refine aR (cs:=[(false,[.int .i64])]) (fun y k h'=>∃ (i:Nat) (ws:List (bY × cz)),y.1=(i:Int)/\k=xs.length-i/\i<=xs.length/\Ext h h'/\Vq h h' p1 l c1 ws/\ws.length=xs.length/\(∀ j w,j<i->ws[j]?=some w->SL h' h.size 66 2 w.1.p w.1.l w.1.c (w.2.e.ai.map cX))/\∀ j x w,xs[j]?=some x->ws[j]?=some w->w.2=if j<i then vM us L es n x else x) ((0:Int),()) xs.length rfl
  ⟨0,w0,rfl,rfl,ad,e1,⟨s1,fun w hw=>(hit w hw).lin.vw.ao e1 aj,fun w hw h0 i hi=>⟨by have:=hlow0 w hw h0 i hi; have:=e1.size; omega,fun hh=>by have:=(s1.cd hh).1; have:=hlow0 w hw h0 i hi; omega⟩⟩,hl0,fun j w hj=>absurd hj ad,fun j x w hx hw=>by
   rw [Ww ad]
   have:(w0.map (·.2))[j]?=some w.2:=by rw [Xc,hw]; rfl
   rw [hw0,hx] at this;exact (WQ this).symm⟩ ?_
 rintro ⟨n10,⟨⟩⟩ k h2 ⟨i,ws,hi,rfl,hle,e2,o2,hwl,hown,hj⟩;simp only at hi;subst hi;refine an ?_;have hwi:IntKind.wrap .i64 ((i:Int)+1)=((i+1:Nat):Int):=by rw [wrap_i64 ad ad]; omega
 refine ak (fun r=>?_) (fun r=>?_)
 ·have r:=Ws r;have hil:i<xs.length:=ad
  have hiw:i<ws.length:=ad
  obtain ⟨a,rfl,hc⟩:=SL.cells o2.out (i:=i) (by rw [Wr]; exact hiw);rw [Wy] at hc;have hxi:xs[i]?=some xs[i]:=Wu hil;have hwi':ws[i]?=some ws[i]:=Wu hiw;have hwx:=hj i _ _ hxi hwi';rw [Ww ad] at hwx;have hxm:=WA hil;have hwm:=WA hiw;have vw:=o2.eY _ hwm;have lw:=o2.low _ hwm;generalize ws[i]=w at hc hwi' hwx hwm vw lw;generalize xs[i]=x at hxi hwx hxm;subst hwx;have hsw:=hxs w.2 hxm;refine ay ⟨ad,ad⟩ (av rfl ?_);rw [show Int.toNat (i:Int)=i from ad];refine ax ((w.1.p,w.1.l,w.1.c),(w.2.e.num:Int),()) ⟨by rw [add_add]; exact hc.2.2.2.2.2.2.2.1,by rw [add_add]; exact hc.2.2.2.2.2.2.2.2.1,trivial⟩ ?_;refine an ?_;have z2:=e2.size;refine aI (EI (d:=w.1.c) (s.ao e2) (v.ao e2) sz hn hL vw hsw.nf hsw.num hsw.len hsw.own hsw.sz) ?_;rintro _ h3 ⟨e3,p3,l3,c3,rfl,s3⟩;refine ⟨((p3,l3,c3),((gY us L n w.2.e).num:Int),()),rfl,?_⟩;refine an ?_;have z3:=e3.size;refine aI (Ii (c:=c3) (d:=d) s3.QH (ve.ao (e2.trans e3)) (fun j hj=>(s3.cd hj).2) (fun e he j hj=>by have:=hb e he j hj; omega) hm (HZ _ _ _ _) (Ef hsw.num) (fun e he=>(hes e he).nf) hS (fun t ht=>by
   obtain ⟨u',hu',he'⟩:=DG ht;rw [he'];exact hSw w.2 hxm u' hu') fun e he=>(hes e he).eY) ?_
  rintro _ h4 ⟨e4,p4,l4,c4,rfl,s4⟩;refine ⟨((p4,l4,c4),((cY (cj es) (gY us L n w.2.e)).num:Int),()),rfl,?_⟩;refine an ?_;have z4:=e4.size;have e24:=e3.trans e4;refine ay ⟨ad,ad⟩ (av rfl ?_);have so:=o2.out.bG e24 aj;refine SL.part (P:=Tryz.prog) so (i:=i) (by rw [Wr]; exact hiw) (vs:=[.slice p4 l4 c4,.int .u32 ((cY (cj es) (gY us L n w.2.e)).num:Int)]) (o:=7) aj (by simp [cS]) rfl ?_;intro h6 s6 k6 z6;have hse:(ws.map sH).set i (lG ((ws.map sH)[i]'(by rw [Wr]; exact hiw)) 7 [.slice p4 l4 c4,.int .u32 ((cY (cj es) (gY us L n w.2.e)).num:Int)])=(ws.set i (⟨p4,l4,c4⟩,vM us L es n w.2)).map sH:=by
   rw [Yn]
   congr 1
   rw [Wy]
   have:ws[i]=w:=(WM.1 hwi').2
   rw [this] <;> rfl
  rw [hse] at s6;have hgb:∀ j,j∈aK (some a)->h.size<=j/\j<h2.size:=fun j hj=>o2.out.cd hj
  have e6:Ext h h6:=Ch.trans (e2.trans e24) k6 (fun j hj hl=>by have:=hgb j hj; omega);refine aF (cs:=[(false,[.int .i64])]) (((i+1:Nat):Int),()) (xs.length-(i+1)) rfl ad (WJ (fun z=>[Value.int .i64 z]) hwi) ⟨i+1,_,rfl,rfl,ad,e6,⟨s6,fun w' hw'=>?_,fun w' hw' h0' j hj'=>?_⟩,by rw [XK]; exact hwl,fun j w' hj' hw'=>?_,fun j x' w' hx' hw'=>?_⟩
  ·rcases XC hw' with hw' | rfl
   ·exact J7 ((o2.eY w' hw').ao e24 aj) k6 (fun h0 j hj=>(o2.low w' hw' h0 j hj).2)
   ·exact (s4.bG k6 (fun j hj hh=>by have:=(s4.cd hj).1; have:=hgb j hh; omega)).QH
  ·rcases XC hw' with hw' | rfl
   ·obtain ⟨h1,h2⟩:=o2.low w' hw' h0' j hj';exact ⟨ad,h2⟩
   ·obtain ⟨h1,h2⟩:=s4.cd hj';exact ⟨ad,fun hh=>by have:=hgb j hh; omega⟩
  ·have hbx:∀ q,q∈aK (some a)->∃ ys,bC h4 q 64 ys:=SL.Aq so
   by_cases hji:i=j
   ·subst hji;rw [Ye hiw] at hw';cases hw';exact (SL.qT s4 k6 hbx cg).mono ad
   ·rw [XY hji] at hw';exact SL.qT ((hown j w' ad hw').bG e24 aj) k6 hbx cg
  ·by_cases hji:i=j
   ·subst hji;rw [Ye hiw] at hw';cases hw';rw [hxi] at hx';cases hx';rw [WC ad]
   ·rw [XY hji] at hw';have h2:=hj j x' w' hx' hw';rw [h2]
    by_cases hj2:j<i
    ·rw [WC hj2,WC ad]
    ·rw [Ww hj2,Ww ad]
 ·have r:=Wt r
  have:i=xs.length:=ad
  subst this;refine ⟨e2,p1,l,c1,ws,rfl,⟨o2.out,fun w hw=>?_,fun _ _=>trivial⟩,?_⟩
  ·obtain ⟨j,hj1,rfl⟩:=WS hw;exact hown j _ ad (Wu hj1)
  apply Yp
  ·rw [Wr,Wr,hwl]
  ·intro j h1' h2';rw [Wy,Wy];rw [Wr] at h1' h2'
   have:=hj j _ _ (Wu h2') (Wu h1')
   rw [this,WC h2']
theorem Ue:Tryz.prog.underlying 68=some (.slice 26):=az
theorem VA:(Tryz.prog.info? 26).map (fun i=>(i.zero,i.size,i.bytes))=some (some (.slice none 0 0),1,24):=az
theorem OC (p:Option YC) (l c:Nat):Instr.fill (fun j=>some (j*1,1)) ((Array.range (1*1)).map ((Value.slice none 0 0).cells[· % (Value.slice none 0 0).cells.size]!)) [(0,.slice p l c)]=some ([.slice p l c]:List YB).toArray:=az
structure tQ (h:Hp) (b:Nat) (st:bY) (tw:List (bY × List (bY × cz))):Prop where
 sl:SL h b 26 1 st.p st.l st.c (tw.map fun x=>[x.1.v])
 eY:∀ x,x∈tw->RG h b x.1.p x.1.l x.1.c x.2
theorem N0 {W:List Nat} {h h':Hp} {b:Nat} {p:Option YC} {l c:Nat} {ws:List (bY × cz)} (s:RG h b p l c ws) (k:Ch W h h') {e':TypeId} (hw:∀ i,i∈W->∃ ys,bC h i e' ys) (h1:64≠e') (h2:66≠e'):RG h' b p l c ws :=
 ⟨SL.qT s.sl k hw h1,fun u hu=>SL.qT (s.own u hu) k hw h2,s.ok⟩
theorem Dv {h:Hp} {b b':Nat} {p:Option YC} {l c:Nat} {ws:List (bY × cz)} (s:RG h b p l c ws) (hb:b'<=b):RG h b' p l c ws:=⟨s.sl.mono hb,fun u hu=>(s.own u hu).mono hb,s.ok⟩
theorem tQ.ao {W:List Nat} {h h':Hp} {b:Nat} {st:bY} {tw:List (bY × List (bY × cz))} (s:tQ h b st tw) (k:Ch W h h') {e':TypeId} (hw:∀ i,i∈W->∃ ys,bC h i e' ys) (hd:∀ i,i∈aK st.p->i∉W) (h1:64≠e') (h2:66≠e'):tQ h' b st tw :=
 ⟨s.sl.bG k hd,fun x hx=>N0 (s.eY x hx) k hw h1 h2⟩
theorem tQ.ext {h h':Hp} {b:Nat} {st:bY} {tw:List (bY × List (bY × cz))} (s:tQ h b st tw) (k:Ext h h'):tQ h' b st tw:=s.ao (e':=0) k aj aj cg cg
theorem tQ.nil (h:Hp) (b:Nat):tQ h b lW []:=⟨SL.nil _ _ _ _,aj⟩
theorem tQ.push {L:Lp} {K:YB->Hp->Prop} {h:Hp} {b:Nat} {st:bY} {tw:List (bY × List (bY × cz))} (s:tQ h b st tw) {x:bY × List (bY × cz)} (hx:RG h b x.1.p x.1.l x.1.c x.2) (hb:b<=h.size) (hl:tw.length<=2^20) {l:List (YC × List YB)} (hst:∀ h',Ext h h'->T.Al h' l) {k:Option YC->Nat->Nat->T}
  (hk:∀ p' c' h',tQ h' b ⟨p',st.l+1,c'⟩ (tw++[x])->Ch (aK st.p) h h'->(p'=st.p\/∃ a,p'=some a/\h.size<=a.block)->k p' (st.l+1) c' L K h') :
  T.dW Tryz.prog (Instr.buildSlice 68 1 #[(0,.slice x.1.p x.1.l x.1.c)]) false [(false,[.slice 0])] (fun q m cc=>T.aY l (T.dW Tryz.prog (Builtin.append_ #[68,68] 68 #[.slice st.p st.l st.c,.slice q m cc]) false [(false,[.slice 0])] k)) L K h:=by
 have hll:st.l=tw.length:=by have:=s.sl.1; rwa [Wr] at this
 refine gj (vs:=[x.1.v]) Ue VA rfl ad ad (OC _ _ _) rfl rfl s.sl hb ad ad hst ?_;intro p' c' h' s' k' hp';refine hk p' c' h' ⟨by rw [WG]; exact s',fun y hy=>?_⟩ k' hp';have hbx:=SL.Aq s.sl;rcases WV.1 hy with hy | hy
 ·exact N0 (s.eY y hy) k' hbx cg cg
 ·rw [W4.1 hy];exact N0 hx k' hbx cg cg
def LQ (lv:Nat) (pp00:Option YC) (ll00:Nat) (a1 a7:YC) (p16:Option YC) (l17 l18:Nat):T :=
   T.loop [aM] [.int .i64 (0:Int)] <| fun (n21:Int) =>
   bm n21 ll00
   (T.ah (a7.add 2) [.slice 26] <| fun (p22:Option YC) (l23:Nat) (l24:Nat) =>
   T.need (((0:Int)<=n21)/\(n21<(ll00:Int))) <|
   T.bd pp00 <| fun (a25:YC) =>
   T.ah (a25.add (aH n21 4)) [.slice 64] <| fun (p26:Option YC) (l27:Nat) (l28:Nat) =>
   bF 65 [.pointer (some a7),.int .i64 n21,.slice p26 l27 l28,.slice p16 l17 l18] false [(false,[.slice 64])] <| fun (p29:Option YC) (l30:Nat) (l31:Nat) =>
   T.aY [((a7.add 2),[.slice p22 l23 l24])] <|
   bK (Instr.buildSlice 68 1 #[(0,.slice p29 l30 l31)]) false [da] <| fun (p32:Option YC) (l33:Nat) (l34:Nat) =>
   T.aY [((a25.add (aH n21 4)),[.slice p26 l27 l28]),((a7.add 2),[.slice p22 l23 l24])] <|
   bK (Builtin.append_ #[68,68] 68 #[.slice p22 l23 l24,.slice p32 l33 l34]) false [da] <| fun (p35:Option YC) (l36:Nat) (l37:Nat) =>
   T.aY [((a25.add (aH n21 4)),[.slice p26 l27 l28])] <|
   T.aD (a7.add 2) [.slice p35 l36 l37] <|
   T.ah (a7.add 3) [.slice 26] <| fun (p38:Option YC) (l39:Nat) (l40:Nat) =>
   T.need (((0:Int)<=n21)/\(n21<(ll00:Int))) <|
   T.bd pp00 <| fun (a41:YC) =>
   T.ah ((a41.add (aH n21 4)).add 1) [.slice 64] <| fun (p42:Option YC) (l43:Nat) (l44:Nat) =>
   bF 65 [.pointer (some a7),.int .i64 n21,.slice p42 l43 l44,.slice p16 l17 l18] false [(false,[.slice 64])] <| fun (p45:Option YC) (l46:Nat) (l47:Nat) =>
   T.aY [((a7.add 3),[.slice p38 l39 l40])] <|
   bK (Instr.buildSlice 68 1 #[(0,.slice p45 l46 l47)]) false [da] <| fun (p48:Option YC) (l49:Nat) (l50:Nat) =>
   T.aY [(((a41.add (aH n21 4)).add 1),[.slice p42 l43 l44]),((a7.add 3),[.slice p38 l39 l40])] <|
   bK (Builtin.append_ #[68,68] 68 #[.slice p38 l39 l40,.slice p48 l49 l50]) false [da] <| fun (p51:Option YC) (l52:Nat) (l53:Nat) =>
   T.aY [(((a41.add (aH n21 4)).add 1),[.slice p42 l43 l44])] <|
   T.aD (a7.add 3) [.slice p51 l52 l53] <|
   T.again lv [.int .i64 (bj (n21+(1:Int)))])
   (T.aD a1 [.int .i64 (0:Int),.int .i64 (0:Int),bU] <|
   T.ah a1 [.int .i64,.int .i64,.string] <| fun (n22:Int) (n23:Int) (s24:YA) =>
   T.ret (.tuple #[.pointer (some a7),.agg #[.int .i64 n22,.int .i64 n23,.string s24]]))
def yh (us:List bP) (L:List Lb) (es:List cD) (F:bP->List cz) (i:Nat) (tw:List (bY × List (bY × cz))):Prop :=
 tw.length=i/\∀ n u x,us[n]?=some u->tw[n]?=some x->x.2.map (·.2)=(F u).map (vM us L es n)
theorem yh.push {us:List bP} {L:List Lb} {es:List cD} {F:bP->List cz} {i:Nat} {tw:List (bY × List (bY × cz))} (t:yh us L es F i tw) {u:bP} (hu:us[i]?=some u) {x:bY × List (bY × cz)} (hx:x.2.map (·.2)=(F u).map (vM us L es i)):yh us L es F (i+1) (tw++[x]):=by
 obtain ⟨h1,h2⟩:=t;refine ⟨by rw [Wv,h1]; rfl,fun n v y hv hy=>?_⟩
 by_cases hn:n<tw.length
 ·rw [WZ hn] at hy;exact h2 n v y hv hy
 ·rw [WX ad] at hy;have hn0:n=tw.length:=by
   have:=(WM.1 hy).1
   simp at this;omega
  subst hn0;rw [Yo] at hy;cases hy;rw [h1] at hv ⊢;rw [hu] at hv;cases hv;exact hx
structure SR (us:List bP) (L:List Lb) (S:List YA) (n:Nat) (u:bP):Prop where
 text:∀ x,x∈u.text->Km us n x.e/\∀ t,t∈x.e.ai->dq us L n t.1∈S
 data:∀ x,x∈u.data->Km us n x.e/\∀ t,t∈x.e.ai->dq us L n t.1∈S
theorem A5 {L:Lp} {K:YB->Hp->Prop} {h:Hp} {vs:List YB} {cs:List fx} {I:qa (flat cs)->Nat->Hp->Prop} {n:Nat} (y:qa (flat cs)) (m:Nat) (hm:m<n) (hy:vs=parts cs (dU _ y)) (hI:I y m h):T.again L.length vs (L++[Jl I n]) K h :=
 aF y m (by rw [WX (WH _),Yo]; rfl) hm hy hI
theorem Qd {L:Lp} {K:YB->Hp->Prop} {h0 h:Hp} {ga g lv:Nat} {su lb:bY} {LB:List Lb} {us:List bP} {a b:Int} {z:YA} {p16:Option YC} {l17 l18:Nat} {es:List cD} {S:List YA} (hlv:lv=L.length) (hga:ga<g) (h0g:h0.size<=ga) (e0:Ext h0 h) (b1:bC h ga 54 [.int .i64 a,.int .i64 b,.string z])
  (pr:Bq h g su lb lW lW LB) (v:sT h0 su.p su.l us) (sz:Dd us) (hL:LB.length<=2^40) (ve:tu h p16 l17 es) (hq:∀ i,i∈aK p16->g<i) (hb:∀ e,e∈es->∀ i,i∈aK e.p->g<i/\i<h.size) (hm:es.length<=2^40) (hS:S.length<=2^30) (hes:∀ e,e∈es->rX S e.x)
  (hW:∀ n u,us[n]?=some u->SR us LB S n u)
  (hk:∀ h' st sd tw dw,Ext h0 h'->Bq h' g su lb st sd LB->tQ h' h.size st tw->tQ h' h.size sd dw->yh us LB es (·.text) us.length tw->yh us LB es (·.data) us.length dw->K (.tuple #[.pointer (some ⟨g,0,none⟩),N2 ⟨0,0,du⟩]) h') :
  LQ lv su.p su.l ⟨ga,0,none⟩ ⟨g,0,none⟩ p16 l17 l18 L K h:=by
 subst hlv;unfold LQ bm aH bF bK bj bU aM da;have hll:=v.len;have hmany:=sz.many;have hgs:=pr.box.lt;refine aR (cs:=[(false,[.int .i64])]) (fun y k h'=>∃ (i:Nat) (st sd:bY) (tw dw:List (bY × List (bY × cz))),y.1=(i:Int)/\k=us.length-i/\i<=us.length/\Ext h0 h'/\Ch [g] h h'/\bC h' g 70 [su.v,lb.v,st.v,sd.v]/\tQ h' h.size st tw/\tQ h' h.size sd dw/\(∀ j,j∈aK st.p->j∉aK sd.p) /\
  yh us LB es (·.text) i tw/\yh us LB es (·.data) i dw) ((0:Int),()) us.length rfl
  ⟨0,lW,lW,[],[],rfl,rfl,ad,e0,Ch.refl _ _,pr.box,tQ.nil _ _,tQ.nil _ _,by simp [lW,aK],⟨rfl,fun n u x _ hx=>by simp at hx⟩,⟨rfl,fun n u x _ hx=>by simp at hx⟩⟩ ?_
 rintro ⟨n21,⟨⟩⟩ k h1 ⟨i,st,sd,tw,dw,hi,rfl,hle,e1,k1,b7,t1,d1,hdj,it,id⟩;simp only at hi;subst hi;refine an ?_;have hw:IntKind.wrap .i64 ((i:Int)+1)=((i+1:Nat):Int):=by rw [wrap_i64 ad ad]; omega
 have z1:=k1.size;refine ak (fun q=>?_) (fun q=>?_)
 ·have q:=Ws q;have hil:i<us.length:=ad
  have hug:us[i]?=some us[i]:=Wu hil;obtain ⟨au,sa,sb,sc,sd',hau,hcu,va⟩:=v.cells i hil;have hum:=WA hil;generalize us[i]=u at hug hcu va hum;have uw:=hW i u hug;have prk:∀ {h':Hp} {st' sd2:bY},Ch [g] h h'->bC h' g 70 [su.v,lb.v,st'.v,sd2.v]->Bq h' g su lb st' sd2 LB:=fun k bx=>⟨bx,pr.mV.bG k (fun j hj hh=>by have:=(pr.mV.cd hj).1; simp at hh; omega)⟩
  have vek:∀ {h':Hp},Ch [g] h h'->tu h' p16 l17 es:=fun k=>ve.mi k (fun j hj hh=>by have:=hq j hj; simp at hh; omega) (fun e he _ j hj hh=>by have:=(hb e he j hj).1; simp at hh; omega)
  have cu0:∀ {h':Hp},Ext h0 h'->aG h' (au.add (i*4)) 0 [.slice sa.p sa.l sa.c]:=fun e=>⟨(aQ e aj _ _ hcu).1,trivial⟩
  have cu1:∀ {h':Hp},Ext h0 h'->aG h' ((au.add (i*4)).add 1) 0 [.slice sb.p sb.l sb.c]:=fun e=>⟨by rw [add_add]; exact (aQ e aj _ _ hcu).2.1,trivial⟩
  rw [aE];refine af b7 ((st.p,st.l,st.c),()) rfl ?_;refine an ?_;refine ay ⟨ad,ad⟩ (av hau ?_);rw [show Int.toNat (i:Int)=i from ad];refine ax ((sa.p,sa.l,sa.c),()) (cu0 e1) ?_;refine an ?_;refine aI (Bd (c:=sa.c) (d:=l18) (prk k1 b7) (v.ao e1) sz hil hL (va.ao e1).text (sz.text u hum) (fun x hx=>(uw.text x hx).1) (vek k1) (fun e he j hj=>by have:=(hb e he j hj).2; omega) hm hS hes (fun x hx=>(uw.text x hx).2)) ?_;rintro _ h2 ⟨e2,p2,l2,c2,w2,rfl,o2,hm2⟩;refine ⟨((p2,l2,c2),()),rfl,?_⟩;refine an ?_;have z2:=e2.size;have e02:=e1.trans e2;have b72:=b7.ao e2 aj;refine ⟨⟨b72.cells _ rfl,trivial⟩,?_⟩;refine tQ.push (x:=(⟨p2,l2,c2⟩,w2)) (t1.ext e2) (Dv o2 z1) ad (by rw [it.1]; omega) (by exact fun h' e=>⟨cu0 (e02.trans e),(b72.ao e aj).cells _ rfl,trivial⟩) ?_;intro p3 c3 h3 t3 k3 hp3;have hst3:∀ j,j∈aK st.p->h.size<=j/\j<h1.size:=fun j hj=>t1.sl.cd hj
  have e03:Ext h0 h3:=Ch.trans e02 k3 (fun j hj hl=>by have:=hst3 j hj; have:=e0.size; omega);have kg3:Ch [g] h h3:=Ch.trans (Ch.trans k1 e2 aj) k3 (fun j hj hl=>by have:=hst3 j hj; omega);have b73:=b72.ao k3 (fun hj=>by have:=hst3 _ hj; omega);have d3:tQ h3 h.size sd dw:=(d1.ext e2).ao (e':=26) k3 (SL.Aq (t1.ext e2).sl) (fun j hj hh=>hdj j hh hj) cg cg;have z3:=k3.size;refine ⟨⟨cu0 e03,trivial⟩,?_⟩;rw [aE];refine aw b73 rfl aj ?_;intro h4 b74 k4 z4;have b74:bC h4 g 70 [su.v,lb.v,(⟨p3,st.l+1,c3⟩:bY).v,sd.v]:=b74;have hg0:∀ j,j∈[g]->h0.size<=j:=fun j hj=>by simp at hj; omega
  have e04:Ext h0 h4:=Ch.trans e03 k4 (fun j hj hl=>by have:=hg0 j hj; omega);have kg4:Ch [g] h h4:=Ch.trans kg3 k4 (fun j hj _=>hj);have hbg:∀ {hh:Hp} {xs:List YB},bC hh g 70 xs->∀ j,j∈[g]->∃ ys,bC hh j 70 ys:=fun bx j hj=>by
   rw [W4] at hj;subst hj;exact ⟨_,bx⟩
  have hng:∀ {hh:Hp} {s:bY} {t:List (bY × List (bY × cz))},tQ hh h.size s t->∀ j,j∈aK s.p->j∉[g]:=fun t j hj hh=>by have:=(t.sl.cd hj).1; simp at hh; omega
  have t4:=t3.ao (e':=70) k4 (hbg b73) (hng t3) cg cg;have d4:=d3.ao (e':=70) k4 (hbg b73) (hng d3) cg cg;have hdj4:∀ j,j∈aK p3->j∉aK sd.p:=fun j hj hh=>by
   rcases hp3 with h | ⟨a',h,h'⟩
   ·rw [h] at hj; exact hdj j hj hh
   ·rw [h] at hj;simp [aK] at hj
    have:=(d1.sl.cd hh).2
    omega
  refine af b74 ((sd.p,sd.l,sd.c),()) rfl ?_;refine an ?_;refine ay ⟨ad,ad⟩ (av hau ?_);refine ax ((sb.p,sb.l,sb.c),()) (cu1 e04) ?_;refine an ?_;refine aI (Bd (c:=sb.c) (d:=l18) (prk kg4 b74) (v.ao e04) sz hil hL (va.ao e04).data (sz.data u hum) (fun x hx=>(uw.data x hx).1) (vek kg4) (fun e he j hj=>by have:=(hb e he j hj).2; omega) hm hS hes (fun x hx=>(uw.data x hx).2)) ?_;rintro _ h5 ⟨e5,p5,l5,c5,w5,rfl,o5,hm5⟩;refine ⟨((p5,l5,c5),()),rfl,?_⟩;refine an ?_;have z5:=e5.size;have e05:=e04.trans e5;have b75:=b74.ao e5 aj;refine ⟨⟨b75.cells _ rfl,trivial⟩,?_⟩;refine tQ.push (x:=(⟨p5,l5,c5⟩,w5)) (d4.ext e5) (Dv o5 ad) ad (by rw [id.1]; omega) (by exact fun h' e=>⟨cu1 (e05.trans e),(b75.ao e aj).cells _ rfl,trivial⟩) ?_;intro p6 c6 h6 d6 k6 hp6;have hsd6:∀ j,j∈aK sd.p->h.size<=j/\j<h1.size:=fun j hj=>d1.sl.cd hj
  have e06:Ext h0 h6:=Ch.trans e05 k6 (fun j hj hl=>by have:=hsd6 j hj; have:=e0.size; omega);have kg6:Ch [g] h h6:=Ch.trans (Ch.trans kg4 e5 aj) k6 (fun j hj hl=>by have:=hsd6 j hj; omega);have b76:=b75.ao k6 (fun hj=>by have:=hsd6 _ hj; omega);have t6:tQ h6 h.size ⟨p3,st.l+1,c3⟩ (tw++[(⟨p2,l2,c2⟩,w2)]):=(t4.ext e5).ao (e':=26) k6 (SL.Aq (d4.ext e5).sl) hdj4 cg cg;refine ⟨⟨cu1 e06,trivial⟩,?_⟩;refine aw b76 rfl aj ?_;intro h7 b77 k7 z7;have b77:bC h7 g 70 [su.v,lb.v,(⟨p3,st.l+1,c3⟩:bY).v,(⟨p6,sd.l+1,c6⟩:bY).v]:=b77;have e07:Ext h0 h7:=Ch.trans e06 k7 (fun j hj hl=>by have:=hg0 j hj; omega);refine A5 (cs:=[(false,[.int .i64])]) (((i+1:Nat):Int),()) (us.length-(i+1)) ad (WJ (fun z=>[Value.int .i64 z]) hw) ⟨i+1,⟨p3,st.l+1,c3⟩,⟨p6,sd.l+1,c6⟩,_,_,rfl,rfl,ad,e07,Ch.trans kg6 k7 (fun j hj _=>hj),b77,
   t6.ao (e':=70) k7 (hbg b76) (hng t6) cg cg,d6.ao (e':=70) k7 (hbg b76) (hng d6) cg cg,fun j hj hh=>?_,it.push hug hm2,id.push hug hm5⟩
  rcases hp6 with h | ⟨a',h,h'⟩
  ·rw [h] at hh; exact hdj4 j hj hh
  ·rw [h] at hh;simp [aK] at hh
   have:=(t4.sl.cd hj).2
   omega
 ·have q:=Wt q
  have:i=us.length:=ad
  subst this;have b1':=b1.ao k1 (by simp; omega);refine aw b1' rfl aj ?_;intro h2 b2 k2 z2;have b2:bC h2 ga 54 [.int .i64 0,.int .i64 0,.string du]:=b2;refine af b2 ((0:Int),(0:Int),du,()) rfl ?_;have hba:∀ j,j∈[ga]->∃ ys,bC h1 j 54 ys:=fun j hj=>by
   rw [W4] at hj;subst hj;exact ⟨_,b1'⟩
  have hna:∀ {s:bY} {t:List (bY × List (bY × cz))},tQ h1 h.size s t->∀ j,j∈aK s.p->j∉[ga]:=fun t j hj hh=>by have:=(t.sl.cd hj).1; simp at hh; omega
  refine hk h2 st sd tw dw (Ch.trans e1 k2 (fun j hj hl=>by simp at hj; omega)) ⟨b7.ao k2 (by simp; omega),?_⟩ (t1.ao (e':=54) k2 hba (hna t1) cg cg) (d1.ao (e':=54) k2 hba (hna d1) cg cg) it id;refine pr.mV.bG (Ch.trans (ws:=[g,ga]) (Ch.mono k1 aj) k2 aj) (fun j hj hh=>by have:=(pr.mV.cd hj).1; simp at hh; omega)
end Go.Sx.Lk
