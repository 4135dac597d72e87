/- Contracts over heaps, part 7. Condition: as each statement says. -/
import Derived.Test.YtfkjiiapldkoeaaGreatDoorAvL0
import Derived.Test.YtfkjiiapldkoeaaGreatDoorAvS
set_option linter.all false
set_option maxRecDepth 100000
set_option maxHeartbeats 4000000
namespace Go.Sx.Ob
open Go.Proofs Go.Maps
def Cw {D:List (XA × XB)} {l:List XA} (hn:(D.map (·.1)).Nodup) (hm:∀ s,s∈D.map (·.1)↔s∈l):keysOf D=(cQ l).map (fun s=>s.data.toList):=by
 have hr:=sO l;have nd:(cQ l).Nodup:=hr.imp fun h=>sU h
 have hp:(D.map (·.1)).Perm (cQ l):=(List.perm_ext_iff_of_nodup hn nd).2 fun s=>by rw [hm,nk]
 have h2:((cQ l).map fun s=>s.data.toList).Perm (D.map fun p=>p.1.data.toList):=by
  have:=hp.symm.map (fun s:XA=>s.data.toList)
  rw [Ph] at this;exact this
 have h1:((cQ l).map fun s=>s.data.toList).mergeSort (fun x y=>decide (x<=y))=keysOf D:=mergeSort_of_perm h2;rw [<- h1];refine List.mergeSort_of_pairwise ?_;rw [List.pairwise_map];refine hr.imp fun {a b} h=>?_
 simp only [decide_eq_true_eq];exact List.le_of_lt h
theorem yn (s:XA):∀ (l:List XA),(jJ s l).length<=l.length+1
 | []=>by simp [jJ]
 | x::l=>by
  have ih:=yn s l;unfold jJ;split
  ·simp
  ·split
   ·simp
   ·simp only [List.length_cons]; omega
theorem Aw:∀ (l d:List XA),(l.foldl (fun d s=>jJ s d) d).length<=l.length+d.length
 | [],d=>aj
 | x::l,d=>by
  rw [Pq];have h1:=Aw l (jJ x d);have h2:=yn x d;simp only [List.length_cons];omega
def Ge (l:List XA):(cQ l).length<=l.length:=by
 have:=Aw l []
 simpa [cQ] using this
def IZ (l:List XA):((l.map fun s=>s.data.toList).map fun k=>[encStr k])=l.map Nj:=by
 rw [Ph];apply List.map_congr_left;intro s _;show [Value.string ⟨s.data.toList.toArray⟩]=[Value.string s]
 simp
def uj (w:eS):Except (Nat × Nat) pN:=match IW w with
 | some g=>.error (g.2,23)
 | none=>.ok ⟨w.text,w.data,w.bU,cQ (w.aP.map (·.1))⟩
def zd:Except (Nat × Nat) pN->Option (Nat × Nat)
 | .error q=>some q
 | .ok _=>none
def MM (b u e A:Nat) (w:eS) (h:Hp) (v:XB) (h':Hp):Prop:=Ch [u,e,A] h h'/\∃ (a b' c d:cH) (ev:XB),v=.tuple #[tC a b' c d,ev]/\ke h' b a b' c d (gZ (uj w)).1/\uJ h' ev (zd (uj w))/\bf h' u 27 [a.v,b'.v,c.v,d.v]/\bf h' e 29 [ev]
theorem Am {w:eS}:∀ {l:List (XA × Nat)} {i:Nat},(∀ g,g∈l.take i->fT w.names g.1=true)->(hi:i<l.length)->fT w.names l[i].1=false->l.find? (fun g=>!fT w.names g.1)=some l[i]
 | x::l,0,_,_,h=>by
  rw [PN];simp only [List.getElem_cons_zero] at h;rw [h] <;> rfl
 | x::l,i+1,h1,hi,h=>by
  rw [PN,h1 x aj];simp only [Bool.not_true];exact Am (fun g hg=>h1 g (by simp [hg])) (by simpa using hi) h
def Jn {h:Hp} {b A g u e v:Nat} {w:eS} {t d e' q:cH} {ut ud:List (cH × cd)} {ue:List (cH × pP)} {ow:Nat->Nat} (a:ei h b A g w t d e' q ut ud ue ow) (W:yq w) (hG:w.aP.length<=2^20) (hu:u<b) (he:e<b) (hue:u≠e) (hb:b<=h.size) (hv:ow v=9)
  {xs:List XB} {x1:XB} (bu:bf h u 27 xs) (hxs:xs.length=4) (be:bf h e 29 [x1]) (bv:bf h v 69 [.pointer (some ⟨A,0,none⟩)]):eH u e v [] (MM b u e A w h) h:=by
 unfold eH cv bN dH bW aS bR dh aw aI bh aQ;have bA:=a.bA;have hql:=a.ql;have nvA:v≠A:=fun hh=>by have:=a.oA; rw [hh] at hv; omega
 refine K7 ?_;intro h1 m1 e1 z1;refine af (bv.an e1 aj) (some ⟨A,0,none⟩,()) rfl (ao ?_);refine au rfl ?_;rw [az];refine af (a.box.an e1 aj) ((q.p,q.l,q.c),()) rfl (ao ?_);refine bJ (cs:=[(false,[.int .i64])]) (fun y m h'=>∃ i:Nat,y.1=(i:Int)/\m=w.aP.length-i/\i<=w.aP.length/\Ext h h'/\rG h' h.size ((w.aP.take i).map (·.1)).reverse/\∀ x,x∈w.aP.take i->fT w.names x.1=true)
  ((0:Int),()) w.aP.length rfl ⟨0,rfl,rfl,ae,e1,m1,aj⟩ ?_
 rintro ⟨n7,⟨⟩⟩ m h2 ⟨i,hi,rfl,hil,e2,m2,hin⟩;simp only at hi;subst hi;refine ao ?_;have a2:=a.an e2 aj;have bu2:=bu.an e2 aj;have be2:=be.an e2 aj;have bv2:=bv.an e2 aj;have z2:=e2.size;refine ai (fun r=>?_) (fun r=>?_)
 ·have r:=OE r;have hi':i<w.aP.length:=ae
  have hleg:=W.aP w.aP[i] (O2 hi');obtain ⟨aq,haq,hcq⟩:=SL.cells a2.aP (i:=i) (by rw [OI]; exact hi');rw [O4] at hcq;refine aC ⟨ae,ae⟩ (au haq ?_);rw [show Int.toNat (i:Int)=i from ae];refine aG (w.aP[i].1,(w.aP[i].2:Int),()) hcq (ao ?_);have htk:w.aP.take (i+1)=w.aP.take i++[w.aP[i]]:=OT hi';have hund:fT w.names w.aP[i].1=false->uj w=.error (w.aP[i].2,23):=fun hf=>by
   unfold uj IW;rw [Am hin hi' hf]
  generalize w.aP[i]=gi at *;refine bm ?_;intro h3 b3 e3 z3;refine ap b3 rfl aj ?_;intro h4 b4 k4 z4;have b4:bf h4 h2.size 76 [.string gi.1,.int .i64 (gi.2:Int)]:=b4;have e24:Ext h2 h4:=Ch.trans e3 k4 (fun j hj hl=>by simp at hj; omega);have a4:=a2.an e24 aj;have bv4:=bv2.an e24 aj;refine af bv4 (some ⟨A,0,none⟩,()) rfl (ao ?_);refine au rfl ?_;rw [az];refine af a4.box (some g,()) rfl (ao ?_);refine af b4 (gi.1,()) rfl (ao ?_);refine yl a4.names gi.1 ?_;refine ⟨⟨bv4.cells _ rfl,trivial⟩,?_⟩;refine ai (fun r2=>?_) (fun r2=>?_)
  ·have r2:fT w.names gi.1=false:=by simpa using r2
   have hend:=hund r2;have bu4:=bu2.an e24 aj;have be4:=be2.an e24 aj;have e04:=e2.trans e24;rw [az];refine af b4 ((gi.2:Int),()) rfl (ao ?_);have hl2:h2.size<h4.size:=b4.lt;have hbu:=bu.lt;have hbe:=be.lt;have xl:∀ hh ys,bf hh u 27 ys->ys.length=4->∃ y1 y2 y3 y4,ys=[y1,y2,y3,y4]:=fun hh ys _ hl=>by
    match ys,hl with
    | [y1,y2,y3,y4],_=>exact ⟨y1,y2,y3,y4,rfl⟩
   obtain ⟨y1,y2,y3,y4,rfl⟩:=xl h4 xs bu4 hxs;refine ⟨?_,?_,trivial⟩
   ·refine bm ?_;intro h5 b5 e5 z5;have b45:=b4.an e5 aj;refine ⟨⟨b45.cells _ rfl,trivial⟩,?_⟩;refine ap (bu4.an e5 aj) rfl aj ?_;intro h6 b6 k6 z6;have b6:bf h6 u 27 zU:=b6;refine ⟨⟨(b45.an k6 (by simp; omega)).cells _ rfl,trivial⟩,?_⟩;refine ap ((be4.an e5 aj).an k6 (by simp; omega)) rfl aj ?_;intro h7 b7 k7 z7;have b7:bf h7 e 29 [.iface 59 (ptr h4.size)]:=b7;have b67:bf h7 u 27 zU:=b6.an k7 (by simp; omega);have b57:=(b5.an k6 (by simp; omega)).an k7 (by simp; omega);refine af b67 ((none,0,0),(none,0,0),(none,0,0),(none,0,0),()) rfl (ao ?_);refine af b7 (Value.iface 59 (ptr h4.size),()) rfl ?_;refine ⟨(((e04.trans e5).mono aj).trans k6 (fun j hj _=>by have hj:=OJ.1 hj; simp [hj])).trans k7 (fun j hj _=>by have hj:=OJ.1 hj; simp [hj]),fA,fA,fA,fA,_,rfl,?_,?_,b67,b7⟩
    ·rw [hend]; exact ke.zero _ _
    ·rw [hend]; exact ⟨_,rfl,b57⟩
   ·refine ap bu4 rfl aj ?_;intro h6 b6 k6 z6;have b6:bf h6 u 27 zU:=b6;have b46:=b4.an k6 (by simp; omega);refine ⟨⟨b46.cells _ rfl,trivial⟩,?_⟩;refine bm ?_;intro h5 b5 e5 z5;refine ⟨⟨(b46.an e5 aj).cells _ rfl,trivial⟩,?_⟩;refine ap ((be4.an k6 (by simp; omega)).an e5 aj) rfl aj ?_;intro h7 b7 k7 z7;have b7:bf h7 e 29 [.iface 59 (ptr h6.size)]:=b7;have b67:bf h7 u 27 zU:=(b6.an e5 aj).an k7 (by simp; omega);have b57:=b5.an k7 (by simp; omega);refine af b67 ((none,0,0),(none,0,0),(none,0,0),(none,0,0),()) rfl (ao ?_);refine af b7 (Value.iface 59 (ptr h6.size),()) rfl ?_;refine ⟨(((e04.mono aj).trans k6 (fun j hj _=>by have hj:=OJ.1 hj; simp [hj])).trans e5 aj).trans k7 (fun j hj _=>by have hj:=OJ.1 hj; simp [hj]),fA,fA,fA,fA,_,rfl,?_,?_,b67,b7⟩
    ·rw [hend]; exact ke.zero _ _
    ·rw [hend]; exact ⟨_,rfl,b57⟩
  ·have r2:fT w.names gi.1=true:=by simpa using r2
   refine af b4 (gi.1,()) rfl (ao ?_);refine G1 (m2.an e24 aj) (by have:=u7 hleg; unfold maxLen; omega) ?_;intro h5 m5 k5 z5;refine aY (cs:=[(false,[.int .i64])]) (((i+1:Nat):Int),()) (w.aP.length-(i+1)) rfl ae (by rw [wrap_i64 ae ae]; rfl) ?_;refine ⟨i+1,rfl,rfl,ae,Ch.trans (e2.trans e24) k5 (fun j hj hl=>by have hj:=OJ.1 hj; omega),?_,?_⟩
   ·rw [htk,OU,List.reverse_append];exact m5
   ·intro x hx;rw [htk] at hx;rcases OS.1 hx with hx | hx
    ·exact hin x hx
    ·rw [OJ.1 hx]; exact r2
 ·have r:=OF r;have hie:i=w.aP.length:=ae
  subst hie;rw [O8] at m2 hin;have hend:uj w=.ok ⟨w.text,w.data,w.bU,cQ (w.aP.map (·.1))⟩:=by
   unfold uj IW;rw [List.find?_eq_none.2 (fun x hx=>by rw [hin x hx]; simp)]
  obtain ⟨nn,D,mD,hD,hDl⟩:=m2;have hnd:=fZ.nodup mD;have hkeys:∀ s,s∈(vE eB D).map (·.1)↔s∈w.aP.map (·.1):=by
   intro s;have h1:gE D s=(if fT ((w.aP.map (·.1)).reverse) s=true then some true else none):=hD s;have hv1:(vE eB D).map (·.1)=D.map (·.1):=by unfold vE; rw [Ph]; rfl
   rw [hv1]
   by_cases hs:s∈w.aP.map (·.1)
   ·refine ⟨fun _=>hs,fun _=>?_⟩;rw [OH (qR.2 (List.mem_reverse.2 hs))] at h1;unfold gE at h1;obtain ⟨x,hx,_⟩:=Option.map_eq_some_iff.1 h1;have h3:=List.find?_some hx;have h4:=List.mem_of_find?_eq_some hx;rw [OE h3];exact PO h4
   ·refine ⟨fun hm=>?_,fun hm=>absurd hm hs⟩;have hnin:fT ((w.aP.map (·.1)).reverse) s=false:=by
     cases hh:fT ((w.aP.map (·.1)).reverse) s with
     | false=>rfl
     | true=>exact absurd (List.mem_reverse.1 (qR.1 hh)) hs
    rw [hnin] at h1;unfold gE at h1;simp only [Bool.false_eq_true,if_false,Option.map_eq_none_iff,List.find?_eq_none] at h1;obtain ⟨x,hx,hxs⟩:=Pa.1 hm;exact absurd (OK hxs.symm) (h1 x hx)
  have hks:=Cw hnd hkeys;have hDn:(vE eB D).length<=2^40:=by
   have h1:((vE eB D).map (·.1)).Perm (cQ (w.aP.map (·.1))):=(List.perm_ext_iff_of_nodup hnd ((sO _).imp fun h=>sU h)).2 fun s=>by rw [hkeys,nk]
   have h2:=h1.length_eq;rw [OI] at h2;have h3:=Ge (w.aP.map (·.1));rw [OI] at h3;omega
  refine af bv2 (some ⟨A,0,none⟩,()) rfl (ao ?_);refine aK (HS (some h.size) h2) ?_;rintro _ h3 ⟨rfl,rfl⟩;refine ⟨(Value.func (.func 68) #[] #[.pointer (some ⟨h2.size,0,none⟩)],()),rfl,ao ?_⟩;have e23:Ext h2 (h2.push (.cells #[.map (some h.size)] 70)):=Ext.push _ _;refine ⟨⟨(bv2.an e23 aj).cells _ rfl,trivial⟩,?_⟩;refine aK (DU mD hDn) ?_;rintro _ h4 ⟨ps,ls,cs,rfl,sS,e34⟩;refine ⟨((ps,ls,cs),()),rfl,ao ?_⟩;rw [hks,IZ] at sS;have e24:=e23.trans e34;have bv4:=bv2.an e24 aj;have a4:=a2.an e24 aj;refine ⟨⟨bv4.cells _ rfl,trivial⟩,?_⟩;refine au rfl ?_;rw [az];refine ap a4.box rfl (by simp [nb]) ?_;intro h5 b5 k5 z5;have b5:bf h5 A 73 [t.v,d.v,e'.v,.slice ps ls cs,.int .i64 (w.sec:Int),.int .i64 ((w.text.length+w.data.length:Nat):Int),.map (some g),q.v]:=b5;have bv5:=bv4.an k5 (by simp; exact nvA);refine af bv5 (some ⟨A,0,none⟩,()) rfl (ao ?_);refine au rfl ?_;refine af b5 ((t.p,t.l,t.c),(d.p,d.l,d.c),(e'.p,e'.l,e'.c),(ps,ls,cs),()) rfl (ao ?_);have bu5:=(bu2.an e24 aj).an k5 (by simp; omega);have be5:=(be2.an e24 aj).an k5 (by simp; omega);obtain ⟨y1,y2,y3,y4,rfl⟩:∃ y1 y2 y3 y4,xs=[y1,y2,y3,y4]:=by
   match xs,hxs with
   | [y1,y2,y3,y4],_=>exact ⟨y1,y2,y3,y4,rfl⟩
  refine ap bu5 rfl aj ?_;intro h6 b6 k6 z6;have b6:bf h6 u 27 [t.v,d.v,e'.v,.slice ps ls cs]:=b6;refine ap (be5.an k6 (by simp; omega)) rfl aj ?_;intro h7 b7 k7 z7;have b7:bf h7 e 29 [.nilIface]:=b7;have b67:=b6.an k7 (by simp; omega);refine af b67 ((t.p,t.l,t.c),(d.p,d.l,d.c),(e'.p,e'.l,e'.c),(ps,ls,cs),()) rfl (ao ?_);refine af b7 (Value.nilIface,()) rfl ?_;refine ⟨((((e2.trans e24).mono aj).trans k5 (fun j hj _=>by have hj:=OJ.1 hj; simp [hj])).trans k6 (fun j hj _=>by have hj:=OJ.1 hj; simp [hj])).trans k7 (fun j hj _=>by have hj:=OJ.1 hj; simp [hj]),t,d,e',⟨ps,ls,cs⟩,_,rfl,?_,?_,b67,b7⟩
  ·rw [hend];have C5:=a4.core.an k5 (fun j hj _ _=>by have hj:=OJ.1 hj; subst hj; have:=a4.oA; omega);have C7:=(C5.an k6 (fun j hj _ hbj=>by have hj:=OJ.1 hj; omega)).an k7 (fun j hj _ hbj=>by have hj:=OJ.1 hj; omega);have hsz2:h2.size<(h2.push (.cells #[.map (some h.size)] 70)).size:=aj
   refine ⟨ut,ud,ue,ow,C7,Sx.SL.mono (Sx.SL.bd (Sx.SL.bd (Sx.SL.bd sS k5 (fun j hj hm=>?_)) k6 (fun j hj hm=>?_)) k7 (fun j hj hm=>?_)) ae⟩
   ·have:=(Sx.SL.bH sS hj).1; have hm:=OJ.1 hm; have:=a.box.lt; omega
   ·have:=(Sx.SL.bH sS hj).1; have hm:=OJ.1 hm; omega
   ·have:=(Sx.SL.bH sS hj).1; have hm:=OJ.1 hm; omega
  ·rw [hend]; rfl
open Go.Proofs
def runN:eS->List (Nat × XA)->Except (Nat × Nat) eS
 | w,[]=>.ok w
 | w,x::l=>match eJ w x.1 x.2 with
  | .error e=>.error (x.1,e)
  | .ok w'=>runN w' l
theorem uA:∀ (a b:List (Nat × XA)) (w:eS),runN w (a++b)=match runN w a with
  | .error e=>.error e
  | .ok w'=>runN w' b
 | [],b,w=>rfl
 | x::a,b,w=>by
  simp only [List.cons_append,runN];cases eJ w x.1 x.2 with
  | error e=>rfl
  | ok w1=>exact uA a b w1
theorem BG:∀ (f n:Nat) (s:XA) (w:eS),runN w (Go.Proofs.bK f n s)=fV w n ((Go.Proofs.bK f n s).map (·.2))
 | 0,n,s,w=>rfl
 | f+1,n,s,w=>by
  unfold Go.Proofs.bK;split
  ·rfl
  ·simp only [List.map_cons,runN,fV];cases eJ w n (Bb s) with
   | error e=>rfl
   | ok w1=>exact BG f (n+1) (pU s) w1
def CM (src:XA):runN cZ (Go.Proofs.bK (src.size+1) 1 src)=fV cZ 1 (cK src):=by
 rw [BG,<- uL] <;> rfl
def IR {a l:List (Nat × XA)} {w:eS} {q:Nat × Nat} (h:a <+: l) (he:runN w a=.error q):runN w l=.error q:=by
 obtain ⟨t,rfl⟩:=h;rw [uA,he]
def J0 {src:XA} {x:Nat × XA} (h:x∈Go.Proofs.bK (src.size+1) 1 src):x.1<=src.size+1/\x.2.size<=src.size:=by
 obtain ⟨k,hk,rfl⟩:=PA h;have h1:=xE _ _ _ _ _ (OO hk);have h2:=Go.Proofs.nM (src.size+1) 1 src;refine ⟨ae,?_⟩;have h3:(Go.Proofs.bK (src.size+1) 1 src)[k].2∈DE src:=by
  unfold DE;exact PO h
 rw [uL] at h3;exact gO src _ h3
def sq (h:Hp) (i:Nat):Prop:=∃ c e f,h[i]?=some (.cells c e f)
def SL.sq {h:Hp} {b:Nat} {e:TypeId} {sz:Nat} {p:Option XC} {l c:Nat} {xs:List (List XB)} (s:SL h b e sz p l c xs) {i:Nat} (hi:i∈aE p):sq h i:=by
 cases p with
 | none=>simp [aE] at hi
 | some a =>
  obtain ⟨g,pre,rest,rfl,hbg,hlc,hbox,hr⟩:=s.2.2;simp [aE] at hi;subst hi;exact ⟨_,_,_,hbox⟩
section
variable {h h':Hp} {b A g:Nat} {w:eS} {t d e q:cH} {ut ud:List (cH × cd)} {ue:List (cH × pP)} {ow:Nat->Nat}
open Classical in
def ei.nine (a:ei h b A g w t d e q ut ud ue ow):∃ ow',ei h b A g w t d e q ut ud ue ow'/\(∀ i,ow i=9->ow' i=9)/\∀ i o,h[i]?=some o->o.isCells=false->i≠g->ow' i=9:=by
 obtain ⟨ow',how⟩:∃ ow':Nat->Nat,ow'=fun i=>if (∃ o,h[i]?=some o/\o.isCells=false)/\i≠g then 9 else ow i:=⟨_,rfl⟩
 have hc:∀ i,sq h i->ow' i=ow i:=by
  rintro i ⟨c,e,f,hi⟩;rw [how];refine OG ?_;rintro ⟨⟨o,ho,hn⟩,_⟩;rw [hi] at ho;cases ho;cases hn
 have C:=a.core;refine ⟨ow',⟨⟨C.t1,C.t2,C.t3,C.d1,C.d2,C.d3,C.e1,C.e2,C.e3,fun i hi=>(hc i (SL.sq C.t1 hi)).trans (C.o3 i hi),fun i hi=>(hc i (SL.sq C.d1 hi)).trans (C.o4 i hi),fun i hi=>(hc i (SL.sq C.e1 hi)).trans (C.o5 i hi),
  fun u hu i hi=>(hc i (SL.sq (C.t2 u hu) hi)).trans (C.ot u hu i hi),fun u hu i hi=>(hc i (SL.sq (C.d2 u hu) hi)).trans (C.od u hu i hi),fun u hu i hi=>(hc i (SL.sq (C.e2 u hu) hi)).trans (C.oe u hu i hi)⟩,
  a.box,a.names,a.aP,(hc A ⟨_,_,_,a.box⟩).trans a.oA,?_,fun i hi=>(hc i (SL.sq a.aP hi)).trans (a.oq i hi),a.bA,a.bg⟩,?_,?_⟩
 ·rw [how];exact (OG (fun x=>x.2 rfl)).trans a.og
 ·intro i hi;rw [how];simp only;split
  ·rfl
  ·exact hi
 ·intro i o ho hn hg;rw [how];exact OH ⟨⟨o,ho,hn⟩,hg⟩
def ei.grown {W W':World} {row:Option Nat} {v:Nat} (a:ei W.heap b A g w t d e q ut ud ue ow) (hv:ow v=9) (hg:W.grownBy W' row) (hr:∀ r,row=some r->g<r/\∃ o:Obj,W.heap[r]?=some o/\o.isCells=false) :
  ∃ ow',ei W'.heap b A g w t d e q ut ud ue ow'/\ow' v=9:=by
 obtain ⟨ow',a',h9,hn⟩:=a.nine;have k:Ch row.toList W.heap W'.heap:=⟨hg.size,fun i hi hw=>hg.block i hi (fun e=>hw (by rw [<- e]; simp))⟩
 refine ⟨ow',a'.an k (fun i hi hl _=>?_),h9 v hv⟩;have hrow:row=some i:=by simpa using hi
 obtain ⟨h1,o,h2,h3⟩:=hr i hrow;rw [hn i o h2 h3 ae];omega
end
end Go.Sx.Ob
