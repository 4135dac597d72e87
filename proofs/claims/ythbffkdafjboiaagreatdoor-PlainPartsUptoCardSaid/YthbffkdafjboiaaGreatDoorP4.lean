/- Contracts over heaps, part 4. Condition: as each statement says. -/
import Derived.Test.YthbffkdafjboiaaGreatDoorP3
import Derived.Test.YthbffkdafjboiaaGreatDoorBtG
set_option linter.all false
set_option maxRecDepth 100000
set_option maxHeartbeats 4000000
namespace Go.Sx.Lk
open Go.Proofs Go.Sx.Ob
def QV (lv:Nat) (a5 a25:Zx) (n6:Int):T :=
  T.ah a5 [.slice 117,.int .u32] <| fun (p40:ZC) (l41:Nat) (l42:Nat) (n43:Int) =>
  T.ah a25 [.slice 117,.int .u32] <| fun (p44:ZC) (l45:Nat) (l46:Nat) (n47:Int) =>
  bK 75 [.agg #[.slice p40 l41 l42,aH n43],.agg #[.slice p44 l45 l46,aH n47]] false [(true,[.slice 117,.int .u32])] <| fun (p48:ZC) (l49:Nat) (l50:Nat) (n51:Int) =>
  T.aE a5 [.slice p48 l49 l50,aH n51] <|
  T.again lv [.int .i64 (bt (n6+(1:Int)))]
def Fj {L:Lp} {K:ZB->Hp->Prop} {h:Hp} {lv g5 g25 l5 c5 l6 c6:Nat} {p5 p6:ZC} {n6:Int} {o y:cm} (b5:bH h g5 69 [.slice p5 l5 c5,.int .u32 o.num]) (b25:bH h g25 69 [.slice p6 l6 c6,.int .u32 y.num])
  (vo:gK h p5 l5 o.ai) (vy:gK h p6 l6 y.ai) (ho:∀ i,i∈aP p5->i<h.size) (hy:∀ i,i∈aP p6->i<h.size) (hl:o.ai.length+y.ai.length<=2^40)
  (hk:∀ p' l' c' h',Ch [g5] h h'->bH h' g5 69 [.slice p' l' c',.int .u32 (w7 o y).num]->SL h' h.size 117 2 p' l' c' ((w7 o y).ai.map dc)->T.again lv [.int .i64 (IntKind.wrap .i64 (n6+(1:Int)))] L K h') :
  QV lv ⟨g5,0,none⟩ ⟨g25,0,none⟩ n6 L K h:=by
 unfold QV bK bt aH;refine af b5 ((p5,l5,c5),(o.num:Int),()) rfl (ao ?_);refine af b25 ((p6,l6,c6),(y.num:Int),()) rfl (ao ?_);refine aK (Eb vo vy ho hy hl) ?_;rintro _ h1 ⟨e1,p',l',c',rfl,s1⟩;refine ⟨((p',l',c'),((w7 o y).num:Int),()),rfl,ao ?_⟩;refine aw (b5.an e1 aj) rfl aj ?_;intro h2 b2 k2 z2;have b2:bH h2 g5 69 [.slice p' l' c',.int .u32 ((w7 o y).num:Int)]:=b2;have hg:=b5.lt;exact hk p' l' c' h2 (Ch.trans (Ch.mono e1 aj) k2 (fun j hj hl=>hj)) b2 (s1.bM k2 (fun j hj=>by have:=(s1.cj hj).1; simp; omega))
def Um {h:Hp} {g:Nat} {s:ZA} {n:Nat} (b:bH h g 117 [.string s,.int .u32 n]):gK h (some ⟨g,0,none⟩) 1 [(s,n)] :=
 ⟨rfl,fun i hi=>by
  have:i=0:=by simpa using hi
  subst this;exact ⟨_,rfl,by rw [aG]; exact b.cells _ rfl⟩⟩
def A2 {es:List cI} {s:ZA} {k:Nat} (h:j8 es s=some k):∃ hk:k<es.length,cr es s=some es[k].x:=by
 have h0:=h;unfold j8 at h;rw [Xt] at h;obtain ⟨hk,_⟩:=h;refine ⟨hk,?_⟩;unfold cr ct de;rw [h0];simp [hk]
def Bg {es:List cI} {s:ZA} (h:j8 es s=none):cr es s=none:=by
 unfold cr ct;rw [h,W6 aj]
def EP {es:List cI} {s:ZA} {y:cm} (h:cr es s=some y):∃ e,e∈es/\y=e.x:=by
 cases hp:j8 es s with
 | none=>rw [Bg hp] at h; cases h
 | some k =>
  obtain ⟨hk,h1⟩:=A2 hp;rw [h1] at h;exact ⟨_,Xe hk,(Xo h).symm⟩
def HR {es:List cI} {x:cm} {S:List ZA} (hSx:∀ t,t∈x.ai->t.1∈S) (hSe:∀ e,e∈es->∀ t,t∈e.x.ai->t.1∈S):∀ t,t∈(db (cr es) x).ai->t.1∈S:=by
 intro t ht;obtain ⟨u,hu,h | ⟨y,w,hy,hw,he⟩⟩:=za ht
 ·rw [h.2]; exact hSx u hu
 ·obtain ⟨e,he',rfl⟩:=EP hy;rw [<- he]; exact hSe e he' w hw
def H8 {h:Hp} {p q:ZC} {l c m d:Nat} {x:cm} {es:List cI} (v:gK h p l x.ai) (u:tk h q m es) (hp:∀ i,i∈aP p->i<h.size) (hb:∀ e,e∈es->∀ i,i∈aP e.p->i<h.size)
  (hm:es.length<=2^40) (hx:Nf x.ai) (hn:x.num<4294967296) (hes:∀ e,e∈es->Nf e.x.ai) {S:List ZA} (hS:S.length<=2^30) (hSx:∀ t,t∈x.ai->t.1∈S) (hSe:∀ e,e∈es->∀ t,t∈e.x.ai->t.1∈S) :
  HC Tryz.prog 77 #[iA p l c x,.slice q m d] h fun w h'=>Ext h h'/\∃ p' l' c',w=iA p' l' c' (db (cr es) x)/\SL h' h.size 117 2 p' l' c' ((db (cr es) x).ai.map dc):=by
 refine bd (args:=[.agg #[.slice p l c,.int .u32 x.num],.slice q m d]) mixed Tryz.func77 az (ph p l c x.num q m d) ?_;unfold kr bf bh bG aQ cD bK bm aH bi aR;have hll:=v.len;have hmm:=u.len;have hof:∀ s y,cr es s=some y->Nf y.ai:=fun s y hy=>by
  obtain ⟨e,he,rfl⟩:=EP hy;exact hes e he
 have hlx:=zb hx hSx;refine bk ?_;intro h1 b1 e1 z1;refine bk ?_;intro h2 b2 e2 z2;have b1:=b1.an e2 aj;rw [aG];refine af b1 ((x.num:Int),()) rfl (ao ?_);refine bk ?_;intro h3 b3 e3 z3;refine aw b3 rfl aj ?_;intro h4 b4 k4 z4;have b4:bH h4 h2.size 69 [.slice none 0 0,.int .u32 (x.num:Int)]:=b4;have e24:Ext h2 h4:=Ch.trans e3 k4 (fun j hj hl=>by simp at hj; omega);have b1:=b1.an e24 aj;have b2:=b2.an e24 aj;have e04:=(e1.trans e2).trans e24;have hb4:=b4.lt;have hz04:=e04.size;refine aU (cs:=[(false,[.int .i64])]) (fun y w h'=>∃ (i:Nat) (q:ZC) (m d:Nat),y.1=(i:Int)/\i<=x.ai.length/\w=x.ai.length-i/\Ch [h2.size] h4 h'/\bH h' h2.size 69 [.slice q m d,.int .u32 (((x.ai.take i).foldl (fI (cr es)) ⟨[],x.num⟩).num:Int)] /\
  SL h' h4.size 117 2 q m d (((x.ai.take i).foldl (fI (cr es)) ⟨[],x.num⟩).ai.map dc)) ((0:Int),()) x.ai.length rfl ⟨0,none,0,0,rfl,ad,ad,Ch.refl _ _,b4,SL.nil _ _ _ _⟩ ?_
 rintro ⟨n8,⟨⟩⟩ w h5 ⟨i,q5,m5,d5,hi,hile,rfl,k5,b5,s5⟩;simp only at hi;subst hi;refine ao ?_;have b15:=b1.an k5 (by simp; omega);have hz5:=k5.size;have e05:Ext h h5:=Ch.trans e04 k5 (fun j hj hl=>by simp at hj; omega);have v5:=v.an e05 aj;have u5:=u.an e05;refine af b15 ((p,l,c),()) rfl (ao ?_);have hw:IntKind.wrap .i64 ((i:Int)+1)=((i+1:Nat):Int):=by rw [wrap_i64 ad ad]; omega
 have hacc:=AQ hof hx hn i;have hal:((x.ai.take i).foldl (fI (cr es)) ⟨[],x.num⟩).ai.length<=S.length:=by
  rw [hacc];exact zb (eM _ _) (HR (fun t ht=>hSx t (X9 ht)) hSe)
 refine ak (fun g1=>?_) (fun g1=>?_)
 ·have g1:=W2 g1;have hilt:i<x.ai.length:=ad
  have htk:(x.ai.take (i+1)).foldl (fI (cr es)) ⟨[],x.num⟩=fI (cr es) ((x.ai.take i).foldl (fI (cr es)) ⟨[],x.num⟩) x.ai[i]:=by
   rw [W7 hilt,XX] <;> rfl
  obtain ⟨a,rfl,hc⟩:=v5.cells i hilt;have htm:=Xe hilt;generalize x.ai[i]=t at hc htk htm;generalize hA:(x.ai.take i).foldl (fI (cr es)) ⟨[],x.num⟩=A at b5 s5 hal htk hacc;obtain ⟨c1,c2⟩:=cQ hc;have hab:=hp a.block (by simp [aP]);refine af b15 ((some a,l,c),()) rfl (ao ?_);refine ay ⟨ad,ad⟩ (ax rfl ?_);rw [show Int.toNat (i:Int)=i from ad];refine aC (t.1,()) c1 (ao ?_);refine jY (Ep u5 ad t.1) ?_;refine af b15 ((some a,l,c),()) rfl (ao ?_);refine ay ⟨ad,ad⟩ (ax rfl ?_);refine aC (t.1,(t.2:Int),()) hc (ao ?_);refine mH Gw sD ad ad (Gk _ _) ?_;intro h6 b6 e6 z6;refine bk ?_;intro h7 b7 e7 z7;refine aw b7 rfl aj ?_;intro h8 b8 k8 z8;have b8:bH h8 h6.size 69 [.slice (some ⟨h5.size,0,none⟩) 1 1,.int .u32 ((0:Nat):Int)]:=b8;have e58:Ext h5 h8:=Ch.trans (e6.trans e7) k8 (fun j hj hl=>by simp at hj; omega);have b68:=b6.an (Ch.trans e7 k8 (fun j hj hl=>by simp at hj; omega):Ext h6 h8) aj;have b58:=b5.an e58 aj;have b18:=b15.an e58 aj;have s8:=s5.bM e58 (fun j hj=>aj)
  have hback:∀ y:cm,Hb (cr es) t=y->∀ p' l' c' h',Ext h5 h8->∀ h9,Ch [h6.size] h8 h9->Ch [h2.size] h9 h'->bH h' h2.size 69 [.slice p' l' c',.int .u32 (w7 A y).num] ->
    SL h' h9.size 117 2 p' l' c' ((w7 A y).ai.map dc)->Ch [h2.size] h4 h'/\bH h' h2.size 69 [.slice p' l' c',.int .u32 (((x.ai.take (i+1)).foldl (fI (cr es)) ⟨[],x.num⟩).num:Int)] /\
     SL h' h4.size 117 2 p' l' c' (((x.ai.take (i+1)).foldl (fI (cr es)) ⟨[],x.num⟩).ai.map dc):=by
   intro y hy p' l' c' h' _ h9 e9 k9 b9 s9;rw [htk];unfold fI;rw [hy]
   have:=e58.size
   have:=e9.size
   exact ⟨Ch.trans (Ch.trans (Ch.trans k5 e58 aj) e9 (fun j hj hl=>by simp at hj; omega)) k9 (fun j hj _=>hj),b9,s9.mono ad⟩
  refine ak (fun g2=>?_) (fun g2=>?_)
  ·have g2:=W2 g2;cases hpl:j8 es t.1 with
   | none=>rw [hpl] at g2; exact absurd g2 (by unfold PM; decide)
   | some k =>
    obtain ⟨hk,hlo⟩:=A2 hpl;obtain ⟨ae,rfl,hce⟩:=(u5.an e58).cells k hk;have hem:=Xe hk;have vy:=(u5.an e58).fm _ hem;generalize es[k]=e at hce hem vy hlo;have hble:=hb e hem;have hyl:=zb (hes e hem) (hSe e hem);refine ay ⟨by show (0:Int)<=(k:Int); omega,by show (k:Int)<_; omega⟩ (ax rfl ?_);rw [show Int.toNat (PM (some k))=k from Int.toNat_natCast k];refine aC ((e.p,e.l,e.c),(e.x.num:Int),()) ⟨by rw [add_add]; exact hce.2.1,by rw [add_add]; exact hce.2.2.1,trivial⟩ ?_;refine ao ?_;refine af b18 ((some a,l,c),()) rfl (ao ?_);refine ay ⟨ad,ad⟩ (ax rfl ?_);refine aC ((t.2:Int),()) (aX e58 aj _ _ c2) (ao ?_)
    have:=e58.size
    refine aK (Gy vy ad (fun j hj=>by have:=hble j hj; omega) t.2) ?_;rintro _ h9 ⟨e9,p9,l9,c9,rfl,s9⟩;refine ⟨((p9,l9,c9),((B1 e.x t.2).num:Int),()),rfl,ao ?_⟩;refine ⟨⟨(b18.an e9 aj).cells _ rfl,trivial⟩,?_⟩;refine aw (b8.an e9 aj) rfl aj ?_;intro h10 b10 k10 z10;have b10:bH h10 h6.size 69 [.slice p9 l9 c9,.int .u32 ((B1 e.x t.2).num:Int)]:=b10;have k810:Ch [h6.size] h8 h10:=Ch.trans (Ch.mono e9 aj) k10 (fun j hj hl=>hj);have e510:Ext h5 h10:=Ch.trans e58 k810 (fun j hj hl=>by simp at hj; omega);refine Fj (lv:=0) (o:=A) (y:=B1 e.x t.2) (b5.an e510 aj) b10 (s5.bM e510 (fun j hj=>aj)).QD (s9.bM k10 (fun j hj=>by have:=(s9.cj hj).1; simp; omega)).QD
     (fun j hj=>by have:=(s5.cj hj).2; have:=e510.size; omega) (fun j hj=>by have:=(s9.cj hj).2; omega) (by have:=AB t.2 e.x.ai; show A.ai.length+(ff t.2 e.x.ai).length<=_; omega) ?_
    intro p' l' c' h11 k11 b11 s11;obtain ⟨r1,r2,r3⟩:=hback (B1 e.x t.2) (by unfold Hb; rw [hlo]) p' l' c' h11 e58 h10 k810 k11 b11 s11;exact aI (cs:=[(false,[.int .i64])]) (((i+1:Nat):Int),()) (x.ai.length-(i+1)) rfl ad (Xj (fun z=>[Value.int .i64 z]) hw) ⟨i+1,p',l',c',rfl,ad,rfl,r1,r2,r3⟩
  ·have g2:=W4 g2;have hpl:j8 es t.1=none:=by
    cases hpl:j8 es t.1 with
    | none=>rfl
    | some k=>rw [hpl] at g2; exact absurd (show (0:Int)<=((k:Nat):Int) from ad) g2
   refine Fj (lv:=0) (o:=A) (y:=⟨[t],0⟩) b58 b8 s8.QD (Um b68) (fun j hj=>by have:=(s5.cj hj).2; have:=e58.size; omega) (fun j hj=>by simp [aP] at hj; have:=e58.size; have:=b68.lt; omega) (by show A.ai.length+1<=_; omega) ?_;intro p' l' c' h11 k11 b11 s11;obtain ⟨r1,r2,r3⟩:=hback ⟨[t],0⟩ (by unfold Hb; rw [Bg hpl]) p' l' c' h11 e58 h8 ((Ch.refl [h6.size] h8)) k11 b11 s11;exact aI (cs:=[(false,[.int .i64])]) (((i+1:Nat):Int),()) (x.ai.length-(i+1)) rfl ad (Xj (fun z=>[Value.int .i64 z]) hw) ⟨i+1,p',l',c',rfl,ad,rfl,r1,r2,r3⟩
 ·have g1:=W4 g1;have hi:i=x.ai.length:=ad
  subst hi;rw [XB,C9 hof hx hn] at b5 s5;refine af b5 ((q5,m5,d5),((db (cr es) x).num:Int),()) rfl (ao ?_);refine aw (b2.an k5 (by simp; omega)) rfl aj ?_;intro h7 b7 k7 z7;have b7:bH h7 h1.size 69 [.slice q5 m5 d5,.int .u32 ((db (cr es) x).num:Int)]:=b7;refine af b7 ((q5,m5,d5),((db (cr es) x).num:Int),()) rfl ?_;exact ⟨Ch.trans e05 k7 (fun j hj hl=>by simp at hj; omega),q5,m5,d5,rfl,(s5.bM k7 (fun j hj=>by have:=(s5.cj hj).1; simp; omega)).mono ad⟩
def tW {es:List cI} {s:ZA} {j:Nat} (h:j8 es s=some j):∃ e,es[j]?=some e/\e.name=s:=by
 unfold j8 at h;rw [Xt] at h;obtain ⟨hj,h1,_⟩:=h;exact ⟨es[j],W5 hj,by simpa using h1⟩
def Qe {es:List cI} (hn:(aZ es).Nodup) {i j:Nat} {d e:cI} (hi:es[i]?=some d) (hj:es[j]?=some e) (h:d.name=e.name):i=j:=by
 obtain ⟨h1,rfl⟩:=Xn.1 hi;obtain ⟨h2,rfl⟩:=Xn.1 hj;refine (List.getElem_inj (h₀:=by unfold aZ; rw [W3]; exact h1) (h₁:=by unfold aZ; rw [W3]; exact h2) hn).1 ?_;unfold aZ;rw [Xc,Xc];exact h
def Iq {es:List cI} (hn:(aZ es).Nodup) {k j:Nat} {e:cI} (he:es[k]?=some e) {t:ZA × Nat} (ht:t∈e.x.ai) (hp:j8 es t.1=some j):∃ d,es[j]?=some d/\dl es e.name d.name:=by
 obtain ⟨d,hd,hdn⟩:=tW hp;refine ⟨d,hd,?_,?_⟩
 ·rw [kN,py hn (XU he)];exact ⟨t,ht,hdn.symm⟩
 ·unfold ct;rw [hdn,hp] <;> rfl
def PE {es:List cI} (hn:(aZ es).Nodup) {k:Nat} {e:cI} (he:es[k]?=some e) {z:ZA} (h:dl es e.name z):∃ t,t∈e.x.ai/\∃ j d,j8 es t.1=some j/\es[j]?=some d/\d.name=z:=by
 obtain ⟨h1,h2⟩:=h;rw [kN,py hn (XU he)] at h1;obtain ⟨t,ht,rfl⟩:=h1;unfold ct at h2;obtain ⟨j,hj⟩:=X0.1 h2;obtain ⟨d,hd,hdn⟩:=tW hj;exact ⟨t,ht,j,d,hj,hd,hdn⟩
structure oP (es:List cI) (i0:Nat) (a:ZA) (kc i:Nat) (W:List Nat) (sn:List Bool):Prop where
 len:sn.length=es.length
 Rn:∀ w,w∈W->∃ e,es[w]?=some e/\oZ (dl es) a e.name
 src:sn[i0]?≠some true
 cl:∀ k e,es[k]?=some e->(k=i0\/sn[k]?=some true)->k∉W->∀ m t,e.x.ai[m]?=some t->(k=kc->m<i)->∀ j,j8 es t.1=some j->j≠i0/\sn[j]?=some true
variable {es:List cI} {i0 kc i:Nat} {a:ZA} {W:List Nat} {sn:List Bool}
def oP.start {e:cI} (he:es[i0]?=some e) (ha:e.name=a):oP es i0 a es.length 0 [i0] (List.replicate es.length false):=by
 have hf:∀ k:Nat,(List.replicate es.length false)[k]?≠some true:=by
  intro k h
  have:=XU h
  rw [List.mem_replicate] at this;cases this.2
 refine ⟨aj,fun w hw=>?_,hf i0,fun k e he h hk=>?_⟩
 ·rw [Xm] at hw;subst hw;exact ⟨e,he,by rw [ha]; exact .refl _⟩
 ·rcases h with h | h
  ·subst h; simp at hk
  ·exact absurd h (hf k)
def oP.pop (s:oP es i0 a es.length 0 (W++[kc]) sn):oP es i0 a kc 0 W sn/\∃ e,es[kc]?=some e/\oZ (dl es) a e.name:=by
 refine ⟨⟨s.len,fun w hw=>s.Rn w (by simp [hw]),s.src,fun k e he h hk m t ht hm j hj=>?_⟩,s.Rn kc aj⟩
 by_cases hkk:k=kc
 ·exact absurd (hm hkk) ad
 ·refine s.cl k e he h (by simp [hk,hkk]) m t ht (fun hh=>?_) j hj;obtain ⟨hl,_⟩:=Xn.1 he;omega
def oP.skip (s:oP es i0 a kc i W sn) {e:cI} (he:es[kc]?=some e) {t:ZA × Nat} (ht:e.x.ai[i]?=some t) (h:∀ j,j8 es t.1=some j->j≠i0/\sn[j]?=some true):oP es i0 a kc (i+1) W sn:=by
 refine ⟨s.len,s.Rn,s.src,fun k d hd hh hk m u hu hm j hj=>?_⟩
 by_cases hc:k=kc/\m=i
 ·obtain ⟨rfl,rfl⟩:=hc;rw [he] at hd;cases hd;rw [ht] at hu;cases hu;exact h j hj
 ·refine s.cl k d hd hh hk m u hu (fun hkk=>?_) j hj
  have:=hm hkk
  have:m≠i:=fun hmi=>hc ⟨hkk,hmi⟩
  omega
def oP.push (s:oP es i0 a kc i W sn) (hn:(aZ es).Nodup) {e:cI} (he:es[kc]?=some e) (hr:oZ (dl es) a e.name) {t:ZA × Nat} (ht:e.x.ai[i]?=some t) {j:Nat} (hj:j8 es t.1=some j) (h0:j≠i0) :
  oP es i0 a kc (i+1) (W++[j]) (sn.set j true):=by
 obtain ⟨d,hd,hed⟩:=Iq hn he (XU ht) hj;obtain ⟨hjl,_⟩:=Xn.1 hd;have hjs:(sn.set j true)[j]?=some true:=by rw [YH (by rw [s.len]; exact hjl)]
 have hup:∀ x:Nat,sn[x]?=some true->(sn.set j true)[x]?=some true:=by
  intro x hx
  by_cases hxj:j=x
  ·subst hxj; exact hjs
  ·rw [Yq hxj]; exact hx
 refine ⟨by rw [X8]; exact s.len,fun w hw=>?_,by rw [Yq h0]; exact s.src,fun k f hf hh hk m u hu hm j' hj'=>?_⟩
 ·rw [Xl,Xm] at hw;rcases hw with hw | rfl
  ·exact s.Rn w hw
  ·exact ⟨d,hd,hr.trans (.one hed)⟩
 ·rw [Xl,Xm] at hk;have hkj:j≠k:=fun e=>hk (Or.inr e.symm)
  rw [Yq hkj] at hh
  by_cases hc:k=kc/\m=i
  ·obtain ⟨rfl,rfl⟩:=hc;rw [he] at hf;cases hf;rw [ht] at hu;cases hu;rw [hj] at hj';cases hj';exact ⟨h0,hjs⟩
  ·obtain ⟨h1,h2⟩:=s.cl k f hf hh (fun hx=>hk (Or.inl hx)) m u hu (fun hkk=>by
    have:=hm hkk
    have:m≠i:=fun hmi=>hc ⟨hkk,hmi⟩
    omega) j' hj'
   exact ⟨h1,hup _ h2⟩
def oP.done (s:oP es i0 a kc i W sn) {e:cI} (he:es[kc]?=some e) (hi:e.x.ai.length<=i):oP es i0 a es.length 0 W sn:=by
 refine ⟨s.len,s.Rn,s.src,fun k d hd hh hk m u hu hm j hj=>s.cl k d hd hh hk m u hu (fun hkk=>?_) j hj⟩;subst hkk;rw [he] at hd;cases hd;obtain ⟨hl,_⟩:=Xn.1 hu;omega
def oP.no (s:oP es i0 a es.length 0 [] sn) (hn:(aZ es).Nodup) {e:cI} (he:es[i0]?=some e) (ha:e.name=a):¬ j6 (dl es) a:=by
 have hcl:∀ k e,es[k]?=some e->(k=i0\/sn[k]?=some true)->∀ z,dl es e.name z->∃ j d,es[j]?=some d/\d.name=z/\j≠i0/\sn[j]?=some true:=by
  intro k e he h z hz;obtain ⟨t,ht,j,d,hj,hd,hdz⟩:=PE hn he hz;obtain ⟨m,hm⟩:=List.getElem?_of_mem ht;obtain ⟨hkl,_⟩:=Xn.1 he;obtain ⟨h1,h2⟩:=s.cl k e he h aj m t hm (fun hh=>ad) j hj;exact ⟨j,d,hd,hdz,h1,h2⟩
 have key:∀ y z,oZ (dl es) y z->z=a->(∃ j d,es[j]?=some d/\d.name=y/\j≠i0/\sn[j]?=some true)->False:=by
  intro y z r
  induction r with
  | refl y =>
   rintro rfl ⟨j,d,hd,hdn,h1,_⟩;exact h1 (Qe hn hd he (hdn.trans ha.symm))
  | head hE r ih =>
   rintro rfl ⟨j,d,hd,rfl,h1,h2⟩;exact ih rfl (hcl j d hd (Or.inr h2) _ hE)
 rintro ⟨y,hy,r⟩;rw [<- ha] at hy;exact key y a r rfl (hcl i0 e he (Or.inl rfl) y hy)
def PH (hn:(aZ es).Nodup) {e:cI} (he:es[kc]?=some e) (hr:oZ (dl es) a e.name) {t:ZA × Nat} (ht:t∈e.x.ai) {d:cI} (hd:es[i0]?=some d) (ha:d.name=a) (hj:j8 es t.1=some i0):j6 (dl es) a:=by
 obtain ⟨d',hd',hed⟩:=Iq hn he ht hj;rw [hd] at hd';cases hd';rw [ha] at hed;cases hr with
 | refl _=>exact ⟨_,hed,.refl _⟩
 | head h1 h2=>exact ⟨_,h1,h2.trans (.one hed)⟩
def Sl:Tryz.prog.underlying 223=some (.slice 4):=az
def Vb:(Tryz.prog.info? 4).map (fun i=>(i.zero,i.size,i.bytes))=some (some (.bool false),1,1):=az
def Cz:Tryz.prog.underlying 31=some (.slice 3):=az
def P':(Tryz.prog.info? 3).map (fun i=>(i.zero,i.size,i.bytes))=some (some (.int .i64 0),1,8):=az
def QW (b:Bool):List ZB:=[.bool b]
def Ke (n:Nat):List ZB:=[.int .i64 (n:Int)]
def Mt {α:Type} (f:α->ZB) (l:List α):(l.map fun x=>[f x]).flatten=l.map f:=by
 induction l with
 | nil=>rfl
 | cons a l ih=>rw [XH,YF,ih]; rfl
def U9 {h:Hp} {g:Nat} {e:TypeId} {sz:Nat} {cells:List ZB} (xs:List (List ZB)) (b:bH h g e cells) (hc:cells=xs.flatten) (hl:∀ x,x∈xs->x.length=sz) (hn:xs.length<9223372036854775808):SL h g e sz (some ⟨g,0,none⟩) xs.length xs.length xs:=by
 subst hc;exact ⟨rfl,hl,g,[],[],rfl,Xk _,⟨Xk _,hn⟩,by simpa using b,aj⟩
def Dd (n:Int):Instr.fill (fun j=>some (j*1,1)) ((Array.range (1*1)).map ((Value.int .i64 0).cells[· % (Value.int .i64 0).cells.size]!)) [(0,.int .i64 n)]=some ([.int .i64 n]:List ZB).toArray:=az
def LU {L:Lp} {K:ZB->Hp->Prop} {h:Hp} {n:Nat} (hn:n<=2^40) {k:ZC->Nat->Nat->T} (hk:∀ h',SL h' h.size 4 1 (some ⟨h.size,0,none⟩) n n ((List.replicate n false).map QW)->Ext h h'->h'.size=h.size+1->k (some ⟨h.size,0,none⟩) n n L K h') :
  T.ek Tryz.prog (Instr.makeSlice 223 (.int .i64 (n:Int)) (.int .i64 (n:Int))) false [(false,[.slice 0])] k L K h:=by
 obtain ⟨i5,hi5,hz5,hs5,hb5⟩:=ou Vb;refine dt (pf (l:=n) (c:=n) Sl hi5 hz5 (Xk _) (by rw [hb5]; omega) ad ?_);intro h14 b14 e14 z14;refine ⟨_,_,_,rfl,hk h14 ?_ e14 z14⟩;have hc:(List.range (n*i5.size)).map ((Value.bool false).cells[· % (Value.bool false).cells.size]!)=((List.replicate n false).map QW).flatten:=by
  rw [hs5,Nat.mul_one];show _=((List.replicate n false).map fun b=>[Value.bool b]).flatten;rw [Mt];apply Zc
  ·simp
  ·intro i h1 h2;rw [Xc,Xc,List.getElem_replicate];show (#[Value.bool false]:Array ZB)[((List.range n)[i]'(by simpa using h1)) % 1]! = _;rw [Nat.mod_one] <;> rfl
 have:=U9 ((List.replicate n false).map QW) b14 hc (fun x hx=>by obtain ⟨b,_,rfl⟩:=Xd.1 hx; rfl) (by simp; omega)
 rw [W3,List.length_replicate] at this;exact this
def nF (sn:List Bool):Nat:=sn.count false
theorem Mg:∀ (sn:List Bool) (j:Nat),sn[j]?=some false->nF (sn.set j true)+1=nF sn
 | [],j,h=>by simp at h
 | b::l,0,h=>by
  simp at h;subst h;simp [nF]
 | b::l,j+1,h=>by
  have ih:=Mg l j (by simpa using h);unfold nF at ih ⊢;rw [List.set_cons_succ,List.count_cons,List.count_cons];omega
def Ow (sn:List Bool) (j:Nat):(sn.map QW).set j [.bool true]=(sn.set j true).map QW:=by rw [Y0]; rfl
def KG (p:ZC) (c:Nat):(if c=0 then p else Option.map (fun a=>Addr.add a 0) p)=p:=by
 split
 ·rfl
 ·cases p with
  | none=>rfl
  | some a=>show some (a.add 0)=some a; rw [add_zero']
open Classical in
def OW {h:Hp} {p:ZC} {l c:Nat} {es:List cI} (v:tk h p l es) (hn:(aZ es).Nodup) (hl:es.length<=2^40) (ht:∀ e,e∈es->e.x.ai.length<=2^40) {i0:Nat} {e0:cI} (he0:es[i0]?=some e0) :
  HC Tryz.prog 100 #[.slice p l c,.int .i64 (i0:Int),.int .i64 (i0:Int)] h fun w h'=>Ext h h'/\w=.bool (decide (j6 (dl es) e0.name)):=by
 refine bd (args:=[.slice p l c,.int .i64 (i0:Int),.int .i64 (i0:Int)]) mixed Tryz.func100 az (oU p l c i0 i0) ?_;unfold kB bf bh bG aQ cD bm bt bC dL aR cg dh;obtain rfl:=v.len;obtain ⟨hi0,_⟩:=Xn.1 he0;refine LU hl ?_;intro h1 sB1 e1 z1;refine mH Cz P' ad ad (Dd _) ?_;intro h2 b2 e2 z2;have sW2:SL h2 h1.size 3 1 (some ⟨h1.size,0,none⟩) 1 1 ([i0].map Ke):=U9 [[.int .i64 (i0:Int)]] b2 rfl aj aj;have sB2:=sB1.bM e2 aj;have e02:=e1.trans e2;refine aU (cs:=[(false,[.bool]),(false,[.slice 0])]) (fun y m h'=>∃ (W:List Nat) (sn:List Bool),m=nF sn+W.length/\m<=es.length+1/\Ext h h'/\h1.size<=h'.size/\SL h' h.size 4 1 (some ⟨h.size,0,none⟩) es.length es.length (sn.map QW)/\SL h' h1.size 3 1 y.2.1.1 y.2.1.2.1 y.2.1.2.2 (W.map Ke)/\oP es i0 e0.name es.length 0 W sn)
  (false,(some ⟨h1.size,0,none⟩,1,1),()) _ rfl ⟨[i0],List.replicate es.length false,rfl,by simp [nF],e02,ad,sB2,sW2,oP.start he0 rfl⟩ ?_
 rintro ⟨b9,⟨p10,l11,l12⟩,⟨⟩⟩ m h3 ⟨W,sn,rfl,hM,e3,z3,sB3,sW3,I3⟩;simp only at sW3;refine ao ?_;have hlW:l11=W.length:=by have:=sW3.1; rwa [W3] at this
 have hWn:∀ w,w∈W->w<es.length:=fun w hw=>by
  obtain ⟨e,he,_⟩:=I3.Rn w hw;exact (Xn.1 he).1
 refine ak (fun g1=>?_) (fun g1=>?_)
 ·have g1:=W2 g1;rcases List.eq_nil_or_concat W with rfl | ⟨W0,kc,rfl⟩
  ·simp at hlW; omega
  ·rw [List.concat_eq_append] at hlW sW3 I3 hWn hM;have hM':nF sn+(W0.length+1)<=es.length+1:=by simpa using hM
   have hlW:l11=W0.length+1:=by simpa using hlW
   subst hlW;obtain ⟨I4,e,he,hr⟩:=I3.pop;have hkc:=(Xn.1 he).1;have hem:=XU he;have hw1:IntKind.wrap .i64 (((W0.length+1:Nat):Int)-1)=(W0.length:Int):=by rw [wrap_i64 ad ad]; omega
   obtain ⟨a,rfl,hc⟩:=SL.cells sW3 (i:=W0.length) aj;have hc:aJ h3 (a.add (W0.length*1)) 0 [.int .i64 (kc:Int)]:=by simpa [Ke] using hc
   rw [hw1,show Int.toNat (W0.length:Int)=W0.length from ad];refine ay ⟨ad,ad⟩ (ax rfl ?_);refine aC ((kc:Int),()) hc (ao ?_);have hcap:W0.length+1<=l12:=by
    obtain ⟨g,pre,rest,_,_,hlc,_⟩:=sW3.2.2;exact hlc.1
   refine ay ⟨ad,ad,ad⟩ ?_;rw [KG,Zk,Zk];have sW4:=SL.take sW3 (k:=W0.length) ad;rw [<- List.map_take,YW] at sW4;have hte:=ht e hem;refine aU (cs:=[(false,[.bool]),(false,[.slice 0]),(false,[.int .i64])]) (fun y m h'=>∃ (W:List Nat) (sn':List Bool) (i:Nat),y.2.2.1=(i:Int)/\i<=e.x.ai.length/\m=e.x.ai.length-i/\nF sn'+W.length+1=nF sn+(W0.length+1)/\Ext h h'/\h1.size<=h'.size /\
    SL h' h.size 4 1 (some ⟨h.size,0,none⟩) es.length es.length (sn'.map QW)/\SL h' h1.size 3 1 y.2.1.1 y.2.1.2.1 y.2.1.2.2 (W.map Ke)/\oP es i0 e0.name kc i W sn')
    (b9,(some a,W0.length,l12),(0:Int),()) _ rfl ⟨W0,sn,0,rfl,ad,rfl,ad,e3,z3,sB3,sW4,I4⟩ ?_
   rintro ⟨b15,⟨p16,l17,c18⟩,n19,⟨⟩⟩ m5 h5 ⟨W,sn',i,hi,hile,rfl,hMM,e5,z5,sB5,sW5,I5⟩;simp only at hi sW5;subst hi;refine ao ?_;have hl17:l17=W.length:=by have:=sW5.1; rwa [W3] at this
   subst hl17;have v5:=v.an e5;obtain ⟨ae,rfl,hce⟩:=v5.cells kc hkc;have hek:es[kc]=e:=(Xn.1 he).2;rw [hek] at hce;have vt:=v5.fm e hem;have hll:=vt.len;have hw:IntKind.wrap .i64 ((i:Int)+1)=((i+1:Nat):Int):=by rw [wrap_i64 ad ad]; omega
   have hsl:aJ h5 ((ae.add (kc*3)).add 1) 0 [.slice e.p e.l e.c]:=⟨by rw [add_add]; exact hce.2.1,trivial⟩
   refine ay ⟨ad,ad⟩ (ax rfl ?_);rw [show Int.toNat (kc:Int)=kc from ad];refine aC ((e.p,e.l,e.c),()) hsl (ao ?_);refine ak (fun g2=>?_) (fun g2=>?_)
   ·have g2:=W2 g2;have hil:i<e.x.ai.length:=ad
    refine ay ⟨ad,ad⟩ (ax rfl ?_);refine aC ((e.p,e.l,e.c),()) hsl (ao ?_);obtain ⟨at',hp',hct⟩:=vt.cells i hil;have hti:e.x.ai[i]?=some e.x.ai[i]:=W5 hil;have htm:=Xe hil;generalize e.x.ai[i]=t at hct hti htm;refine ay ⟨ad,ad⟩ (ax hp' ?_);rw [show Int.toNat (i:Int)=i from ad];refine aC (t.1,()) ⟨hct.1,trivial⟩ (ao ?_);refine jY (Ep v5 ad t.1) ?_;refine ak (fun g3=>?_) (fun g3=>?_)
    ·have g3:PM (j8 es t.1)=(i0:Int):=by simpa using g3
     have hj:j8 es t.1=some i0:=by
      cases hq:j8 es t.1 with
      | none=>rw [hq] at g3; exact absurd g3 (by show ¬ ((-1:Int)=_); omega)
      | some j =>
       rw [hq] at g3
       have:(j:Int)=i0:=g3
       rw [show j=i0 from ad]
     refine ⟨e5,?_⟩;rw [W9 (PH hn he hr htm he0 rfl hj)]
    ·have g3:¬ PM (j8 es t.1)=(i0:Int):=by simpa using g3
     cases hq:j8 es t.1 with
     | none =>
      refine bJ (by show decide ((-1:Int)>=0)=false; decide) ?_;refine aI (cs:=[(false,[.bool]),(false,[.slice 0]),(false,[.int .i64])]) (b15,(p16,W.length,c18),((i+1:Nat):Int),()) (e.x.ai.length-(i+1)) rfl ad (Xj (fun z=>[Value.bool b15,.slice p16 W.length c18,Value.int .i64 z]) hw)
       ⟨W,sn',i+1,rfl,ad,rfl,hMM,e5,z5,sB5,sW5,I5.skip he hti (fun j hj=>by rw [hq] at hj; cases hj)⟩
     | some j =>
      rw [hq] at g3;have hj0:j≠i0:=fun hh=>g3 (by rw [hh]; rfl)
      obtain ⟨d,hd,_⟩:=tW hq;have hjl:=(Xn.1 hd).1;refine bn (W9 (show (0:Int)<=((j:Nat):Int) from ad)) ?_;have hjs:j<sn'.length:=by rw [I5.len]; exact hjl
      obtain ⟨ab,hab,hcb⟩:=SL.cells sB5 (i:=j) (by rw [W3]; exact hjs);rw [Xc] at hcb;refine ay ⟨by show (0:Int)<=(j:Int); omega,by show (j:Int)<_; omega⟩ (ax hab ?_);rw [show Int.toNat (PM (some j))=j from Int.toNat_natCast j];refine aC (sn'[j],()) hcb (ao ?_);have hjg:sn'[j]?=some sn'[j]:=W5 hjs;cases hb:sn'[j] with
      | true =>
       rw [hb] at hjg;refine bJ rfl ?_;refine aI (cs:=[(false,[.bool]),(false,[.slice 0]),(false,[.int .i64])]) (b15,(p16,W.length,c18),((i+1:Nat):Int),()) (e.x.ai.length-(i+1)) rfl ad (Xj (fun z=>[Value.bool b15,.slice p16 W.length c18,Value.int .i64 z]) hw)
        ⟨W,sn',i+1,rfl,ad,rfl,hMM,e5,z5,sB5,sW5,I5.skip he hti (fun j' hj=>by rw [hq] at hj; cases hj; exact ⟨hj0,hjg⟩)⟩
      | false =>
       rw [hb] at hjg;refine bn rfl ?_;refine ay ⟨by show (0:Int)<=(j:Int); omega,by show (j:Int)<_; omega⟩ (ax hab ?_);refine SL.store (P:=Tryz.prog) sB5 (i:=j) (by rw [W3]; exact hjs) (vs:=[.bool true]) rfl rfl hab ?_;intro h6 sB6 k6 z6;rw [Ow] at sB6;have hbb:∀ q,q∈aP (some (⟨h.size,0,none⟩:Zx))->q=h.size:=fun q hq=>by simpa [aP] using hq
       have sW6:=sW5.bM k6 (fun q hq hm=>by have:=(sW5.cj hq).1; have:=hbb q hm; omega);have e6:Ext h h6:=Ch.trans e5 k6 (fun q hq hl=>by have:=hbb q hq; omega);refine mi (vs:=Ke j) Cz P' rfl ad ad (Dd _) rfl rfl sW6 ad ad ad ?_;intro p' c' h7 sW7 k7 hp7;have e7:Ext h h7:=Ch.trans e6 k7 (fun q hq hl=>by have:=(sW6.cj hq).1; omega);have sB7:=sB6.bM k7 (fun q hq hm=>by have:=hbb q hq; have:=(sW6.cj hm).1; omega);have hnf:=Mg sn' j hjg;refine aI (cs:=[(false,[.bool]),(false,[.slice 0]),(false,[.int .i64])]) (b15,(p',W.length+1,c'),((i+1:Nat):Int),()) (e.x.ai.length-(i+1)) rfl ad (Xj (fun z=>[Value.bool b15,.slice p' (W.length+1) c',Value.int .i64 z]) hw)
        ⟨W++[j],sn'.set j true,i+1,rfl,ad,rfl,by rw [W8]; show nF (sn'.set j true)+(W.length+1)+1=_; omega,e7,by have:=k7.size; omega,sB7,by rw [Xf]; exact sW7,I5.push hn he hr hti hq hj0⟩
   ·have g2:=W4 g2;refine aI (cs:=[(false,[.bool]),(false,[.slice 0])]) (b15,(p16,W.length,c18),()) (nF sn'+W.length) rfl (by rw [List.concat_eq_append,W8]; show nF sn'+W.length<nF sn+(W0.length+1); omega) rfl ⟨W,sn',rfl,ad,e5,z5,sB5,sW5,I5.done he ad⟩
 ·have g1:=W4 g1;have hW:W=[]:=YG.1 ad;subst hW;refine ⟨e3,?_⟩;rw [Xa (I3.no hn he0 rfl)]
noncomputable def SP (es:List cI) (i:Nat):Bool:=by
 classical
 exact decide (∃ e,es[i]?=some e/\j6 (dl es) e.name)
def B0 {es:List cI} {i:Nat} {e:cI} (he:es[i]?=some e) {d:Decidable (j6 (dl es) e.name)}:decide (j6 (dl es) e.name)=SP es i:=by
 unfold SP;refine Y8.2 ⟨fun h=>⟨e,he,h⟩,?_⟩;rintro ⟨e',he',h⟩;rw [he] at he';cases he';exact h
noncomputable def lp (es:List cI) (n:Nat):List Nat:=(List.range n).filter (SP es)
def F4 (es:List cI) (i:Nat):lp es (i+1)=lp es i++if SP es i=true then [i] else []:=by
 unfold lp;rw [List.range_succ,List.filter_append]
 congr 1
 by_cases h:SP es i=true <;> simp [h]
def IW (es:List cI) (i:Nat):(lp es i).length<=i:=by
 unfold lp
 have:=Yo (SP es) (List.range i)
 simpa using this
def M4 {h:Hp} {p:ZC} {l c:Nat} {es:List cI} (v:tk h p l es) (hn:(aZ es).Nodup) (hl:es.length<=2^40) (ht:∀ e,e∈es->e.x.ai.length<=2^40) :
  HC Tryz.prog 76 #[.slice p l c] h fun w h'=>Ext h h'/\∃ p' l' c',w=.slice p' l' c'/\SL h' h.size 3 1 p' l' c' ((lp es es.length).map Ke):=by
 refine bd (args:=[.slice p l c]) mixed Tryz.func76 az (oo p l c) ?_;unfold jV bh bG aT bm bi aR dh;have hll:=v.len;refine aU (cs:=[(false,[.slice 0]),(false,[.int .i64])]) (fun y m h'=>∃ i:Nat,y.2.1=(i:Int)/\m=es.length-i/\i<=es.length/\Ext h h'/\SL h' h.size 3 1 y.1.1 y.1.2.1 y.1.2.2 ((lp es i).map Ke)) ((none,0,0),(0:Int),()) es.length rfl
  ⟨0,rfl,rfl,ad,Ch.refl _ _,SL.nil _ _ _ _⟩ ?_
 rintro ⟨⟨p1,l1,c1⟩,n4,⟨⟩⟩ m h1 ⟨i,hi,rfl,hle,e1,s1⟩;simp only at hi s1;subst hi;refine ao ?_;have hl1:l1=(lp es i).length:=by have:=s1.1; rwa [W3] at this
 have hbl:=IW es i;refine ak (fun q=>?_) (fun q=>?_)
 ·have q:=W2 q;have hil:i<es.length:=ad
  have hw:IntKind.wrap .i64 ((i:Int)+1)=((i+1:Nat):Int):=by rw [wrap_i64 ad ad]; omega
  have he:=W5 hil;have hbs:=F4 es i;refine aK (OW (c:=c) (v.an e1) hn hl ht he) ?_;rintro _ h2 ⟨e2,rfl⟩;rw [B0 he];refine ⟨(SP es i,()),rfl,ao ?_⟩;have s2:=s1.bM e2 aj;refine ak (fun r=>?_) (fun r=>?_)
  ·rw [Xb r] at hbs
   have:=(e1.trans e2).size
   refine mi (vs:=Ke i) Cz P' rfl ad ad (Dd _) rfl rfl s2 ad ad ad ?_;intro p' c' h3 s3 k3 hp3;refine aI (cs:=[(false,[.slice 0]),(false,[.int .i64])]) ((p',l1+1,c'),((i+1:Nat):Int),()) (es.length-(i+1)) rfl ad (Xj (fun z=>[Value.slice p' (l1+1) c',Value.int .i64 z]) hw) ?_;exact ⟨i+1,rfl,rfl,ad,Ch.trans (e1.trans e2) k3 (fun j hj hl=>by have:=(s2.cj hj).1; omega),by rw [hbs,Xf]; exact s3⟩
  ·rw [W6 (by rw [r]; simp),X4] at hbs;refine aI (cs:=[(false,[.slice 0]),(false,[.int .i64])]) ((p1,l1,c1),((i+1:Nat):Int),()) (es.length-(i+1)) rfl ad (Xj (fun z=>[Value.slice p1 l1 c1,Value.int .i64 z]) hw) ?_;exact ⟨i+1,rfl,rfl,ad,e1.trans e2,by rw [hbs]; exact s2⟩
 ·have q:=W4 q
  have:i=es.length:=ad
  subst this;exact ⟨e1,p1,l1,c1,rfl,s1⟩
noncomputable def dB (es:List cI):Option Nat:=by
 classical
 exact es.findIdx? fun e=>decide (j6 (dl es) e.name)
def GU {es:List cI} {i:Nat} {r:List Nat} (h:lp es es.length=i::r):i<es.length/\dB es=some i:=by
 unfold lp at h;obtain ⟨l1,l2,h1,h2,h3,_⟩:=List.filter_eq_cons_iff.1 h;have hlen:es.length=l1.length+(l2.length+1):=by
  have:=Xj List.length h1
  simpa using this
 have hil:l1.length=i:=by
  have:=Xj (fun l:List Nat=>l[l1.length]?) h1
  simp only [List.getElem?_append_right (Nat.le_refl _),Nat.sub_self,List.getElem?_cons_zero] at this;rw [Ym ad] at this;exact Xo this
 subst hil;have hb:l1.length<es.length:=ad
 refine ⟨hb,?_⟩;unfold dB;rw [Xt];refine ⟨hb,?_,fun j hj=>?_⟩
 ·rw [B0 (W5 hb)];exact h3
 ·rw [B0 (W5 ad)];refine h2 j ?_
  have:=Xj (fun l:List Nat=>l[j]?) h1
  simp only [List.getElem?_append_left hj] at this;rw [Ym ad] at this;exact XU this.symm
def Jc {es:List cI} (h:lp es es.length=[]):dB es=none:=by
 unfold lp at h;unfold dB;rw [XL];intro e he;obtain ⟨i,hi⟩:=List.getElem?_of_mem he;rw [B0 hi]
 have:=List.filter_eq_nil_iff.1 h i (YM.2 (Xn.1 hi).1)
 simpa using this
def Q8 (of:ZA->Option cm):Nat->cm->cm
 | 0,x=>x
 | t+1,x=>db of (Q8 of t x)
theorem rU (of:ZA->Option cm):∀ (l:da) (n:Nat),n<4294967296->l.foldl (fZ of) n<4294967296
 | [],n,h=>h
 | t::l,n,h=>by
  rw [XE];refine rU of l _ ?_;unfold fZ;split
  ·exact h
  ·exact Zg _ cn
structure sf (S:List ZA) (x:cm):Prop where
 nf:Nf x.ai
 num:x.num<4294967296
 fm:∀ t,t∈x.ai->t.1∈S
def sf.put {S:List ZA} {es:List cI} (hes:∀ e,e∈es->sf S e.x) {x:cm} (h:sf S x):sf S (db (cr es) x) :=
 ⟨eM _ _,rU _ _ _ h.num,HR h.fm fun e he=>(hes e he).fm⟩
theorem sf.it {S:List ZA} {es:List cI} (hes:∀ e,e∈es->sf S e.x) {x:cm} (h:sf S x):∀ t,sf S (Q8 (cr es) t x)
 | 0=>h
 | t+1=>(sf.it hes h t).put hes
structure Pb (B:Nat) (h0 h':Hp) (p:ZC) (l c:Nat) (es ms:List cI) (f:Nat->Nat):Prop where
 out:SL h' h0.size 100 3 p l c (ms.map yZ)
 len:ms.length=es.length
 eq:∀ j e m,es[j]?=some e->ms[j]?=some m->m.name=e.name/\m.x=Q8 (cr es) (f j) e.x
 fm:∀ m,m∈ms->gK h' m.p m.l m.x.ai
 low:∀ m,m∈ms->∀ i,i∈aP m.p->(B<=i/\i<h'.size)/\i∉aP p
def OG (ms:List cI) (i:Nat) (m:cI):(ms.map yZ).set i (yZ m)=(ms.set i m).map yZ:=by rw [Y0]
def O4 {h:Hp} {p:ZC} {l:Nat} {es:List cI} (v:tk h p l es):(p=none/\es.map yZ=[])\/∃ a,p=some a/\aJ h a 0 (es.map yZ).flatten:=by
 cases p with
 | none =>
  refine .inl ⟨rfl,?_⟩;cases es with
  | nil=>rfl
  | cons e es =>
   obtain ⟨a,ha,_⟩:=v.cells 0 aj;cases ha
 | some a =>
  refine .inr ⟨a,rfl,?_⟩
  have:=fM (h:=h) (a:=a) (sz:=3) (es.map yZ) 0 (fun x hx=>by obtain ⟨e,_,rfl⟩:=Xd.1 hx; rfl) (fun i hi=>by
   obtain ⟨a',ha,hc⟩:=v.cells i (by simpa using hi);cases ha;rw [Xc,XK];exact hc)
  rwa [Za] at this
def Jt (e:cI):(yZ e).all cX=true:=by unfold yZ; simp [cX]
def Gg (es:List cI):(es.map yZ).flatten.all cX=true:=by
 rw [XA];intro x hx;obtain ⟨l,hl,hxl⟩:=YX.1 hx;obtain ⟨e,_,rfl⟩:=Xd.1 hl;exact XA.1 (Jt e) x hxl
def Jv {h:Hp} {p:ZC} {l c:Nat} {es:List cI} {B:Nat} (hB:B<=h.size) (v:tk h p l es) (hb:∀ e,e∈es->∀ i,i∈aP e.p->B<=i/\i<h.size) (hn:(aZ es).Nodup) (hl:es.length<=2^30) {S:List ZA} (hS:S.length<=2^30) (hes:∀ e,e∈es->sf S e.x) :
  HC Tryz.prog 52 #[.slice p l c] h fun w h'=>Ext h h'/\match dB es with
   | some i=>w=.tuple #[.slice none 0 0,.int .i64 (i:Int),.int .i64 24]
   | none=>∃ p' l' c' ms,w=.tuple #[.slice p' l' c',.int .i64 0,.int .i64 0]/\Pb B h h' p' l' c' es ms (fun _=>es.length):=by
 refine bd (args:=[.slice p l c]) mixed Tryz.func52 az (mX p l c) ?_;unfold iW bf bh bG aQ bK bm iG aH br bi aR;have hll:=v.len;have hlt:∀ e,e∈es->e.x.ai.length<=2^40:=fun e he=>by have:=zb (hes e he).nf (hes e he).fm; omega
 refine aK (M4 (c:=c) v hn ad hlt) ?_;rintro _ h1 ⟨e1,p1,l1,c1,rfl,s1⟩;refine ⟨((p1,l1,c1),()),rfl,ao ?_⟩;have hl1:l1=(lp es es.length).length:=by have:=s1.1; rwa [W3] at this
 refine ak (fun g=>?_) (fun g=>?_)
 ·have g:=W2 g;cases hbl:lp es es.length with
  | nil=>rw [hbl] at hl1; simp at hl1; omega
  | cons i r =>
   obtain ⟨hi,hf⟩:=GU hbl;obtain ⟨a,rfl,hc⟩:=SL.cells s1 (i:=0) (by rw [W3,hbl]; simp);have hc:aJ h1 a 0 [.int .i64 (i:Int)]:=by
    rw [Xc,Za,add_zero'] at hc;simp only [hbl,List.getElem_cons_zero] at hc;exact hc
   refine ay ⟨ad,ad⟩ (ax rfl ?_);refine aC ((i:Int),()) hc (ao ?_);refine ⟨⟨hc,trivial⟩,e1,?_⟩;rw [hf]
 ·have g:=W4 g;have hbn:lp es es.length=[]:=YG.1 ad;rw [Jc hbn];refine lM (ys:=es.map yZ) Bo JO rfl (O4 (v.an e1)) (by rw [W3]; exact hll) (fun y hy=>by obtain ⟨e,_,rfl⟩:=Xd.1 hy; rfl) (Gg es) ad ad ?_;intro p2 c2 h2 s2 e2;have z1:=e1.size;have e02:=e1.trans e2;have o0:Pb B h h2 p2 l c2 es es fun _=>0:=⟨s2.mono z1,rfl,fun j e m he hm=>by rw [he] at hm; cases hm; exact ⟨rfl,rfl⟩,fun m hm=>(v.fm m hm).an e02 aj,fun m hm i hi=>by
   have h1:=hb m hm i hi
   have:=e02.size
   exact ⟨⟨h1.1,ad⟩,fun hh=>by have:=(s2.cj hh).1; omega⟩⟩
  refine aU (cs:=[(false,[.int .i64])]) (fun y m h'=>∃ (t:Nat) (ms:List cI),y.1=(t:Int)/\m=es.length-t/\t<=es.length/\Ext h h'/\Pb B h h' p2 l c2 es ms fun _=>t) ((0:Int),()) es.length rfl ⟨0,es,rfl,rfl,ad,e02,o0⟩ ?_;rintro ⟨n10,⟨⟩⟩ m3 h3 ⟨t,ms,hi,rfl,hle,e3,o3⟩;simp only at hi;subst hi;refine ao ?_;refine ak (fun q=>?_) (fun q=>?_)
  ·have q:=W2 q;have hwt:IntKind.wrap .i64 ((t:Int)+1)=((t+1:Nat):Int):=by rw [wrap_i64 ad ad]; omega
   refine aU (cs:=[(false,[.int .i64])]) (fun y m h'=>∃ (i:Nat) (ms:List cI),y.1=(i:Int)/\m=es.length-i/\i<=es.length/\Ext h h'/\Pb B h h' p2 l c2 es ms fun j=>if j<i then t+1 else t) ((0:Int),()) es.length rfl ⟨0,ms,rfl,rfl,ad,e3,by simpa using o3⟩ ?_;rintro ⟨n11,⟨⟩⟩ m4 h4 ⟨i,ms4,hi,rfl,hle4,e4,o4⟩;simp only at hi;subst hi;refine ao ?_;refine ak (fun r=>?_) (fun r=>?_)
   ·have r:=W2 r;have hil:i<es.length:=ad
    have him:i<ms4.length:=by rw [o4.len]; exact hil
    have hwi:IntKind.wrap .i64 ((i:Int)+1)=((i+1:Nat):Int):=by rw [wrap_i64 ad ad]; omega
    obtain ⟨a,rfl,hc⟩:=SL.cells o4.out (i:=i) (by rw [W3]; exact him);rw [Xc] at hc;obtain ⟨hnm,hx⟩:=o4.eq i es[i] ms4[i] (W5 hil) (W5 him);have hmm:=Xe him;have hemm:=Xe hil;have vm:=o4.fm _ hmm;have lm:=o4.low _ hmm;rw [W6 ad] at hx;have hmi:ms4[i]?=some ms4[i]:=W5 him;have hei:es[i]?=some es[i]:=W5 hil;generalize ms4[i]=m at hc hnm hx hmm vm lm hmi;generalize es[i]=e at hnm hx hemm hei;have hsx:sf S m.x:=by rw [hx]; exact sf.it hes (hes e hemm) t
    refine ay ⟨ad,ad⟩ (ax rfl ?_);rw [show Int.toNat (i:Int)=i from ad];refine aC ((m.p,m.l,m.c),(m.x.num:Int),()) ⟨by rw [add_add]; exact hc.2.1,by rw [add_add]; exact hc.2.2.1,trivial⟩ ?_;refine ao ?_;have z4:=e4.size;refine aK (H8 (c:=m.c) (d:=c) vm (v.an e4) (fun j hj=>(lm j hj).1.2) (fun e he j hj=>by have:=hb e he j hj; omega) ad hsx.nf hsx.num (fun e he=>(hes e he).nf) hS hsx.fm fun e he=>(hes e he).fm) ?_;rintro _ h5 ⟨e5,p5,l5,c5,rfl,s5⟩;refine ⟨((p5,l5,c5),((db (cr es) m.x).num:Int),()),rfl,ao ?_⟩;have z5:=e5.size;refine ay ⟨ad,ad⟩ (ax rfl ?_);have so:=o4.out.bM e5 aj;refine SL.part (P:=Tryz.prog) so (i:=i) (by rw [W3]; exact him) (vs:=[.slice p5 l5 c5,.int .u32 ((db (cr es) m.x).num:Int)]) (o:=1) aj (by simp [cX]) rfl ?_;intro h6 s6 k6 z6;have hse:(ms4.map yZ).set i (la ((ms4.map yZ)[i]'(by rw [W3]; exact him)) 1 [.slice p5 l5 c5,.int .u32 ((db (cr es) m.x).num:Int)])=(ms4.set i ⟨m.name,p5,l5,c5,db (cr es) m.x⟩).map yZ:=by
     rw [<- OG]
     congr 1
     rw [Xc]
     have:ms4[i]=m:=(Xn.1 hmi).2
     rw [this] <;> rfl
    rw [hse] at s6;have hgb:∀ j,j∈aP (some a)->h.size<=j/\j<h4.size:=fun j hj=>o4.out.cj hj
    have e6:Ext h h6:=Ch.trans (e4.trans e5) k6 (fun j hj hl=>by have:=hgb j hj; omega);refine aI (cs:=[(false,[.int .i64])]) (((i+1:Nat):Int),()) (es.length-(i+1)) rfl ad (Xj (fun z=>[Value.int .i64 z]) hwi) ⟨i+1,_,rfl,rfl,ad,e6,⟨s6,by rw [X8]; exact o4.len,fun j e' m' he' hm'=>?_,fun m' hm'=>?_,fun m' hm' j hj=>?_⟩⟩
    ·by_cases hji:i=j
     ·subst hji;rw [YH him] at hm';cases hm';rw [hei] at he';cases he';refine ⟨hnm,?_⟩;rw [Xb ad];show db (cr es) m.x=db (cr es) (Q8 (cr es) t e.x);rw [hx]
     ·rw [Yq hji] at hm';obtain ⟨h1,h2⟩:=o4.eq j e' m' he' hm';refine ⟨h1,h2.trans ?_⟩
      by_cases hj2:j<i
      ·rw [Xb hj2,Xb ad]
      ·rw [W6 hj2,W6 ad]
    ·rcases Yg hm' with hm' | rfl
     ·exact ((o4.fm m' hm').an e5 aj).an k6 (fun j hj=>(o4.low m' hm' j hj).2)
     ·exact (s5.bM k6 (fun j hj hh=>by have:=(s5.cj hj).1; have:=hgb j hh; omega)).QD
    ·rcases Yg hm' with hm' | rfl
     ·obtain ⟨h1,h2⟩:=o4.low m' hm' j hj;exact ⟨⟨h1.1,ad⟩,h2⟩
     ·obtain ⟨h1,h2⟩:=s5.cj hj;exact ⟨⟨ad,ad⟩,fun hh=>by have:=hgb j hh; omega⟩
   ·have r:=W4 r
    have:i=es.length:=ad
    subst this;refine aI (cs:=[(false,[.int .i64])]) (((t+1:Nat):Int),()) (es.length-(t+1)) rfl ad (Xj (fun z=>[Value.int .i64 z]) hwt) ⟨t+1,ms4,rfl,rfl,ad,e4,⟨o4.out,o4.len,fun j e m he hm=>?_,o4.fm,o4.low⟩⟩;obtain ⟨h1,h2⟩:=o4.eq j e m he hm;rw [Xb (Xn.1 he).1] at h2;exact ⟨h1,h2⟩
  ·have q:=W4 q
   have:t=es.length:=ad
   subst this;exact ⟨e3,p2,l,c2,ms,rfl,o3⟩
theorem qv (s:ZA):∀ l:da,gb (fun r=>if r=s then 1 else 0) l=cf l s
 | []=>rfl
 | p::l=>by
  rw [eP,eJ,qv s l]
  congr 1
  split <;> simp
theorem nT:∀ l:da,gb (fun _=>0) l=0
 | []=>rfl
 | p::l=>by rw [eP,nT l]; simp
def HM {x y:cm} (hx:Nf x.ai) (hy:Nf y.ai) (nx:x.num<4294967296) (ny:y.num<4294967296) (h:∀ f,jq f x=jq f y):x=y:=by
 have h0:=h fun _=>0
 unfold jq at h0;rw [nT,nT] at h0;have hn:x.num=y.num:=ad
 have ht:x.ai=y.ai:=hx.PL hy fun s=>by
  have h1:=h fun r=>if r=s then 1 else 0
  unfold jq at h1;rw [qv,qv] at h1;omega
 obtain ⟨a,b⟩:=x;obtain ⟨c,d⟩:=y;simp only at hn ht;rw [hn,ht]
def GX (of:ZA->Option cm) (f:ZA->Nat) (s:ZA):Nat:=match of s with
 | none=>f s
 | some y=>jq f y
def fD (of:ZA->Option cm) (f:ZA->Nat) (x:cm):jq f (db of x)=jq (GX of f) x:=KW (fun s=>by unfold GX; rfl) x
theorem zy {f g:ZA->Nat}:∀ {l:da},(∀ t,t∈l->f t.1=g t.1)->gb f l=gb g l
 | [],_=>rfl
 | p::l,h=>by rw [eP,eP,h p aj,zy fun t ht=>h t (Xh _ ht)]
def ov {f g:ZA->Nat} {x:cm} (h:∀ t,t∈x.ai->f t.1=g t.1):jq f x=jq g x:=by
 unfold jq;rw [zy h]
section
variable {own:ZA->Bool} {lin:ZA->cm}
def SY (own:ZA->Bool) (lin:ZA->cm) (t:Nat) (s:ZA):Option cm:=if own s=true then some (qg own lin t s) else none
def xQ (own:ZA->Bool) (lin:ZA->cm) (s:ZA):Option cm:=if own s=true then some (lin s) else none
def rA (t:Nat) (v:ZA):qg own lin (t+1) v=db (SY own lin t) (lin v):=rfl
theorem Bl (hnum:∀ v,own v=true->(lin v).num<4294967296):∀ (t:Nat) (v:ZA),own v=true->db (xQ own lin) (qg own lin t v)=qg own lin (t+1) v
 | 0,v,hv=>rfl
 | t+1,v,hv=>by
  rw [rA (t+1) v,rA t v];refine HM (eM _ _) (eM _ _) (rU _ _ _ (rU _ _ _ (hnum v hv))) (rU _ _ _ (hnum v hv)) fun f=>?_
  rw [fD,fD,fD];refine ov fun u _=>?_
  generalize u.1=s;unfold GX SY
  by_cases ho:own s=true
  ·rw [Xb ho,Xb ho];show jq (GX (xQ own lin) f) (qg own lin t s)=jq f (qg own lin (t+1) s);rw [<- Bl hnum t s ho,fD]
  ·rw [W6 ho,W6 ho];show (match xQ own lin s with | none=>f s | some y=>jq f y)=f s;unfold xQ;rw [W6 ho]
theorem Dz (hnum:∀ v,own v=true->(lin v).num<4294967296):∀ (t:Nat) (v:ZA),own v=true->Q8 (xQ own lin) t (lin v)=qg own lin t v
 | 0,v,hv=>rfl
 | t+1,v,hv=>by
  show db (xQ own lin) (Q8 (xQ own lin) t (lin v))=_;rw [Dz hnum t v hv,Bl hnum t v hv]
end
def Pw {es:List cI} (hn:(aZ es).Nodup) (hnum:∀ e,e∈es->e.x.num<4294967296) {e:cI} (he:e∈es):Q8 (cr es) es.length e.x=eO es e.name:=by
 have hown:ct es e.name=true:=by
  unfold ct;cases hp:j8 es e.name with
  | some k=>rfl
  | none =>
   unfold j8 at hp;rw [XL] at hp
   have:=hp e he
   simp at this
 have hnum':∀ v,ct es v=true->(de es v).num<4294967296:=by
  intro v hv;unfold ct at hv;obtain ⟨k,hk⟩:=X0.1 hv;obtain ⟨d,hd,hdn⟩:=tW hk;rw [<- hdn,py hn (XU hd)];exact hnum d (XU hd)
 have h1:=Dz hnum' es.length e.name hown;rw [py hn he] at h1;have h2:xQ (ct es) (de es)=cr es:=rfl;rw [h2] at h1;rw [h1];unfold eO HF aZ;rw [W3]
def yg (K:Ky->Prop) (a b:Ky->ZA) (x y:cm):Prop:=∀ f g:ZA->Nat,(∀ k,K k->f (a k)=g (b k))->jq f x=jq g y
def yg.symm {K:Ky->Prop} {a b:Ky->ZA} {x y:cm} (h:yg K a b x y):yg K b a y x:=fun f g hh=>(h g f fun k hk=>(hh k hk).symm).symm
structure uz {δ:Type} (Q:List δ) (ky:δ->Ky) (K:Ky->Prop) (a b:Ky->ZA) (xa xb:δ->cm):Prop where
 nd:(Q.map ky).Nodup
 Oc:∀ q,q∈Q->K (ky q)
 ia:∀ k k',K k->K k'->a k=a k'->k=k'
 ib:∀ k k',K k->K k'->b k=b k'->k=k'
 QJ:∀ k,K k->k∉Q.map ky->a k=b k
 rel:∀ q,q∈Q->yg K a b (xa q) (xb q)
 fa:∀ q,q∈Q->Nf (xa q).ai
 fb:∀ q,q∈Q->Nf (xb q).ai
def uz.symm {δ:Type} {Q:List δ} {ky:δ->Ky} {K:Ky->Prop} {a b:Ky->ZA} {xa xb:δ->cm} (t:uz Q ky K a b xa xb):uz Q ky K b a xb xa :=
 ⟨t.nd,t.Oc,t.ib,t.ia,fun k hk hn=>(t.QJ k hk hn).symm,fun q hq=>(t.rel q hq).symm,t.fb,t.fa⟩
def wD {δ:Type} (Q:List δ) (ky:δ->Ky) (a:Ky->ZA) (xa:δ->cm):List (ZA × cm):=Q.map fun q=>(a (ky q),xa q)
def uU (D:List (ZA × cm)):Sx.aZ (eY D)=D.map (·.1):=by
 have:=Xj (List.map (·.1)) (oT D)
 rw [Xv] at this;exact this
def rP {D:List (ZA × cm)} {s:ZA}:ct (eY D) s=true↔s∈D.map (·.1):=by rw [ec,uU]
theorem Rm:∀ {l:da} {t:ZA × Nat},Nf l->t∈l->cf l t.1=t.2
 | [],t,_,h=>by simp at h
 | p::l,t,n,h=>by
  rcases Xq.1 h with h | h
  ·subst h;exact n.mz
  ·rw [eJ,W6 (j7 (n.head t h)),XK];exact Rm n.tail h
def Me {l:da} (n:Nf l) {s:ZA}:s∈l.map (·.1)↔cf l s % 4294967296≠0:=by
 constructor
 ·intro h;obtain ⟨t,ht,rfl⟩:=Xd.1 h;rw [Rm n ht]
  have:=n.2 t ht
  omega
 ·intro h;apply YR;intro k;exact h (by rw [yo fun p hp e=>k (Xd.2 ⟨p,hp,e⟩)])
section
variable {δ:Type} {Q:List δ} {ky:δ->Ky} {K:Ky->Prop} {a b:Ky->ZA} {xa xb:δ->cm}
def zn:(wD Q ky a xa).map (·.1)=(Q.map ky).map a:=by
 unfold wD;rw [Xv,Xv] <;> rfl
def uz.TM (t:uz Q ky K a b xa xb):((wD Q ky a xa).map (·.1)).Nodup:=by
 rw [zn];have h:=t.nd;rw [Yx] at h ⊢;rw [X5];refine List.Pairwise.imp_of_mem ?_ h;intro k k' hk hk' hne e;obtain ⟨q,hq,rfl⟩:=Xd.1 hk;obtain ⟨r,hr,rfl⟩:=Xd.1 hk';exact hne (t.ia _ _ (t.Oc q hq) (t.Oc r hr) e)
def uz.own (t:uz Q ky K a b xa xb) {k:Ky} (hk:K k):ct (eY (wD Q ky a xa)) (a k)=true↔k∈Q.map ky:=by
 rw [rP,zn,Xd];constructor
 ·rintro ⟨k',hk',e⟩;obtain ⟨q,hq,rfl⟩:=Xd.1 hk';rw [<- t.ia _ _ (t.Oc q hq) hk e];exact hk'
 ·intro h;exact ⟨k,h,rfl⟩
def uz.lin (t:uz Q ky K a b xa xb) {q:δ} (hq:q∈Q):de (eY (wD Q ky a xa)) (a (ky q))=xa q:=by
 have h2:(⟨a (ky q),none,0,0,xa q⟩:cI)∈eY (wD Q ky a xa):=Xd.2 ⟨(a (ky q),xa q),Xd.2 ⟨q,hq,rfl⟩,rfl⟩;exact py (by rw [uU]; exact t.TM) h2
def yg.cf {x y:cm} (h:yg K a b x y) {k:Ky} (ha:∀ k',K k'->a k'=a k->k'=k) (hb:∀ k',K k'->b k'=b k->k'=k):cf x.ai (a k) % 4294967296=cf y.ai (b k) % 4294967296:=by
 have h0:=h (fun _=>0) (fun _=>0) fun _ _=>rfl
 have h1:=h (fun r=>if r=a k then 1 else 0) (fun r=>if r=b k then 1 else 0) fun k' hk'=>by
  by_cases e:k'=k
  ·subst e
   simp
  ·rw [W6 fun x=>e (ha k' hk' x),W6 fun x=>e (hb k' hk' x)]
 unfold jq at h0 h1;rw [nT,nT] at h0;rw [qv,qv] at h1;omega
def uz.Uo (t:uz Q ky K a b xa xb) {q r:δ} (hq:q∈Q) (hr:r∈Q) (h:dl (eY (wD Q ky a xa)) (a (ky q)) (a (ky r))):dl (eY (wD Q ky b xb)) (b (ky q)) (b (ky r)):=by
 obtain ⟨h1,h2⟩:=h;refine ⟨?_,(t.symm.own (t.Oc r hr)).2 (Xp hr)⟩;unfold cJ at h1 ⊢;rw [t.lin hq,Me (t.fa q hq)] at h1;rw [t.symm.lin hq,Me (t.fb q hq)];rw [(t.rel q hq).cf (fun k' hk' e=>t.ia _ _ hk' (t.Oc r hr) e) (fun k' hk' e=>t.ib _ _ hk' (t.Oc r hr) e)] at h1;exact h1
def uz.Wo (t:uz Q ky K a b xa xb) {s u:ZA} (h:dl (eY (wD Q ky a xa)) s u):∃ r,r∈Q/\u=a (ky r):=by
 have h2:=h.2;rw [rP,zn] at h2;obtain ⟨k,hk,rfl⟩:=Xd.1 h2;obtain ⟨r,hr,rfl⟩:=Xd.1 hk;exact ⟨r,hr,rfl⟩
def uz.Rn (t:uz Q ky K a b xa xb) {u v:ZA} (h:oZ (dl (eY (wD Q ky a xa))) u v):∀ q r,q∈Q->r∈Q->u=a (ky q)->v=a (ky r)->oZ (dl (eY (wD Q ky b xb))) (b (ky q)) (b (ky r)):=by
 induction h with
 | refl u =>
  intro q r hq hr e1 e2;rw [t.ia _ _ (t.Oc q hq) (t.Oc r hr) (e1.symm.trans e2)];exact .refl _
 | head e _ ih =>
  intro q r hq hr e1 e2;subst e1;obtain ⟨m,hm,rfl⟩:=t.Wo e;exact .head (t.Uo hq hm e) (ih m r hm hr rfl e2)
def uz.UL (t:uz Q ky K a b xa xb) {q:δ} (hq:q∈Q) (h:j6 (dl (eY (wD Q ky a xa))) (a (ky q))):j6 (dl (eY (wD Q ky b xb))) (b (ky q)):=by
 obtain ⟨y,h1,h2⟩:=h;obtain ⟨m,hm,rfl⟩:=t.Wo h1;exact ⟨_,t.Uo hq hm h1,t.Rn h2 m q hm hq rfl rfl⟩
def uz.WC (t:uz Q ky K a b xa xb) {q:δ} (hq:q∈Q):j6 (dl (eY (wD Q ky a xa))) (a (ky q))↔j6 (dl (eY (wD Q ky b xb))) (b (ky q)):=⟨t.UL hq,t.symm.UL hq⟩
def uz.Ua (t:uz Q ky K a b xa xb):mF (wD Q ky a xa)=dB (eY (wD Q ky b xb)):=by
 classical
 unfold mF dB;have h2:∀ D:List (ZA × cm),∀ P:ZA->Bool,(eY D).findIdx? (fun e=>P e.name)=D.findIdx? fun y=>P y.1:=by
  intro D P;unfold eY;rw [Y4] <;> rfl
 have h3:=h2 (wD Q ky b xb) (fun s=>decide (j6 (dl (eY (wD Q ky b xb))) s));rw [h3];have key:∀ l:List δ,(∀ q,q∈l->q∈Q)->(l.map fun q=>(a (ky q),xa q)).findIdx? (fun y=>decide (j6 (dl (eY (wD Q ky a xa))) y.1))=(l.map fun q=>(b (ky q),xb q)).findIdx? (fun y=>decide (j6 (dl (eY (wD Q ky b xb))) y.1)):=by
  intro l
  induction l with
  | nil=>intro _; rfl
  | cons q l ih =>
   intro hl;rw [XH,XH,List.findIdx?_cons,List.findIdx?_cons,ih fun r hr=>hl r (Xh _ hr)];have h4:decide (j6 (dl (eY (wD Q ky a xa))) (a (ky q)))=decide (j6 (dl (eY (wD Q ky b xb))) (b (ky q))):=Y8.2 (t.WC (hl q (YD ..)));simp only [h4]
 exact key Q fun q hq=>hq
theorem uz.HF (t:uz Q ky K a b xa xb):∀ (n:Nat) (q:δ),q∈Q->yg K a b (qg (ct (eY (wD Q ky a xa))) (de (eY (wD Q ky a xa))) n (a (ky q))) (qg (ct (eY (wD Q ky b xb))) (de (eY (wD Q ky b xb))) n (b (ky q)))
 | 0,q,hq=>by
  show yg K a b (de (eY (wD Q ky a xa)) (a (ky q))) (de (eY (wD Q ky b xb)) (b (ky q)));rw [t.lin hq,t.symm.lin hq];exact t.rel q hq
 | n+1,q,hq=>by
  intro f g hfg;rw [rA,rA,fD,fD,t.lin hq,t.symm.lin hq];refine t.rel q hq _ _ fun k hk=>?_
  unfold GX SY
  by_cases hE:k∈Q.map ky
  ·rw [Xb ((t.own hk).2 hE),Xb ((t.symm.own hk).2 hE)];obtain ⟨r,hr,rfl⟩:=Xd.1 hE;exact uz.HF t n r hr f g hfg
  ·rw [W6 fun h=>hE ((t.own hk).1 h),W6 fun h=>hE ((t.symm.own hk).1 h)];exact hfg k hk
def Qm {D:List (ZA × cm)} (s:ZA):eO (eY D) s=qg (ct (eY D)) (de (eY D)) D.length s:=by
 unfold eO HF;rw [uU,W3]
def LS {D:List (ZA × cm)} (s:ZA):ct (eY (ma D)) s=ct (eY D) s:=by
 have h:(ma D).map (·.1)=D.map (·.1):=by
  unfold ma;rw [Xv] <;> rfl
 rw [YS,rP,rP,h]
def uB {D:List (ZA × cm)} (hn:(D.map (·.1)).Nodup) (s:ZA):cr (eY (ma D)) s=if ct (eY D) s=true then some (eO (eY D) s) else none:=by
 unfold cr;rw [LS]
 by_cases h:ct (eY D) s=true
 ·rw [Xb h,Xb h];rw [rP] at h;obtain ⟨y,hy,rfl⟩:=Xd.1 h;have h0:(ma D).map (·.1)=D.map (·.1):=by
   unfold ma;rw [Xv] <;> rfl
  have h2:(⟨y.1,none,0,0,eO (eY D) y.1⟩:cI)∈eY (ma D):=Xd.2 ⟨(y.1,eO (eY D) y.1),Xd.2 ⟨y,hy,rfl⟩,rfl⟩;exact Xj some (py (by rw [uU,h0]; exact hn) h2)
 ·rw [W6 h,W6 h]
def uz.put (t:uz Q ky K a b xa xb) {x y:cm} (h:yg K a b x y):yg K a b (uR (ma (wD Q ky a xa)) x) (uR (ma (wD Q ky b xb)) y):=by
 intro f g hfg;unfold uR;rw [fD,fD];refine h _ _ fun k hk=>?_
 unfold GX;rw [uB t.TM,uB t.symm.TM]
 by_cases hE:k∈Q.map ky
 ·rw [Xb ((t.own hk).2 hE),Xb ((t.symm.own hk).2 hE)];obtain ⟨r,hr,rfl⟩:=Xd.1 hE;have e1:(wD Q ky a xa).length=Q.length:=by unfold wD; rw [W3]
  have e2:(wD Q ky b xb).length=Q.length:=by unfold wD; rw [W3]
  simp only [Qm,e1,e2];exact t.HF Q.length r hr f g hfg
 ·rw [W6 fun h=>hE ((t.own hk).1 h),W6 fun h=>hE ((t.symm.own hk).1 h)];exact hfg k hk
def HB {D:List (ZA × cm)} (hn:(D.map (·.1)).Nodup) (hc:∀ v,¬ j6 (dl (eY D)) v) {x:cm}:∀ u,u∈(uR (ma D) x).ai->ct (eY D) u.1=false:=by
 intro u hu;unfold uR at hu;rcases rE hu with ⟨p,hp,e,ho⟩ | ⟨p,y,v,hp,ho,hv,e⟩
 ·rw [uB hn] at ho;cases hb:ct (eY D) u.1 with
  | false=>rfl
  | true=>rw [Xb hb] at ho; cases ho
 ·rw [uB hn] at ho
  by_cases hb:ct (eY D) p.1=true
  ·rw [Xb hb] at ho;have ho:=Xo ho;subst ho
   have:=(wo (own:=ct (eY D)) (lin:=de (eY D)) (names:=Sx.aZ (eY D)) (fun s=>ec _ s) hc ((ec _ _).1 hb) v hv).1
   rw [<- e];exact this
  ·rw [W6 hb] at ho; cases ho
def Np {D:List (ZA × cm)} (h:mF D=none):∀ v,¬ j6 (dl (eY D)) v:=by
 classical
 intro v hv;unfold mF at h;rw [XL] at h;have key:∃ u,ct (eY D) u=true/\j6 (dl (eY D)) u:=by
  obtain ⟨y,h1,h2⟩:=hv;refine ⟨y,h1.2,?_⟩;have h3:oZ (dl (eY D)) v y:=.one h1;cases h2 with
  | refl=>exact ⟨_,h1,.refl _⟩
  | head e r=>exact ⟨_,e,r.trans h3⟩
 obtain ⟨u,h1,h2⟩:=key;rw [rP] at h1;obtain ⟨q,hq,rfl⟩:=Xd.1 h1
 have:=h q hq
 exact absurd h2 (W4 this)
def uz.same (t:uz Q ky K a b xa xb) (hc:mF (wD Q ky a xa)=none) {x y:cm} (h:yg K a b x y) (hx:x.num<4294967296) (hy:y.num<4294967296):uR (ma (wD Q ky a xa)) x=uR (ma (wD Q ky b xb)) y:=by
 classical
 have ca:=Np hc;have cb:∀ v,¬ j6 (dl (eY (wD Q ky b xb))) v:=Np (by
  have h1:=t.Ua;have h2:=t.symm.Ua;rw [hc] at h1
  have:mF (wD Q ky b xb)=dB (eY (wD Q ky b xb)):=by
   unfold mF dB eY;rw [Y4] <;> rfl
  rw [this,<- h1])
 refine HM (eM _ _) (eM _ _) (lB hx) (lB hy) fun f=>?_
 have e1:jq f (uR (ma (wD Q ky a xa)) x)=jq (fun s=>if ct (eY (wD Q ky a xa)) s=true then 0 else f s) (uR (ma (wD Q ky a xa)) x):=ov fun u hu=>by
  rw [HB t.TM ca u hu] <;> rfl
 have e2:jq f (uR (ma (wD Q ky b xb)) y)=jq (fun s=>if ct (eY (wD Q ky b xb)) s=true then 0 else f s) (uR (ma (wD Q ky b xb)) y):=ov fun u hu=>by
  rw [HB t.symm.TM cb u hu] <;> rfl
 rw [e1,e2];refine t.put h _ _ fun k hk=>?_
 by_cases hE:k∈Q.map ky
 ·rw [Xb ((t.own hk).2 hE),Xb ((t.symm.own hk).2 hE)]
 ·rw [W6 fun h=>hE ((t.own hk).1 h),W6 fun h=>hE ((t.symm.own hk).1 h),t.QJ k hk hE]
end
def Ir {h:Hp} {p:ZC} {l c:Nat} {xs:List ZA} (n:l=xs.length) (hc:∀ i,(hi:i<xs.length)->∃ a,p=some a/\aJ h (a.add (i*1)) 0 [.string xs[i]]) (hl:xs.length<=2^61) (s:ZA):vz Tryz.prog 57 [.slice p l c,.string s] h (.bool (fX xs s)):=by
 refine et mixed Tryz.func57 az (jc p l c s) ?_;unfold gQ bf bh bG aQ bC dL aR cg;refine aU (cs:=[(false,[.bool]),(false,[.int .i64])]) (fun y m h'=>∃ i:Nat,y.2.1=(i:Int)/\m=xs.length-i/\i<=xs.length/\h'=h/\fX (xs.take i) s=false) (false,(0:Int),()) xs.length rfl
  ⟨0,rfl,rfl,ad,rfl,rfl⟩ ?_
 rintro ⟨b2,n3,⟨⟩⟩ m h' ⟨i,hi,rfl,hle,rfl,hn⟩;simp only at hi;subst hi;refine ao ?_;refine ak (fun q=>?_) (fun q=>?_)
 ·have q:=W2 q;have hil:i<xs.length:=ad
  obtain ⟨a,ha,hca⟩:=hc i hil;refine ay ⟨ad,ad⟩ (ax ha ?_);rw [show Int.toNat (i:Int)=i from ad];refine aC (xs[i],()) hca (ao ?_);have hs:=Vc xs s i hil;rw [qd];refine ak (fun r=>?_) (fun r=>?_)
  ·have r:=W2 r;refine ⟨Xj Value.bool ?_,rfl⟩;unfold fX;exact (Yt.2 ⟨_,Xe hil,W9 r⟩).symm
  ·rw [hn,r] at hs;refine aI (cs:=[(false,[.bool]),(false,[.int .i64])]) (b2,((i+1:Nat):Int),()) (xs.length-(i+1)) rfl ad (by rw [wrap_i64 ad ad]; rfl) ?_;exact ⟨i+1,rfl,rfl,ad,rfl,hs⟩
 ·have q:=W4 q
  have:i=xs.length:=ad
  subst this;rw [XB] at hn;exact ⟨by rw [hn],rfl⟩
def jl (us:List cd) (n:Nat) (s:ZA):Option Nat :=
 if (us[n]?.map fun u=>fX (fv u) s)=some true then some n else us.findIdx? fun u=>fX u.aY s
structure J7 (us:List cd):Prop where
 many:us.length<=2^20
 text:∀ u,u∈us->u.text.length<=2^20
 data:∀ u,u∈us->u.data.length<=2^20
 bg:∀ u,u∈us->u.bg.length<=2^20
def Ej {h:Hp} {p:ZC} {l c:Nat} {us:List cd} (v:xX h p l us) (sz:J7 us) {n:Nat} (hn:n<us.length) (s:ZA) :
  HC Tryz.prog 73 #[.slice p l c,.int .i64 (n:Int),.string s] h fun w h'=>w=.int .i64 (PM (jl us n s))/\Ext h h':=by
 refine bd (args:=[.slice p l c,.int .i64 (n:Int),.string s]) mixed Tryz.func73 az (mM p l c n s) ?_;unfold jf bf bh bG aQ aT bK aR;have hll:=v.len;have hmany:=sz.many;have hug:us[n]?=some us[n]:=W5 hn;obtain ⟨a,sa,sb,sc,sd,rfl,hc,va⟩:=v.cells n hn;have hm:=Xe hn;generalize us[n]=u at hug hc va hm;refine ay ⟨ad,ad⟩ (ax rfl ?_);rw [show Int.toNat (n:Int)=n from ad];refine aC ((sa.p,sa.l,sa.c),(sb.p,sb.l,sb.c),(sc.p,sc.l,sc.c),(sd.p,sd.l,sd.c),()) hc (ao ?_);refine aK (Mj va (sz.text u hm) (sz.data u hm) (sz.bg u hm)) ?_;rintro _ h1 ⟨p1,l1,c1,rfl,s1,e1⟩;refine ⟨((p1,l1,c1),()),rfl,ao ?_⟩;have hal:(fv u).length<=2^61:=by
  have h1:=sz.text u hm;have h2:=sz.data u hm;have h3:=sz.bg u hm;unfold fv eb;rw [W8,W8,W3,W3,W3];have h4:=Yo (fun x:cF=>decide (x.kind=1)) u.text;have h5:=Yo (fun x:cF=>decide (x.kind=1)) u.data;omega
 refine aM (Cn s1 hal s) ?_;refine ak (fun q=>?_) (fun q=>?_)
 ·refine ⟨?_,e1⟩;unfold jl;rw [hug,Zf,q,Xb rfl] <;> rfl
 ·have ho:jl us n s=us.findIdx? fun u=>fX u.aY s:=by
   unfold jl;rw [hug,Zf,q,W6 aj]
  rw [ho];refine aU (cs:=[(false,[.int .i64]),(false,[.int .i64])]) (fun y m h'=>∃ i:Nat,y.2.1=(i:Int)/\m=us.length-i/\i<=us.length/\h'=h1/\∀ j,j<i->(hj:j<us.length)->fX us[j].aY s=false) ((0:Int),(0:Int),()) us.length rfl
   ⟨0,rfl,rfl,ad,rfl,fun j hj=>absurd hj ad⟩ ?_
  rintro ⟨n2,n3,⟨⟩⟩ m h' ⟨i,hi,rfl,hle,rfl,hno⟩;simp only at hi;subst hi;refine ao ?_;refine ak (fun q=>?_) (fun q=>?_)
  ·have q:=W2 q;have hil:i<us.length:=ad
   obtain ⟨a',ta,tb,tc,td,ha',hc',va'⟩:=(v.an e1).cells i hil;refine ay ⟨ad,ad⟩ (ax ha' ?_);rw [show Int.toNat (i:Int)=i from ad];refine aC ((td.p,td.l,td.c),()) ⟨by rw [add_add]; exact hc'.2.2.2.1,trivial⟩ ?_;refine ao ?_;refine aM (Ir va'.aY.len (fun j hj=>by
    obtain ⟨a,ha,hc,_⟩:=va'.aY.cells j hj;exact ⟨a,ha,hc⟩) (by have:=va'.aY.many; omega) s) ?_
   refine ak (fun r=>?_) (fun r=>?_)
   ·refine ⟨?_,e1⟩;rw [show us.findIdx? (fun u=>fX u.aY s)=some i from by
     rw [Xt];exact ⟨hil,r,fun j hj=>by rw [hno j hj ad]; simp⟩]
    rfl
   ·refine aI (cs:=[(false,[.int .i64]),(false,[.int .i64])]) (n2,((i+1:Nat):Int),()) (us.length-(i+1)) rfl ad (by rw [wrap_i64 ad ad]; rfl) ?_;exact ⟨i+1,rfl,rfl,ad,rfl,fun j hj hx=>by
     by_cases e:j=i
     ·subst e; exact r
     ·exact hno j ad hx⟩
  ·have q:=W4 q
   have:i=us.length:=ad
   subst this;refine ⟨?_,e1⟩;rw [show us.findIdx? (fun u=>fX u.aY s)=none from by
    rw [XL];intro u hu;obtain ⟨j,hj,rfl⟩:=Xw hu;exact hno j hj hj]
   rfl
def o7 (n sec:Nat):Nat->List cF->List Lb
 | _,[]=>[]
 | i,x::l=>(if x.kind=1 then [⟨n,sec,i,x.name⟩] else [])++o7 n sec (i+1) l
def E4 (n:Nat) (u:cd):List Lb:=o7 n 0 0 u.text++o7 n 1 0 u.data
def bY:Nat->List cd->List Lb
 | _,[]=>[]
 | n,u::us=>E4 n u++bY (n+1) us
def zN (x:Lb):Ky:=(x.u,x.n)
def jD (q:Nat × qY):Ky:=(q.1,q.2.1)
def mP (l:List Ky) (k:Ky):Option Nat:=l.findIdx? fun x=>decide (x=k)
def nM {l:List Ky} {k:Ky}:mP l k=none↔k∉l:=by
 unfold mP;rw [XL];constructor
 ·intro h hk
  have:=h k hk
  simp at this
 ·intro h x hx;exact Xa fun e=>h (e▸hx)
def jn {l:List Ky} {k:Ky} {i:Nat} (h:mP l k=some i):∃ hi:i<l.length,l[i]=k:=by
 unfold mP at h;rw [Xt] at h;obtain ⟨h1,h2,_⟩:=h;exact ⟨h1,W2 h2⟩
def Aq {l:List Ky} {k:Ky} (h:k∈l):∃ i,mP l k=some i:=by
 cases hk:mP l k with
 | some i=>exact ⟨i,rfl⟩
 | none=>exact absurd h (nM.1 hk)
def BD {l:List Ky} {y:Ky} (hn:y∉l):mP (l++[y])=xU (mP l) y l.length:=by
 funext k
 unfold xU
 by_cases hk:k=y
 ·subst hk;rw [Xb rfl];have h0:=nM.2 hn;unfold mP at h0 ⊢;rw [Y7,h0]
  simp
 ·rw [W6 hk];unfold mP;rw [Y7]
  have:decide (y=k)=false:=Xa fun e=>hk e.symm
  simp [List.findIdx?_cons,this]
structure WI (w:LW) (L:List Lb) (E:List Ky):Prop where
 lb:w.lb=L
 num:w.num=mP (L.map zN)
 sL:w.sL=mP E
 ne:w.ne=E.length
theorem WI.QJ {w:LW} {L:List Lb} {E:List Ky} (i0:WI w L E) {n sec:Nat}:∀ (l:List cF) (i:Nat) {w:LW} {L:List Lb} (i0:WI w L E) (hn:(eb l).Nodup) (hd:∀ s,s∈eb l->(n,s)∉L.map zN),WI (iB n sec i l w) (L++o7 n sec i l) E
 | [],i,w,L,i0,hn,hd=>by simpa [iB,o7] using i0
 | x::l,i,w,L,i0,hn,hd=>by
  rw [rX] at hn hd;rw [iB,o7,<- Xs]
  by_cases hk:x.kind=1
  ·simp only [hk,if_true,List.singleton_append,List.nodup_cons,List.mem_cons] at hn hd;have hx:=hd x.name (.inl rfl);refine WI.QJ i0 l (i+1) ?_ hn.2 (fun s hs=>?_)
   ·unfold jo;rw [Xb hk,Xb hk];refine ⟨by show w.lb++_=_; rw [i0.lb],?_,i0.sL,i0.ne⟩;show xU w.num (n,x.name) w.lb.length=_;rw [Xf,List.map_singleton];show _=mP (L.map zN++[(n,x.name)]);rw [BD hx,i0.num,i0.lb,W3]
   ·rw [Xb hk,Xf,Xl];rintro (h | h)
    ·exact hd s (.inr hs) h
    ·have:(n,s)=(n,x.name):=by simpa [zN] using h
     have:s=x.name:=(YZ this).2
     exact hn.1 (this▸hs)
  ·simp only [hk,if_false,List.nil_append] at hn hd;rw [W6 hk,X4];refine WI.QJ i0 l (i+1) ?_ hn hd;unfold jo;rw [W6 hk];exact i0
theorem WI.eqs {L:List Lb} {n:Nat}:∀ (l:List qY) {w:LW} {E:List Ky} (i0:WI w L E) (hn:(l.map (·.1)).Nodup) (hd:∀ s,s∈l.map (·.1)->(n,s)∉E),WI (l.foldl (tX n) w) L (E++l.map fun e=>(n,e.1))
 | [],w,E,i0,hn,hd=>by simpa using i0
 | x::l,w,E,i0,hn,hd=>by
  simp only [List.map_cons,List.nodup_cons,List.mem_cons] at hn hd;have hx:=hd x.1 (.inl rfl);rw [XE,XH,show E++(n,x.1)::l.map (fun e=>(n,e.1))=(E++[(n,x.1)])++l.map fun e=>(n,e.1) from aj];refine WI.eqs l ?_ hn.2 (fun s hs=>?_)
  ·refine ⟨i0.lb,i0.num,?_,?_⟩
   ·show xU w.sL (n,x.1) w.ne=_;rw [BD hx,i0.sL,i0.ne]
   ·show (if (w.sL (n,x.1)).isSome then w.ne else w.ne+1)=_;rw [i0.sL,nM.2 hx,W8,i0.ne] <;> rfl
  ·rw [Xl];rintro (h | h)
   ·exact hd s (.inr hs) h
   ·have:(n,s)=(n,x.1):=by simpa using h
    have:s=x.1:=(YZ this).2
    exact hn.1 (this▸hs)
theorem vD (n sec:Nat):∀ (l:List cF) (i:Nat),(o7 n sec i l).map zN=(eb l).map fun s=>(n,s)
 | [],i=>rfl
 | x::l,i=>by
  rw [o7,rX,Xf,Xf,vD n sec l (i+1)]
  by_cases hk:x.kind=1 <;> simp [hk,zN]
def WI.WH {w:LW} {L:List Lb} {E:List Ky} {n:Nat} (i0:WI w L E) {u:cd} (hn:(fv u).Nodup) (h1:∀ k,k∈L.map zN->k.1<n) (h2:∀ k,k∈E->k.1<n):WI (EM n u w) (L++E4 n u) (E++u.bg.map fun e=>(n,e.1)):=by
 unfold fv at hn;rw [XW,XW] at hn;obtain ⟨⟨n1,n2,n3⟩,n4,n5⟩:=hn;unfold EM E4;rw [<- Xs];refine WI.eqs _ (WI.QJ i0 _ _ (WI.QJ i0 _ _ i0 n1 (fun s hs h=>by have:=h1 _ h; simp at this)) n2 (fun s hs h=>?_)) n4 (fun s hs h=>by have:=h2 _ h; simp at this);rw [Xf,Xl] at h;rcases h with h | h
 ·have:=h1 _ h; simp at this
 ·rw [vD] at h;obtain ⟨t,ht,he⟩:=Xd.1 h
  have:t=s:=(YZ he).2
  exact n3 t ht s hs this
theorem WI.wI:∀ (us:List cd) (n:Nat) {w:LW} {L:List Lb} {E:List Ky} (i0:WI w L E) (hn:∀ u,u∈us->(fv u).Nodup) (h1:∀ k,k∈L.map zN->k.1<n) (h2:∀ k,k∈E->k.1<n),WI (mJ n us w) (L++bY n us) (E++(ef n us).map jD)
 | [],n,w,L,E,i0,hn,h1,h2=>by simpa [mJ,bY,ef] using i0
 | u::us,n,w,L,E,i0,hn,h1,h2=>by
  rw [mJ,bY,ef,Xf,<- Xs,<- Xs];have he:(u.bg.map fun e=>(n,e)).map jD=u.bg.map fun e=>(n,e.1):=by rw [Xv]; rfl
  rw [he];refine WI.wI us (n+1) (WI.WH i0 (hn u aj) h1 h2) (fun v hv=>hn v (by simp [hv])) (fun k hk=>?_) (fun k hk=>?_)
  ·rw [Xf,Xl] at hk;rcases hk with hk | hk
   ·have:=h1 _ hk; omega
   ·unfold E4 at hk;rw [Xf,vD,vD,<- Xf] at hk;obtain ⟨s,_,rfl⟩:=Xd.1 hk;show n<n+1;omega
  ·rcases Xl.1 hk with hk | hk
   ·have:=h2 _ hk; omega
   ·obtain ⟨s,_,rfl⟩:=Xd.1 hk;show n<n+1;omega
def vW {u:cd} (h:eS u=0):(fv u).Nodup:=by
 have h1:=(ze h).2;rw [wQ] at h1;unfold wO at h1;simp only [Bool.and_eq_true,decide_eq_true_eq] at h1;exact h1.2.2.2.1
def Q3 {us:List cd} (hr:∀ u,u∈us->eS u=0):WI (mJ 0 us QY) (bY 0 us) ((ef 0 us).map jD):=by
 have:=WI.wI us 0 (w:=QY) (L:=[]) (E:=[]) ⟨rfl,rfl,rfl,rfl⟩ (fun u hu=>vW (hr u hu)) aj aj
 simpa using this
def Lz {n:Nat} {u:cd} {w:LW}:(EJ n u w).lb=w.lb/\(EJ n u w).num=w.num/\(EJ n u w).sL=w.sL/\(EJ n u w).ne=w.ne:=by
 have h:=Nk n u.aY w;exact ⟨h.1,h.2.1,h.2.2.2.1,h.2.2.2.2⟩
theorem AZ:∀ (us:List cd) (n:Nat) (w w':LW),kq n us w=.ok w'->w'.lb=w.lb/\w'.num=w.num/\w'.sL=w.sL/\w'.ne=w.ne
 | [],n,w,w',h=>by
  unfold kq at h;cases h;exact ⟨rfl,rfl,rfl,rfl⟩
 | u::us,n,w,w',h=>by
  rw [kq] at h;split at h
  ·cases h
  ·have h1:=AZ us (n+1) _ w' h;have h2:=Lz (n:=n) (u:=u) (w:=w);exact ⟨h1.1.trans h2.1,h1.2.1.trans h2.2.1,h1.2.2.1.trans h2.2.2.1,h1.2.2.2.trans h2.2.2.2⟩
def WI.meet {us:List cd} {n:Nat} {w w':LW} {L:List Lb} {E:List Ky} (i0:WI w L E) (h:kq n us w=.ok w'):WI w' L E:=by
 have:=AZ us n w w' h
 exact ⟨this.1.trans i0.lb,this.2.1.trans i0.num,this.2.2.1.trans i0.sL,this.2.2.2.trans i0.ne⟩
def WI.Jk {w:LW} {L:List Lb} {E:List Ky} (i0:WI w L E) (h1:L.length<=2^50) (h2:E.length<=2^50):Of w:=by
 refine ⟨fun k i h=>?_,fun k i h=>?_⟩
 ·rw [i0.num] at h;obtain ⟨hi,_⟩:=jn h;rw [W3] at hi;omega
 ·rw [i0.sL] at h;obtain ⟨hi,_⟩:=jn h;omega
def H5 (u:Nat):(Lib.decDigits u).foldl (fun a b=>a*10+(b.toNat-48)) 0=u:=by
 induction u using Nat.strongRecOn with
 | ind u ih =>
  rw [Lib.decDigits];split
  ·next h =>
   have h1:(UInt8.ofNat (48+u)).toNat=48+u:=by rw [UInt8.toNat_ofNat']; omega
   simp only [List.foldl_cons,List.foldl_nil,h1];omega
  ·next h =>
   have h1:(UInt8.ofNat (48+u % 10)).toNat=48+u % 10:=by rw [UInt8.toNat_ofNat']; omega
   rw [XX,ih (u / 10) ad];simp only [List.foldl_cons,List.foldl_nil,h1];omega
def vG (n:Nat):kF n=⟨(Lib.decDigits n).toArray⟩:=by
 unfold kF;rw [Lib.itoa_nonneg]
def rQ {m n:Nat} (h:kF m=kF n):m=n:=by
 rw [vG,vG] at h;have h1:Lib.decDigits m=Lib.decDigits n:=by
  have:=Xj (fun b:ZA=>b.data.toList) h
  simpa using this
 rw [<- H5 m,h1,H5]
def eu (a b:ZA):(a++b).data.toList=a.data.toList++b.data.toList:=by
 rw [ByteArray.data_append,Array.toList_append]
def vh {a b c:ZA} (h:a++b=a++c):b=c:=by
 have h1:=Xj (fun b:ZA=>b.data.toList) h;simp only [eu] at h1;have h2:=List.append_cancel_left h1;cases b; cases c;simp only at h2
 congr 1
 exact Array.ext' h2
def word_inj {w:LW} {L:List Lb} {E:List Ky} (i0:WI w L E) {k k':Ky} (hk:k∈L.map zN\/k∈E) (hk':k'∈L.map zN\/k'∈E) (h:w.word k=w.word k'):k=k':=by
 have hne:∀ a b:ZA,(⟨#[76]⟩:ZA)++a≠(⟨#[69]⟩:ZA)++b:=by
  intro a b e;have h1:=Xj (fun b:ZA=>b.data.toList) e;simp only [eu] at h1;simp at h1
 have hg:∀ {k:Ky},k∈L.map zN\/k∈E->w.num k=none->∃ i,w.sL k=some i/\∃ hi:i<E.length,E[i]=k:=by
  intro k hk hn;rw [i0.num] at hn
  have:=nM.1 hn
  have hk:k∈E:=hk.elim (fun h=>absurd h this) id;obtain ⟨i,hi⟩:=Aq hk;exact ⟨i,by rw [i0.sL]; exact hi,jn hi⟩
 unfold LW.word at h;cases h1:w.num k with
 | some i =>
  cases h2:w.num k' with
  | some j =>
   rw [h1,h2] at h
   have:=rQ (vh h)
   subst this;rw [i0.num] at h1 h2;obtain ⟨a,ha⟩:=jn h1;obtain ⟨b,hb⟩:=jn h2;rw [<- ha,<- hb]
  | none =>
   rw [h1,h2] at h;exact absurd h (hne _ _)
 | none =>
  obtain ⟨i,h3,hi,hie⟩:=hg hk h1;cases h2:w.num k' with
  | some j =>
   rw [h1,h2] at h;exact absurd h.symm (hne _ _)
  | none =>
   obtain ⟨j,h4,hj,hje⟩:=hg hk' h2;rw [h1,h2] at h;simp only [h3,h4,Option.getD_some] at h
   have:=rQ (vh h)
   subst this;rw [<- hie,<- hje]
def Bu {w:LW} (b:Of w) (k:Ky):(w.word k).size<=maxLen:=by
 have hml:2000<=maxLen:=cn
 unfold LW.word;cases h:w.num k with
 | some n =>
  have:=jk (n:=n) (by have:=b.n _ _ h; omega)
  show (_++_:ZA).size<=_;rw [Yu]
  have:(⟨#[76]⟩:ZA).size=1:=rfl
  omega
 | none =>
  have h1:(w.sL k).getD 0<=2^60:=by
   cases h2:w.sL k with
   | none=>simp
   | some i=>have:=b.e _ _ h2; simp; omega
  have:=jk h1
  show (_++_:ZA).size<=_;rw [Yu]
  have:(⟨#[69]⟩:ZA).size=1:=rfl
  omega
def zB {w:LW} {u:Nat} {x:cm} (h:w.bad u x=none):∀ t,t∈x.ai->∃ k,w.own u t.1=some k:=by
 unfold LW.bad at h;rw [Option.map_eq_none_iff,List.find?_eq_none] at h;intro t ht
 have:=h t ht
 cases ho:w.own u t.1 with
 | none=>rw [ho] at this; simp at this
 | some k=>exact ⟨k,rfl⟩
def Hu {w:LW} {u:Nat} {x:cm} (h:w.bad u x=none):∀ t,t∈(w.lin u x).ai->∃ p k,p∈x.ai/\w.own u p.1=some k/\t.1=w.word k:=by
 intro t ht;have hb:=zB h;rcases rE ht with ⟨p,hp,he,ho⟩ | ⟨p,y,v,hp,ho,hv,he⟩
 ·obtain ⟨k,hk⟩:=hb p hp;rw [he] at hk;rw [hk] at ho;cases ho
 ·obtain ⟨k,hk⟩:=hb p hp;rw [hk] at ho;simp only [Option.map_some,Option.some.injEq] at ho;subst ho;refine ⟨p,k,hp,hk,?_⟩;rw [<- he]
  have:v=(w.word k,1):=by simpa [lj] using hv
  rw [this]
def yv {w:LW} {u:Nat} {x:cm} (h:w.bad u x=none):(w.lin u x).ai.length<=x.ai.length:=by
 have hnf:Nf (w.lin u x).ai:=eM _ _;have h1:((w.lin u x).ai.map (·.1)).Nodup:=X5.2 (hnf.1.imp fun h=>j7 h);have h2:=kS ((w.lin u x).ai.map (·.1)) (x.ai.map fun t=>w.word ((w.own u t.1).getD (0,dF))) h1 (fun s hs=>by
  obtain ⟨t,ht,rfl⟩:=Xd.1 hs;obtain ⟨p,k,hp,hk,he⟩:=Hu h t ht;rw [he];refine Xd.2 ⟨p,hp,?_⟩;rw [hk];rfl)
 rwa [W3,W3] at h2
def MO {w:LW} (b:Of w) {u:Nat} {x:cm} (h:w.bad u x=none):∀ t,t∈(w.lin u x).ai->t.1.size<=maxLen:=by
 intro t ht;obtain ⟨p,k,_,_,he⟩:=Hu h t ht;rw [he];exact Bu b k
def A9 {w:LW} {n:Nat} {u:cd} (h:qG w n u=none):(∀ x,x∈u.text->w.bad n x.e=none)/\(∀ x,x∈u.data->w.bad n x.e=none)/\∀ e,e∈u.bg->w.bad n e.2=none:=by
 unfold qG at h;rw [Option.or_eq_none_iff,Option.or_eq_none_iff] at h;obtain ⟨h1,h2,h3⟩:=h;unfold LW.yc at h1 h2;rw [X6] at h1 h2 h3;exact ⟨h1,h2,h3⟩
theorem lQ {w:LW}:∀ (us:List cd) (n:Nat),fJ w n us=none->∀ i,(hi:i<us.length)->qG w (n+i) us[i]=none
 | [],n,h,i,hi=>absurd hi aj
 | u::us,n,h,i,hi=>by
  rw [fJ] at h;cases hb:qG w n u with
  | some s=>rw [hb] at h; cases h
  | none =>
   rw [hb] at h
   match i with
   | 0=>simpa using hb
   | i+1 =>
    have:=lQ us (n+1) h i (by simpa using hi)
    rw [show n+1+i=n+(i+1) from ad] at this;simpa using this
theorem uJ:∀ (us:List cd) (n:Nat) (q:Nat × qY),q∈ef n us->∃ i,∃ hi:i<us.length,q.1=n+i/\q.2∈us[i].bg
 | [],n,q,h=>by simp [ef] at h
 | u::us,n,q,h=>by
  rw [ef,Xl] at h;rcases h with h | h
  ·obtain ⟨e,he,rfl⟩:=Xd.1 h;exact ⟨0,aj,rfl,he⟩
  ·obtain ⟨i,hi,h1,h2⟩:=uJ us (n+1) q h;exact ⟨i+1,by simpa using hi,ad,by simpa using h2⟩
def C8 {w:LW} {us:List cd} (h:fJ w 0 us=none) {q:Nat × qY} (hq:q∈ef 0 us):w.bad q.1 q.2.2=none:=by
 obtain ⟨i,hi,h1,h2⟩:=uJ us 0 q hq
 have:=(A9 (lQ us 0 h i hi)).2.2 _ h2
 rw [h1];exact this
theorem HO:∀ (us:List cd) (n:Nat),(∀ u,u∈us->u.bg.length<=8192)->(ef n us).length<=us.length*8192
 | [],n,h=>by simp [ef]
 | u::us,n,h=>by
  rw [ef,W8,W3,XP];have h1:=HO us (n+1) (fun v hv=>h v (by simp [hv]));have h2:=h u aj;omega
theorem vX:∀ (us:List cd) (n:Nat),(∀ u,u∈us->(u.bg.map (·.1)).Nodup)->((ef n us).map jD).Nodup
 | [],n,h=>by simp [ef]
 | u::us,n,h=>by
  rw [ef,Xf,XW];refine ⟨?_,vX us (n+1) (fun v hv=>h v (by simp [hv])),?_⟩
  ·have:(u.bg.map fun e=>(n,e)).map jD=(u.bg.map (·.1)).map fun s=>(n,s):=by rw [Xv,Xv]; rfl
   rw [this,Yx,X5];exact (Yx.1 (h u aj)).imp fun h e=>h (YZ e).2
  ·intro a ha b hb e;obtain ⟨q,hq,rfl⟩:=Xd.1 ha;obtain ⟨r,hr,rfl⟩:=Xd.1 hb;obtain ⟨x,_,rfl⟩:=Xd.1 hq;obtain ⟨i,_,h1,_⟩:=uJ us (n+1) r hr
   have:n=r.1:=(YZ e).1
   omega
theorem AR:∀ (us:List cd) (n:Nat),((ef n us).map fun q=>q.2.2.ai.length).sum<=((us.flatMap cH).flatMap (·.ai)).length
 | [],n=>by simp [ef]
 | u::us,n=>by
  rw [ef,Xf,List.sum_append,XJ,Yz,W8];have h1:=AR us (n+1);have h2:((u.bg.map fun e=>(n,e)).map fun q=>q.2.2.ai.length).sum<=((cH u).flatMap (·.ai)).length:=by
   unfold cH;rw [Yz,W8,Xv]
   have:∀ l:List qY,(l.map ((fun q:Nat × qY=>q.2.2.ai.length) ∘ fun e=>(n,e))).sum=((l.map (·.2)).flatMap (·.ai)).length:=by
    intro l
    induction l with
    | nil=>rfl
    | cons e l ih=>rw [XH,X1,XH,XJ,W8,ih]; rfl
   rw [this];omega
  omega
structure Fh (us:List cd):Prop where
 right:∀ u,u∈us->eS u=0
 many:us.length<=64
def Fh.bg {us:List cd} (r:Fh us) {u:cd} (hu:u∈us):u.bg.length<=8192/\u.text.length+u.data.length<=8192:=by
 have h:=(ze (r.right u hu)).1;unfold uF at h;rw [Bool.or_eq_false_iff] at h;have h1:=W4 h.1;have h2:=W4 h.2;omega
def Fh.eqs {us:List cd} (r:Fh us):(ef 0 us).length<=2^19:=by
 have h1:=HO us 0 (fun u hu=>(r.bg hu).1);have h2:=r.many;omega
theorem qE (n sec:Nat):∀ (l:List cF) (i:Nat),(o7 n sec i l).length<=l.length
 | [],i=>by simp [o7]
 | x::l,i=>by
  have:=qE n sec l (i+1)
  rw [o7,W8,XP];split <;> simp <;> omega
theorem A5:∀ (us:List cd) (n:Nat),(∀ u,u∈us->u.text.length+u.data.length<=8192)->(bY n us).length<=us.length*8192
 | [],n,h=>by simp [bY]
 | u::us,n,h=>by
  rw [bY,W8,XP];have h1:=A5 us (n+1) (fun v hv=>h v (by simp [hv]));have h2:=h u aj;have h3:=qE n 0 u.text 0;have h4:=qE n 1 u.data 0;unfold E4;rw [W8];omega
def Fh.eb {us:List cd} (r:Fh us):(bY 0 us).length<=2^19:=by
 have h1:=A5 us 0 (fun u hu=>(r.bg hu).2);have h2:=r.many;omega
def Fh.Jk {us:List cd} (r:Fh us) {w:LW} (i0:WI w (bY 0 us) ((ef 0 us).map jD)):Of w :=
 i0.Jk (by have:=r.eb; omega) (by rw [W3]; have:=r.eqs; omega)
def R9 {us:List cd} (r:Fh us) (sm:Im us) {w:LW} (i0:WI w (bY 0 us) ((ef 0 us).map jD)) (hb:fJ w 0 us=none) {es:List cI} (h:es.map fe=uS w us):sN es:=by
 have lb:=r.Jk i0;have hn:Sx.aZ es=(ef 0 us).map fun q=>w.word (jD q):=by
  have:=Xj (List.map (·.1)) h
  unfold uS at this;rw [Xv,Xv] at this;exact this
 have hl:es.length=(ef 0 us).length:=by
  have:=Xj List.length h
  unfold uS at this;simpa using this
 have hmem:∀ e,e∈es->∃ q,q∈ef 0 us/\e.name=w.word (jD q)/\e.x=w.lin q.1 q.2.2:=by
  intro e he;have h1:fe e∈uS w us:=by rw [<- h]; exact Xp he
  unfold uS at h1;obtain ⟨q,hq,h2⟩:=Xd.1 h1;exact ⟨q,hq,(YZ h2).1.symm,(YZ h2).2.symm⟩
 have htot:(es.flatMap (·.x.ai)).length<=2^20:=by
  have e1:∀ l:List cI,(l.flatMap (·.x.ai)).length=((l.map fe).map (·.2.ai.length)).sum:=by
   intro l
   induction l with
   | nil=>rfl
   | cons e l ih=>rw [XJ,W8,XH,XH,X1,ih]; rfl
  rw [e1,h];unfold uS;rw [Xv];have e2:∀ l:List (Nat × qY),(∀ q,q∈l->w.bad q.1 q.2.2=none)->(l.map ((fun p:ZA × cm=>p.2.ai.length) ∘ fun q=>(w.word (q.1,q.2.1),w.lin q.1 q.2.2))).sum<=(l.map fun q=>q.2.2.ai.length).sum:=by
   intro l hl
   induction l with
   | nil=>simp
   | cons q l ih =>
    rw [XH,XH,X1,X1];have h1:=ih (fun p hp=>hl p (by simp [hp]));have h2:=yv (hl q aj);have h3:((fun p:ZA × cm=>p.2.ai.length) ∘ fun q:Nat × qY=>(w.word (q.1,q.2.1),w.lin q.1 q.2.2)) q=(w.lin q.1 q.2.2).ai.length:=rfl;omega
  have h1:=e2 (ef 0 us) (fun q hq=>C8 hb hq);have h2:=AR us 0;have h3:=sm.ai;omega
 refine ⟨⟨?_,?_,?_,?_,?_⟩,htot⟩
 ·rw [hn];have h1:=vX us 0 (fun u hu=>by
   have:=vW (r.right u hu)
   unfold fv at this;rw [XW] at this;exact this.2.1)
  rw [Yx,X5] at h1 ⊢;refine List.Pairwise.imp_of_mem ?_ h1;intro a b ha hb' hne e;exact hne (word_inj i0 (.inr (Xp ha)) (.inr (Xp hb')) e)
 ·have:=r.eqs; omega
 ·intro e he;obtain ⟨q,_,h1,_⟩:=hmem e he;rw [h1];exact Bu lb _
 ·intro e he
  have:=gM (fun e:cI=>e.x.ai) he
  omega
 ·intro e he t ht;obtain ⟨q,hq,_,h2⟩:=hmem e he;rw [h2] at ht;exact MO lb (C8 hb hq) t ht
def JZ {es ms:List cI} (o:sN es) (hc:∀ v,¬ j6 (dl es) v) (hm:ms.map (fun m=>(m.name,m.x))=es.map (fun e=>(e.name,eO es e.name))) (hl:es.length<=2^19) :
  EqsOk ms/\(∀ e,e∈ms->e.x.ai.length<=2^20)/\(ms.flatMap (·.x.ai)).length<=2^39/\ms.length<=2^20:=by
 have hn:Sx.aZ ms=Sx.aZ es:=by
  have:=Xj (List.map (·.1)) hm
  rw [Xv,Xv] at this;exact this
 have hll:ms.length=es.length:=by
  have:=Xj List.length hm
  simpa using this
 have hmem:∀ e,e∈ms->e.name∈Sx.aZ es/\e.x=eO es e.name:=by
  intro e he;have h1:(e.name,e.x)∈es.map (fun e=>(e.name,eO es e.name)):=by rw [<- hm]; exact Xp (f:=fun m:cI=>(m.name,m.x)) he
  obtain ⟨q,hq,h2⟩:=Xd.1 h1;have h3:=(YZ h2).1;exact ⟨by rw [<- h3]; exact Xp hq,by rw [<- (YZ h2).2,h3]⟩
 have hlen:∀ e,e∈ms->e.x.ai.length<=2^20:=fun e he=>by rw [(hmem e he).2]; exact o.Da hc (hmem e he).1
 refine ⟨⟨by rw [hn]; exact o.nodup,ad,fun e he=>?_,fun e he=>by have:=hlen e he; omega,fun e he t ht=>?_⟩,hlen,?_,ad⟩
 ·exact o.names _ (hmem e he).1
 ·rw [(hmem e he).2] at ht;exact o.Kw hc (hmem e he).1 t ht
 ·have e1:∀ l:List cI,(∀ e,e∈l->e.x.ai.length<=2^20)->(l.flatMap (·.x.ai)).length<=l.length*2^20:=by
   intro l h
   induction l with
   | nil=>simp
   | cons e l ih =>
    rw [XJ,W8,XP];have h1:=ih (fun d hd=>h d (by simp [hd]));have h2:=h e aj;omega
  have:=e1 ms hlen
  omega
def SW (n:Int):Instr.fill (fun j=>some (j*1,1)) ((Array.range (1*1)).map ((Value.int .u8 0).cells[· % (Value.int .u8 0).cells.size]!)) [(0,.int .u8 n)]=some ([.int .u8 n]:List ZB).toArray:=az
def tz (n:Nat):ZA:=⟨[UInt8.ofNat (48+n % 10)].toArray⟩
def fS (n:Nat):ZA:=⟨(Lib.decDigits n).toArray⟩
def zk {n:Nat} (h:n<10):fS n=tz n:=by
 unfold fS tz;rw [Lib.decDigits_one h,YL h]
def Jr {n:Nat} (h:¬ n<10) (s:ZA):fS n++s=fS (n / 10)++(tz n++s):=by
 unfold fS tz
 conv=>lhs; rw [Lib.decDigits,dif_neg h]
 apply xw;rw [eu,eu,eu];simp [List.append_assoc]
def xh {L:Lp} {K:ZB->Hp->Prop} {h:Hp} {n:Nat} (hn:n<=2^60) {k:ZA->T} (hk:∀ h',Ext h h'->k (tz n) L K h') :
  T.ek Tryz.prog (Instr.buildSlice 194 1 #[(0,.int .u8 (IntKind.wrap .u8 (IntKind.wrap .i64 ((48:Int)+(Int.tmod (n:Int) (10:Int))))))]) false [(false,[.slice 0])] (fun p3 l4 l5 =>
   T.ek Tryz.prog (convert 194 9 (.slice p3 l4 l5)) false [(false,[.string])] k) L K h:=by
 have hw:=Ta n;rw [hw];refine mH N1 WT ad ad (SW _) ?_;intro h1 b1 e1 z1;have s1:SL h1 h.size 5 1 (some ⟨h.size,0,none⟩) 1 1 (M2 [UInt8.ofNat (48+n % 10)]):=⟨rfl,by simp [M2],h.size,[],[],rfl,Xk _,ad,by simpa [M2] using b1,aj⟩
 exact Mh s1 aj (hk h1 e1)
def yk (s:ZA):((ByteArray.toList s)==([]:List UInt8))=decide (s.data.toList=[]):=by
 rw [ByteArray.toList_eq];cases h:s.data.toList <;> simp
def wG {h:Hp} {n:Nat} (hn:n<=2^60):HC Tryz.prog 74 #[.int .i64 (n:Int)] h fun w h'=>w=.string (fS n)/\Ext h h':=by
 refine bd (args:=[.int .i64 (n:Int)]) mixed Tryz.func74 az (lV n) ?_;unfold iC bm bR bt bT aR;have hd1:∀ m,(tz m).size=1:=fun m=>rfl
 have hde:∀ m s,¬ (tz m++s).data.toList=[]:=fun m s hh=>by rw [eu] at hh; simp [tz] at hh
 refine aU (cs:=[(false,[.int .i64]),(false,[.string])]) (fun y k h'=>∃ (m:Nat) (s:ZA),y.1=(m:Int)/\y.2.1=s/\k=2*m+(if s.data.toList=[] then 1 else 0)/\m<=n/\s.size+m<=n+1/\Ext h h'/\((s=⟨#[]⟩/\m=n)\/(¬ s.data.toList=[]/\fS n=(if m=0 then ⟨#[]⟩ else fS m)++s))) ((n:Int),(⟨#[]⟩:ZA),()) _ rfl
  ⟨n,⟨#[]⟩,rfl,rfl,rfl,Xk _,by show 0+n<=n+1; omega,Ch.refl _ _,.inl ⟨rfl,rfl⟩⟩ ?_
 rintro ⟨n1,(s:ZA),⟨⟩⟩ k h1 ⟨m,s',hi,hs',rfl,hmn,hsz,e1,hs⟩;simp only at hi hs';subst hi hs';refine ao ?_;have hdiv:IntKind.wrap .i64 (Int.tdiv (m:Int) 10)=((m / 10:Nat):Int):=by
  have:Int.tdiv (m:Int) 10=((m / 10:Nat):Int):=by rw [Int.tdiv_eq_ediv_of_nonneg ad]; omega
  rw [this,wrap_i64 ad ad]
 have hsa:∀ s:ZA,(tz m++s).size=1+s.size:=fun s=>by rw [Yu,hd1]
 refine ak (fun q=>?_) (fun q=>?_)
 ·have q:=W2 q;have hm:¬ m=0:=ad
  refine ay cn ?_;refine xh ad ?_;intro h2 e2;refine ay (by show ((((tz m).size+s.size:Nat)):Int)<=_; rw [hd1]; omega) (ay cn ?_);have hb:fS n=fS m++s:=by
   rcases hs with ⟨rfl,rfl⟩ | ⟨_,hs⟩
   ·apply xw;rw [eu]
    simp
   ·rw [hs,W6 hm]
  refine aI (cs:=[(false,[.int .i64]),(false,[.string])]) (((m / 10:Nat):Int),tz m++s,()) (2*(m / 10)+0) rfl ad (Xj (fun z=>[Value.int .i64 z,.string (tz m++s)]) hdiv) ⟨m / 10,tz m++s,rfl,rfl,by rw [W6 (hde m s)],ad,by rw [hsa]; omega,e1.trans e2,.inr ⟨hde m s,?_⟩⟩;rw [hb]
  by_cases h10:m<10
  ·rw [zk h10,Xb ad];apply xw;rw [eu,eu,eu]
   simp
  ·rw [Jr h10,W6 ad]
 ·have q:=W4 q;have hm:m=0:=ad
  subst hm;rw [yk];refine ak (fun r=>?_) (fun r=>?_)
  ·have r:=W2 r;rcases hs with ⟨rfl,h0⟩ | ⟨hh,_⟩
   ·subst h0;refine ay cn ?_;refine xh ad ?_;intro h2 e2;refine ay cn (ay cn ?_);refine aI (cs:=[(false,[.int .i64]),(false,[.string])]) (((0:Nat):Int),tz 0++⟨#[]⟩,()) 0 rfl aj rfl ⟨0,tz 0++⟨#[]⟩,rfl,rfl,by rw [W6 (hde 0 _)],ad,cn,e1.trans e2,.inr ⟨hde 0 _,?_⟩⟩;rw [zk ad,Xb rfl];apply xw;rw [eu,eu]
    simp
   ·exact absurd r hh
  ·have r:=W4 r;rcases hs with ⟨rfl,_⟩ | ⟨_,hs⟩
   ·exact absurd rfl r
   ·refine ⟨?_,e1⟩;rw [hs,Xb rfl]
    congr 1
def lG (us:List cd) (n:Nat) (x:cm):Option ZA:=(x.ai.find? fun t=>(jl us n t.1).isNone).map (·.1)
def dN (us:List cd) (n:Nat) (x:cm):ZA:=(lG us n x).getD ⟨#[]⟩
def Ot (o:Option Nat):decide (PM o<0)=o.isNone:=by
 cases o with
 | none=>rfl
 | some k=>exact Xa (by show ¬ ((k:Int)<0); omega)
def ET {h:Hp} {p:ZC} {l c:Nat} {us:List cd} (v:xX h p l us) (sz:J7 us) {n:Nat} (hn:n<us.length) {q:ZC} {m d:Nat} {x:cm} (u:gK h q m x.ai) (hx:x.ai.length<=2^60) :
  HC Tryz.prog 99 #[.slice p l c,.int .i64 (n:Int),iA q m d x] h fun w h'=>w=.string (dN us n x)/\Ext h h':=by
 refine bd (args:=[.slice p l c,.int .i64 (n:Int),.agg #[.slice q m d,.int .u32 x.num]]) mixed Tryz.func99 az (mQ p l c n q m d x.num) ?_;unfold ja bf bh bG aQ cD aH bT aR;have hll:=u.len;refine bk ?_;intro h1 b1 e1 z1;refine aU (cs:=[(false,[.string]),(false,[.int .i64])]) (fun y k h'=>∃ i:Nat,y.2.1=(i:Int)/\k=x.ai.length-i/\i<=x.ai.length/\Ext h h'/\Ext h1 h'/\∀ j,j<i->(hj:j<x.ai.length)->(jl us n x.ai[j].1).isNone=false) ((⟨#[]⟩:ZA),(0:Int),()) x.ai.length rfl
  ⟨0,rfl,rfl,ad,e1,Ch.refl _ _,fun j hj=>absurd hj ad⟩ ?_
 rintro ⟨s4,n5,⟨⟩⟩ k h2 ⟨i,hi,rfl,hle,e02,e12,hno⟩;simp only at hi;subst hi;refine ao ?_;have b2:=b1.an e12 aj;refine af b2 ((q,m,d),()) rfl (ao ?_);refine ak (fun g=>?_) (fun g=>?_)
 ·have g:=W2 g;have hil:i<x.ai.length:=ad
  refine af b2 ((q,m,d),()) rfl (ao ?_);obtain ⟨a,rfl,hc⟩:=(u.an e02 aj).cells i hil;refine ay ⟨ad,ad⟩ (ax rfl ?_);rw [show Int.toNat (i:Int)=i from ad];refine aC (x.ai[i].1,()) ⟨hc.1,trivial⟩ (ao ?_);refine aK (Ej (c:=c) (v.an e02) sz hn x.ai[i].1) ?_;rintro _ h3 ⟨rfl,e3⟩;refine ⟨(PM (jl us n x.ai[i].1),()),rfl,ao ?_⟩;rw [Ot];refine ak (fun r=>?_) (fun r=>?_)
  ·refine af (b2.an e3 aj) ((some a,m,d),()) rfl (ao ?_);refine ay ⟨ad,ad⟩ (ax rfl ?_);refine aC (x.ai[i].1,()) ⟨(aX e3 aj _ _ hc).1,trivial⟩ ?_;refine ⟨?_,e02.trans e3⟩;unfold dN lG;rw [kO (fun t:ZA × Nat=>(jl us n t.1).isNone) x.ai i hil (fun j hj=>hno j hj ad) r] <;> rfl
  ·refine aI (cs:=[(false,[.string]),(false,[.int .i64])]) (s4,((i+1:Nat):Int),()) (x.ai.length-(i+1)) rfl ad (by rw [wrap_i64 ad ad]; rfl) ?_;exact ⟨i+1,rfl,rfl,ad,e02.trans e3,e12.trans e3,fun j hj hx=>by
    by_cases e:j=i
    ·subst e; exact r
    ·exact hno j ad hx⟩
 ·have g:=W4 g
  have:i=x.ai.length:=ad
  subst this;refine ⟨?_,e02⟩;unfold dN lG;rw [nz (fun t:ZA × Nat=>(jl us n t.1).isNone) x.ai fun j hj=>hno j hj hj] <;> rfl
def rM {P:Program} {h:Hp} {L:Lp} {K:ZB->Hp->Prop} {k:ZC->Nat->Nat->T} {t ty e:TypeId} {z:ZB} {sz by':Nat} (ht:P.underlying t=some (.slice e)) (hinf:(P.info? e).map (fun i=>(i.zero,i.size,i.bytes))=some (some z,sz,by'))
  (hzs:z.cells.size=sz) {b:Nat} {p:ZC} {l c:Nat} {xs:List (List ZB)} (s:SL h b e sz p l c xs) {q:ZC} {m d:Nat} {ys:List (List ZB)} (hsrc:(q=none/\ys=[])\/∃ a,q=some a/\aJ h a 0 ys.flatten) (hm:m=ys.length) (hys:∀ y,y∈ys->y.length=sz) (hpl:ys.flatten.all cX=true)
  (hby:(2*(l+m)+1024)*by'<=2^48) (hlm:l+m<=2^48) (hb:b<=h.size)
  (hk:∀ p' c' h',SL h' b e sz p' (l+m) c' (xs++ys)->Ch (aP p) h h'->k p' (l+m) c' L K h') :
  T.ek P (Builtin.append_ #[t,t] ty #[.slice p l c,.slice q m d]) false [(false,[.slice 0])] k L K h:=by
 obtain ⟨i,hi,hz,rfl,rfl⟩:=ou hinf;refine dt ?_;rcases hsrc with ⟨rfl,rfl⟩ | ⟨a,rfl,hc⟩
 ·have h0:m=0:=hm;subst h0;have hc0:l<=c:=SL.F1 s;simp [Builtin.append_,ar,aF ht,bS hi,cE hi,Builtin.lenOf,Builtin.firstCells,hc0];have hfin:∃ p' l' c',Value.slice p l c=.slice p' l' c'/\k p' l' c' L K h:=⟨p,l,c,rfl,by simpa using hk p c h (by simpa using s) (Ch.refl _ _)⟩
  cases p with
  | none=>exact hfin
  | some a=>exact hfin
 ·exact nZ (P:=P) (K:=fun v h'=>∃ p l c,v=.slice p l c/\k p l c L K h') (ty:=ty) (ys:=ys) ht hi hz hzs s hm hys hc hpl hby hlm hb fun p' c' h' s' k' _=>⟨p',_,c',rfl,hk p' c' h' s' k'⟩
def pX (us:List cd) (n:Nat) (l:List cm):ZA:=((l.map (dN us n)).find? fun s=>!decide (s.data.toList=[])).getD ⟨#[]⟩
def Hk {us:List cd} {n:Nat} {l:List cm} {i:Nat} (hi:i<l.length) (h:∀ j,(hj:j<i)->(dN us n (l[j]'ad)).data.toList=[]) (hs:¬ (dN us n l[i]).data.toList=[]):pX us n l=dN us n l[i]:=by
 unfold pX;rw [kO (fun s:ZA=>!decide (s.data.toList=[])) (l.map (dN us n)) i (by rw [W3]; exact hi) (fun j hj=>by rw [Xc]; simp [h j hj]) (by rw [Xc]; simpa using hs)];rw [Xc] <;> rfl
def IH {us:List cd} {n:Nat} {l:List cm} (h:∀ j,(hj:j<l.length)->(dN us n l[j]).data.toList=[]):pX us n l=⟨#[]⟩:=by
 unfold pX;rw [nz (fun s:ZA=>!decide (s.data.toList=[])) (l.map (dN us n)) fun j hj=>by
  rw [W3] at hj;rw [Xc];simp [h j hj]]
 rfl
def CA {h:Hp} {p:ZC} {l c:Nat} {us:List cd} (v:xX h p l us) (sz:J7 us) {n:Nat} (hn:n<us.length) :
  HC Tryz.prog 72 #[.slice p l c,.int .i64 (n:Int)] h fun w h'=>w=.string (pX us n (cH us[n]))/\Ext h h':=by
 refine bd (args:=[.slice p l c,.int .i64 (n:Int)]) mixed Tryz.func72 az (j2 p l c n) ?_;unfold gd bf bh bG aQ gF bm aH bi bT aR;have hll:=v.len;have hmany:=sz.many;obtain ⟨a,sa,sb,sc,sd,rfl,hc,va⟩:=v.cells n hn;have hm:=Xe hn;generalize us[n]=u at hc va hm;refine ay ⟨ad,ad⟩ (ax rfl ?_);rw [show Int.toNat (n:Int)=n from ad];refine aC ((sa.p,sa.l,sa.c),(sb.p,sb.l,sb.c),(sc.p,sc.l,sc.c),(sd.p,sd.l,sd.c),()) hc (ao ?_);refine bk ?_;intro h1 b1 e1 z1;refine aw b1 rfl aj ?_;intro h2 b2 k2 z2;have b2:bH h2 h.size 47 [sa.v,sb.v,sc.v,sd.v]:=b2;have e2:Ext h h2:=Ch.trans e1 k2 (fun j hj hl=>by simp at hj; omega);refine af b2 ((sa.p,sa.l,sa.c),()) rfl (ao ?_);rw [aG];refine af b2 ((sb.p,sb.l,sb.c),()) rfl (ao ?_);have va2:=va.an e2;obtain ⟨wt,hwt,vwt,iwt⟩:=Ct va2.text;obtain ⟨wd,hwd,vwd,iwd⟩:=Ct va2.data;have hlt:wt.length=u.text.length:=by rw [<- hwt,W3]
 have hld:wd.length=u.data.length:=by rw [<- hwd,W3]
 have h1t:=sz.text u hm;have h1d:=sz.data u hm;have h1e:=sz.bg u hm;have hlvt:=vwt.len;have hlvd:=vwd.len;refine HI (z:=.agg iz.toArray) (sz:=10) (by':=104) Ap DP ?_;intro h3 s3 e3;have z3:=e3.size;have z2':=e2.size;have b3:=b2.an e3 aj;refine ⟨⟨b3.cells _ rfl,b3.cells _ rfl,trivial⟩,?_⟩;have esrc:∀ {h h':Hp} {q:ZC} {us:List (cv × cF)},Ext h h'->((q=none/\us.map sK=[])\/∃ a,q=some a/\aJ h a 0 (us.map sK).flatten)->((q=none/\us.map sK=[])\/∃ a,q=some a/\aJ h' a 0 (us.map sK).flatten):=by
  rintro h h' q us e (x | ⟨a,ha,hc⟩)
  ·exact .inl x
  ·exact .inr ⟨a,ha,aX e aj _ _ hc⟩
 refine rM (z:=.agg iz.toArray) (sz:=10) (by':=104) Ap DP rfl s3 (esrc e3 vwt.src) (by simpa using hlvt) (nL wt) (oz wt) ad ad ad ?_;intro p4 c4 h4 s4 k4;have e4:Ext h2 h4:=Ch.trans e3 k4 (fun j hj hl=>by simp [aP] at hj; omega);have b4:=b2.an e4 aj;have z4:=e4.size;rw [Yr] at s4;refine ⟨⟨b4.cells _ rfl,trivial⟩,?_⟩;refine rM (z:=.agg iz.toArray) (sz:=10) (by':=104) Ap DP rfl s4 (esrc e4 vwd.src) (by simpa using hlvd) (nL wd) (oz wd) ad ad ad ?_;intro p5 c5 h5 s5 k5;have e5:Ext h2 h5:=Ch.trans e4 k5 (fun j hj hl=>by have:=(s4.cj hj).1; omega);have b5:=b2.an e5 aj;rw [<- Xf] at s5;refine ⟨⟨b5.cells _ rfl,trivial⟩,?_⟩;have e05:=e2.trans e5;have hI:∀ w,w∈wt++wd->kC h5 w.1.p w.1.l w.2:=fun w hw=>by
  rcases Xl.1 hw with hw | hw
  ·exact (iwt w hw).an e5
  ·exact (iwd w hw).an e5
 have hE:(wt++wd).map (fun w=>w.2.e)=u.text.map (·.e)++u.data.map (·.e):=by
  rw [Xf,<- hwt,<- hwd,Xv,Xv] <;> rfl
 have hlin:cH u=(wt++wd).map (fun w=>w.2.e)++u.bg.map (·.2):=by rw [hE]; rfl
 have hwl:(wt++wd).length=sa.l+sb.l:=by rw [W8]; omega
 generalize wt++wd=W at s5 hI hlin hwl;clear hE;refine aU (cs:=[(false,[.string]),(false,[.int .i64])]) (fun y k h'=>∃ i:Nat,y.2.1=(i:Int)/\k=W.length-i/\i<=W.length/\Ext h5 h'/\∀ j,j<i->(hj:j<W.length)->(dN us n W[j].2.e).data.toList=[]) ((⟨#[]⟩:ZA),(0:Int),()) W.length rfl
  ⟨0,rfl,rfl,ad,Ch.refl _ _,fun j hj=>absurd hj ad⟩ ?_
 rintro ⟨s31,n32,⟨⟩⟩ k h6 ⟨i,hi,rfl,hle,e6,hno⟩;simp only at hi;subst hi;refine ao ?_;have s6:=s5.bM e6 aj;have e06:=e05.trans e6;have b6:=b5.an e6 aj;refine ak (fun g=>?_) (fun g=>?_)
 ·have g:=W2 g;have hil:i<W.length:=ad
  obtain ⟨a6,rfl,hc6⟩:=SL.cells s6 (i:=i) (by rw [W3]; exact hil);rw [Xc] at hc6;have hiw:=(hI _ (Xe hil)).an e6;refine ay ⟨ad,ad⟩ (ax rfl ?_);rw [show Int.toNat (i:Int)=i from ad];refine aC ((W[i].1.p,W[i].1.l,W[i].1.c),(W[i].2.e.num:Int),()) ⟨by rw [add_add]; exact hc6.2.2.2.2.2.2.2.1,by rw [add_add]; exact hc6.2.2.2.2.2.2.2.2.1,trivial⟩ ?_;refine ao ?_;refine aK (ET (c:=c) (d:=W[i].1.c) (v.an e06) sz hn hiw.lin.vw hiw.lin.many) ?_;rintro _ h7 ⟨rfl,e7⟩;refine ⟨(dN us n W[i].2.e,()),rfl,ao ?_⟩;rw [yk];refine ak (fun r=>?_) (fun r=>?_)
  ·have r:¬ (dN us n W[i].2.e).data.toList=[]:=by simpa using r
   refine ⟨?_,e06.trans e7⟩;rw [hlin,Hk (i:=i) (by rw [W8,W3]; omega) (fun j hj=>by
    rw [Yv (by rw [W3]; omega),Xc];exact hno j hj ad) (by
    rw [Yv (by rw [W3]; omega),Xc];exact r)]
   rw [Yv (by rw [W3]; omega),Xc]
  ·have r:(dN us n W[i].2.e).data.toList=[]:=by simpa using r
   refine aI (cs:=[(false,[.string]),(false,[.int .i64])]) (s31,((i+1:Nat):Int),()) (W.length-(i+1)) rfl ad (by rw [wrap_i64 ad ad]; rfl) ?_;exact ⟨i+1,rfl,rfl,ad,e6.trans e7,fun j hj hx=>by
    by_cases e:j=i
    ·subst e; exact r
    ·exact hno j ad hx⟩
 ·have g:=W4 g;have hiW:i=W.length:=ad
  subst hiW;have veq:=va.bg;have hlq:=veq.len;refine aU (cs:=[(false,[.string]),(false,[.int .i64])]) (fun y k h'=>∃ i:Nat,y.2.1=(i:Int)/\k=u.bg.length-i/\i<=u.bg.length/\Ext h5 h'/\∀ j,j<i->(hj:j<u.bg.length)->(dN us n u.bg[j].2).data.toList=[]) (s31,(0:Int),()) u.bg.length rfl
   ⟨0,rfl,rfl,ad,e6,fun j hj=>absurd hj ad⟩ ?_
  rintro ⟨s33,n34,⟨⟩⟩ k h7 ⟨i,hi,rfl,hle,e7,hno7⟩;simp only at hi;subst hi;refine ao ?_;have b7:=b5.an e7 aj;have e07:=e05.trans e7;rw [aG];refine af b7 ((sc.p,sc.l,sc.c),()) rfl (ao ?_);refine ak (fun g=>?_) (fun g=>?_)
  ·have g:=W2 g;have hil:i<u.bg.length:=ad
   refine af b7 ((sc.p,sc.l,sc.c),()) rfl (ao ?_);obtain ⟨aq,q,m,d,haq,hcq,hvq,_⟩:=(veq.an e07).cells i hil;refine ay ⟨ad,ad⟩ (ax haq ?_);rw [show Int.toNat (i:Int)=i from ad];refine aC ((q,m,d),(u.bg[i].2.num:Int),()) ⟨by rw [add_add]; exact hcq.2.1,by rw [add_add]; exact hcq.2.2.1,trivial⟩ ?_;refine ao ?_;refine aK (ET (c:=c) (d:=d) (v.an e07) sz hn hvq.vw hvq.many) ?_;rintro _ h8 ⟨rfl,e8⟩;refine ⟨(dN us n u.bg[i].2,()),rfl,ao ?_⟩;rw [yk];have hlen:(W.map fun w=>w.2.e).length=W.length:=W3 _;refine ak (fun r=>?_) (fun r=>?_)
   ·have r:¬ (dN us n u.bg[i].2).data.toList=[]:=by simpa using r
    refine ⟨?_,e07.trans e8⟩;have hget:∀ j (hj:j<u.bg.length),((W.map fun w=>w.2.e)++u.bg.map (·.2))[W.length+j]'(by rw [W8,W3,W3]; omega)=u.bg[j].2:=fun j hj=>by
     rw [List.getElem_append_right (by rw [hlen]; omega)];simp [hlen]
    rw [hlin,Hk (i:=W.length+i) (by rw [W8,W3,W3]; omega) (fun j hj=>by
     by_cases hjW:j<W.length
     ·rw [Yv (by rw [hlen]; omega),Xc];exact hno j ad hjW
     ·have:=hget (j-W.length) ad
      simp only [show W.length+(j-W.length)=j from ad] at this;rw [this];exact hno7 _ ad _) (by rw [hget i hil]; exact r),hget i hil]
   ·have r:(dN us n u.bg[i].2).data.toList=[]:=by simpa using r
    refine aI (cs:=[(false,[.string]),(false,[.int .i64])]) (s33,((i+1:Nat):Int),()) (u.bg.length-(i+1)) rfl ad (by rw [wrap_i64 ad ad]; rfl) ?_;exact ⟨i+1,rfl,rfl,ad,e7.trans e8,fun j hj hx=>by
     by_cases e:j=i
     ·subst e; exact r
     ·exact hno7 j ad hx⟩
  ·have g:=W4 g;have hie:i=u.bg.length:=ad
   subst hie;refine ⟨?_,e07⟩;rw [hlin,IH fun j hj=>by
    rw [W8,W3,W3] at hj
    by_cases hjW:j<W.length
    ·rw [Yv (by rw [W3]; omega),Xc];exact hno j hjW hjW
    ·rw [List.getElem_append_right (by rw [W3]; omega),Xc];exact hno7 _ (by simp; omega) _]
theorem jL {α:Type} (f:Nat->Option α) (x:α):∀ (n i:Nat),i<n->(∀ j,j<i->f j=none)->f i=some x->(List.range n).findSome? f=some x
 | 0,i,hi,_,_=>absurd hi ad
 | n+1,i,hi,h0,hx=>by
  rw [List.range_succ,Y3]
  by_cases h:i<n
  ·rw [jL f x n i h h0 hx] <;> rfl
  ·have:i=n:=ad
   subst this;have hn:(List.range i).findSome? f=none:=by
    rw [X6];intro j hj;exact h0 j (YM.1 hj)
   rw [hn];simp [hx]
def jC {α:Type} (f:Nat->Option α) (n:Nat) (h:∀ j,j<n->f j=none):(List.range n).findSome? f=none:=by
 rw [X6];intro j hj;exact h j (YM.1 hj)
def xO (us:List cd) (i:Nat):Option (Nat × ZA):=us[i]?.bind fun u=>(u.aY.find? fun s=>(us.take i).any fun v=>fX v.aY s).map fun s=>(i,s)
def Dm (us:List cd):Option (Nat × ZA):=(List.range us.length).findSome? (xO us)
def Ak (us:List cd) (i:Nat):Option (Nat × ZA):=us[i]?.bind fun u=>if (pX us i (cH u)).data.toList=[] then none else some (i,pX us i (cH u))
def Mm (us:List cd):Option (Nat × ZA):=(List.range us.length).findSome? (Ak us)
def fw (us:List cd):Fl :=
 if us.length=0 then ⟨25,0,dF⟩
 else if 64<us.length then ⟨4,0,dF⟩
 else match us.findIdx? fun u=>decide (eS u≠0) with
 | some n=>⟨31,n,dF⟩
 | none=>match Dm us with
  | some q=>⟨22,q.1,q.2⟩
  | none=>match Mm us with
   | some q=>⟨23,q.1,q.2⟩
   | none=>⟨0,0,dF⟩
def N' (f:Fl):ZB:=.agg #[.int .i64 (f.pW:Int),.int .i64 (f.unit:Int),.string f.name]
def rH {L:Lp} {K:ZB->Hp->Prop} {h0 h:Hp} {g:Nat} {a b:Int} {s:ZA} (bx:bH h g 75 [.int .i64 a,.int .i64 b,.string s]) (e0:Ext h0 h) (hg:h0.size<=g) (f:Fl) (hk:∀ h',Ext h0 h'->K (N' f) h') :
  T.aE ⟨g,0,none⟩ [.int .i64 (f.pW:Int),.int .i64 (f.unit:Int),.string f.name] (T.ah ⟨g,0,none⟩ [.int .i64,.int .i64,.string] fun (n2:Int) (n3:Int) (s4:ZA)=>T.ret (.agg #[.int .i64 n2,.int .i64 n3,.string s4])) L K h:=by
 refine aw bx rfl aj ?_;intro h2 b2 k2 z2;have b2:bH h2 g 75 [.int .i64 (f.pW:Int),.int .i64 (f.unit:Int),.string f.name]:=b2;refine af b2 ((f.pW:Int),(f.unit:Int),f.name,()) rfl ?_;exact hk h2 (Ch.trans e0 k2 (fun j hj hl=>by simp at hj; omega))
def J7.of {us:List cd} (h64:us.length<=64) (hr:∀ u,u∈us->eS u=0):J7 us:=by
 have r:Fh us:=⟨hr,h64⟩
 refine ⟨ad,fun u hu=>?_,fun u hu=>?_,fun u hu=>?_⟩ <;> have:=r.bg hu <;> omega
def G2 {h : Hp} {p : ZC} {l c : Nat} {us : List cd} (v : xX h p l us) : HC Tryz.prog 48 #[.slice p l c] h fun w h' => w = N' (fw us) /\ Ext h h' := by
  refine bd (args := [.slice p l c]) mixed Tryz.func48 az (lr p l c) ?_;unfold gZ bf bh bG aQ aT cD gF bT aR;have hll := v.len;refine bk ?_;intro h1 b1 e1 z1;refine ak (fun g => ?_) (fun g => ?_)
  · have g : l = 0 := by have : (l : Int) = 0 := by simpa using g
                         omega
    refine rH b1 e1 (Xk _) ⟨25, 0, dF⟩ fun h' e' => ⟨?_, e'⟩
    unfold fw;rw [Xb ad]
  have hl0 : ¬ us.length = 0 := by
    intro hh;have : l = 0 :=ad
    subst this;cases g
  refine ak (fun g64 => ?_) (fun g64 => ?_)
  · have g64 := W2 g64
    refine rH b1 e1 (Xk _) ⟨4, 0, dF⟩ fun h' e' => ⟨?_, e'⟩
    unfold fw;rw [W6 hl0, Xb ad]
  have g64 := W4 g64;have h64 : ¬ 64 < us.length :=ad
  refine aU (cs := [(false, [.int .i64])]) (fun y k h' => ∃ i : Nat, y.1 = (i : Int) /\ k = us.length - i /\ i <= us.length /\ Ext h1 h' /\ ∀ j, j < i -> (hj : j < us.length) -> eS us[j] = 0) ((0 : Int), ()) us.length rfl
    ⟨0, rfl, rfl, ad, Ch.refl _ _, fun j hj => absurd hj ad⟩ ?_
  rintro ⟨n2, ⟨⟩⟩ k h2 ⟨i, hi, rfl, hle, e2, hr⟩;simp only at hi;subst hi;refine ao ?_;have b2 := b1.an e2 aj;have e02 := e1.trans e2;refine ak (fun q => ?_) (fun q => ?_)
  · have q := W2 q
    have hil : i < us.length :=ad
    obtain ⟨a, sa, sb, sc, sd, rfl, hc, va⟩ := (v.an e02).cells i hil;refine ay ⟨ad, ad⟩ (ax rfl ?_);rw [show Int.toNat (i : Int) = i from ad];refine aC ((sa.p, sa.l, sa.c), (sb.p, sb.l, sb.c), (sc.p, sc.l, sc.c), (sd.p, sd.l, sd.c), ()) hc (ao ?_);refine aK (Jh va) ?_;rintro _ h3 ⟨rfl, e3⟩;refine ⟨(((eS us[i] : Nat) : Int), ()), rfl, ao ?_⟩;refine ak (fun r => ?_) (fun r => ?_)
    · have r : ¬ eS us[i] = 0 := by
        intro hh;rw [hh] at r;cases r
      refine rH (b2.an e3 aj) (e02.trans e3) (Xk _) ⟨31, i, dF⟩ fun h' e' => ⟨?_, e'⟩
      unfold fw
      rw [W6 hl0, W6 h64, show us.findIdx? (fun u => decide (eS u ≠ 0)) = some i from by
        rw [Xt];exact ⟨hil, W9 r, fun j hj => by simp [hr j hj ad]⟩]
    · have r : eS us[i] = 0 := by
        have : ((eS us[i] : Nat) : Int) = 0 := by simpa using r
        omega
      refine aI (cs := [(false, [.int .i64])]) (((i + 1 : Nat) : Int), ()) (us.length - (i + 1)) rfl ad (by rw [wrap_i64 ad ad]; rfl) ?_
      exact ⟨i + 1, rfl, rfl, ad, e2.trans e3, fun j hj hx => by
        by_cases e : j = i
        · subst e; exact r
        · exact hr j ad hx⟩
  have q := W4 q
  have hR : ∀ u, u ∈ us -> eS u = 0 := fun u hu => by
    obtain ⟨j, hj, rfl⟩ := Xw hu;exact hr j ad hj
  have sz := J7.of ad hR
  have hfi : us.findIdx? (fun u => decide (eS u ≠ 0)) = none := by
    rw [XL];intro u hu;rw [hR u hu];decide
  clear hr
  refine aU (cs := [(false, [.int .i64])]) (fun y k h' => ∃ i : Nat, y.1 = (i : Int) /\ k = us.length - i /\ i <= us.length /\ Ext h1 h' /\ ∀ j, j < i -> xO us j = none) ((0 : Int), ()) us.length rfl
    ⟨0, rfl, rfl, ad, e2, fun j hj => absurd hj ad⟩ ?_
  rintro ⟨n3, ⟨⟩⟩ k h3 ⟨i3, hi, rfl, hle3, e3, hd3⟩;simp only at hi;subst hi;refine ao ?_;have hw3 : IntKind.wrap .i64 ((i3 : Int) + 1) = ((i3 + 1 : Nat) : Int) := by rw [wrap_i64 ad ad]; omega
  refine ak (fun q3 => ?_) (fun q3 => ?_)
  · have q3 := W2 q3
    have hil3 : i3 < us.length :=ad
    have hug : us[i3]? = some us[i3] := W5 hil3;obtain ⟨a3, sa, sb, sc, sd, rfl, hc3, va3⟩ := v.cells i3 hil3;generalize us[i3] = u at hug hc3 va3;have hgm := va3.aY.many;have hgl := va3.aY.len
    refine aU (cs := [(false, [.int .i64])]) (fun y k h' => ∃ i : Nat, y.1 = (i : Int) /\ k = u.aY.length - i /\ i <= u.aY.length /\ Ext h1 h' /\ ∀ j, j < i -> (hj : j < u.aY.length) -> ((us.take i3).any fun v => fX v.aY u.aY[j]) = false) ((0 : Int), ()) u.aY.length rfl
      ⟨0, rfl, rfl, ad, e3, fun j hj => absurd hj ad⟩ ?_
    rintro ⟨n4, ⟨⟩⟩ k h4 ⟨i4, hi, rfl, hle4, e4, hd4⟩;simp only at hi;subst hi;refine ao ?_;have hw4 : IntKind.wrap .i64 ((i4 : Int) + 1) = ((i4 + 1 : Nat) : Int) := by rw [wrap_i64 ad ad]; omega
    have e04 := e1.trans e4;have hcg : ∀ {h' : Hp}, Ext h h' -> aJ h' ((a3.add (i3 * 4)).add 3) 0 [.slice sd.p sd.l sd.c] := fun e => ⟨by rw [add_add]; exact (aX e aj _ _ hc3).2.2.2.1, trivial⟩
    refine ay ⟨ad, ad⟩ (ax rfl ?_);rw [show Int.toNat (i3 : Int) = i3 from ad];refine aC ((sd.p, sd.l, sd.c), ()) (hcg e04) (ao ?_);refine ak (fun q4 => ?_) (fun q4 => ?_)
    · have q4 := W2 q4
      have hil4 : i4 < u.aY.length :=ad
      have hsg : u.aY[i4]? = some u.aY[i4] := W5 hil4;obtain ⟨ag, hag, hcs, _⟩ := va3.aY.cells i4 hil4
      refine aU (cs := [(false, [.int .i64])]) (fun y k h' => ∃ i : Nat, y.1 = (i : Int) /\ k = i3 - i /\ i <= i3 /\ Ext h1 h' /\ ∀ j, j < i -> (hj : j < us.length) -> fX us[j].aY u.aY[i4] = false) ((0 : Int), ()) i3 rfl
        ⟨0, rfl, rfl, ad, e4, fun j hj => absurd hj ad⟩ ?_
      rintro ⟨n9, ⟨⟩⟩ k h5 ⟨i5, hi, rfl, hle5, e5, hd5⟩;simp only at hi;subst hi;refine ao ?_;have hw5 : IntKind.wrap .i64 ((i5 : Int) + 1) = ((i5 + 1 : Nat) : Int) := by rw [wrap_i64 ad ad]; omega
      have e05 := e1.trans e5;have b5 := b1.an e5 aj;refine ak (fun q5 => ?_) (fun q5 => ?_)
      · have q5 := W2 q5
        have hil5 : i5 < us.length :=ad
        obtain ⟨a5, ta, tb, tc, td, ha5, hc5, va5⟩ := (v.an e05).cells i5 hil5;refine ay ⟨ad, ad⟩ (ax ha5 ?_);rw [show Int.toNat (i5 : Int) = i5 from ad];refine aC ((td.p, td.l, td.c), ()) ⟨by rw [add_add]; exact hc5.2.2.2.1, trivial⟩ ?_;refine ao ?_;refine ay ⟨ad, ad⟩ (ax rfl ?_);refine aC ((sd.p, sd.l, sd.c), ()) (hcg e05) (ao ?_);refine ay ⟨ad, ad⟩ (ax hag ?_);rw [show Int.toNat (i4 : Int) = i4 from ad];refine aC (u.aY[i4], ()) (aX e05 aj _ _ hcs) (ao ?_)
        refine aM (Ir va5.aY.len (fun j hj => by
          obtain ⟨a, ha, hc, _⟩ := va5.aY.cells j hj;exact ⟨a, ha, hc⟩) (by have := va5.aY.many; omega) u.aY[i4]) ?_
        refine ⟨⟨hcg e05, trivial⟩, ?_⟩;refine ak (fun r => ?_) (fun r => ?_)
        · refine ay ⟨ad, ad⟩ (ax rfl ?_)
          refine aC ((sd.p, sd.l, sd.c), ()) (hcg e05) (ao ?_);refine ay ⟨ad, ad⟩ (ax hag ?_);refine aC (u.aY[i4], ()) (aX e05 aj _ _ hcs) (ao ?_);refine rH b5 e05 (Xk _) ⟨22, i3, u.aY[i4]⟩ fun h' e' => ⟨?_, e'⟩
          have hda : xO us i3 = some (i3, u.aY[i4]) := by
            unfold xO
            rw [hug, Yl, kO (fun s => (us.take i3).any fun v => fX v.aY s) u.aY i4 hil4 (fun j hj => hd4 j hj ad) (by
              rw [Yt];exact ⟨us[i5], List.mem_take_iff_getElem.2 ⟨i5, ad, rfl⟩, r⟩)]
            rfl
          unfold fw Dm;rw [W6 hl0, W6 h64, hfi, jL _ _ _ i3 hil3 hd3 hda]
        · refine aI (cs := [(false, [.int .i64])]) (((i5 + 1 : Nat) : Int), ()) (i3 - (i5 + 1)) rfl ad (Xj (fun z => [Value.int .i64 z]) hw5) ⟨i5 + 1, rfl, rfl, ad, e5, fun j hj hx => ?_⟩
          by_cases e : j = i5
          · subst e; exact r
          · exact hd5 j ad hx
      · have q5 := W4 q5
        have : i5 = i3 :=ad
        subst this;refine aI (cs := [(false, [.int .i64])]) (((i4 + 1 : Nat) : Int), ()) (u.aY.length - (i4 + 1)) rfl ad (Xj (fun z => [Value.int .i64 z]) hw4) ⟨i4 + 1, rfl, rfl, ad, e5, fun j hj hx => ?_⟩
        by_cases e : j = i4
        · subst e
          rw [List.any_eq_false];intro w hw;obtain ⟨j5, hj5, rfl⟩ := List.mem_take_iff_getElem.1 hw;rw [hd5 j5 ad ad]
          simp
        · exact hd4 j ad hx
    · have q4 := W4 q4
      have : i4 = u.aY.length :=ad
      subst this;refine aI (cs := [(false, [.int .i64])]) (((i3 + 1 : Nat) : Int), ()) (us.length - (i3 + 1)) rfl ad (Xj (fun z => [Value.int .i64 z]) hw3) ⟨i3 + 1, rfl, rfl, ad, e4, fun j hj => ?_⟩
      by_cases e : j = i3
      · subst e
        unfold xO;rw [hug, Yl, nz _ u.aY fun j hj => hd4 j hj hj] <;> rfl
      · exact hd3 j ad
  have q3 := W4 q3;have hdn : Dm us = none := jC _ _ fun j hj => hd3 j ad
  refine aU (cs := [(false, [.int .i64])]) (fun y k h' => ∃ i : Nat, y.1 = (i : Int) /\ k = us.length - i /\ i <= us.length /\ Ext h1 h' /\ ∀ j, j < i -> Ak us j = none) ((0 : Int), ()) us.length rfl
    ⟨0, rfl, rfl, ad, e3, fun j hj => absurd hj ad⟩ ?_
  rintro ⟨n4, ⟨⟩⟩ k h4 ⟨i4, hi, rfl, hle4, e4, hu4⟩;simp only at hi;subst hi;refine ao ?_;have hw4 : IntKind.wrap .i64 ((i4 : Int) + 1) = ((i4 + 1 : Nat) : Int) := by rw [wrap_i64 ad ad]; omega
  have e04 := e1.trans e4;have b4 := b1.an e4 aj;refine ak (fun q4 => ?_) (fun q4 => ?_)
  · have q4 := W2 q4
    have hil4 : i4 < us.length :=ad
    have hug : us[i4]? = some us[i4] := W5 hil4;refine aK (CA (c := c) (v.an e04) sz hil4) ?_;rintro _ h5 ⟨rfl, e5⟩;refine ⟨(pX us i4 (cH us[i4]), ()), rfl, ao ?_⟩;rw [yk]
    have hun : Ak us i4 = if (pX us i4 (cH us[i4])).data.toList = [] then none else some (i4, pX us i4 (cH us[i4])) := by
      unfold Ak;rw [hug, Yl]
    refine ak (fun r => ?_) (fun r => ?_)
    · have r : ¬ (pX us i4 (cH us[i4])).data.toList = [] := by simpa using r
      rw [W6 r] at hun;refine rH (b4.an e5 aj) (e04.trans e5) (Xk _) ⟨23, i4, pX us i4 (cH us[i4])⟩ fun h' e' => ⟨?_, e'⟩
      unfold fw Mm;rw [W6 hl0, W6 h64, hfi, hdn, jL _ _ _ i4 hil4 hu4 hun]
    · have r : (pX us i4 (cH us[i4])).data.toList = [] := by simpa using r
      rw [Xb r] at hun;refine aI (cs := [(false, [.int .i64])]) (((i4 + 1 : Nat) : Int), ()) (us.length - (i4 + 1)) rfl ad (Xj (fun z => [Value.int .i64 z]) hw4) ⟨i4 + 1, rfl, rfl, ad, e4.trans e5, fun j hj => ?_⟩
      by_cases e : j = i4
      · subst e; exact hun
      · exact hu4 j ad
  · have q4 := W4 q4
    refine rH b4 e04 (Xk _) ⟨0, 0, dF⟩ fun h' e' => ⟨?_, e'⟩
    unfold fw Mm;rw [W6 hl0, W6 h64, hfi, hdn, jC _ _ fun j hj => hu4 j ad]
theorem Nv (n:Nat):∀ (l:List ZA) (w:LW) (s:ZA),(l.foldl (ul n) w).gl s=if fX l s=true then some n else w.gl s
 | [],w,s=>by simp [fX]
 | a::l,w,s=>by
  rw [XE,Nv n l (ul n w a) s];have h1:fX (a::l) s=(decide (a=s) || fX l s):=by unfold fX; rw [List.any_cons]
  have h2:(ul n w a).gl s=if a=s then some n else w.gl s:=by
   show dC w.gl a n s=_;unfold dC
   by_cases h:s=a
   ·rw [Xb h,Xb h.symm]
   ·rw [W6 h,W6 fun e=>h e.symm]
  rw [h1,h2]
  by_cases ha:a=s <;> by_cases hl:fX l s=true <;> simp [ha,hl]
def OE (us:List cd) (s:ZA):Option Nat:=us.findIdx? fun u=>fX u.aY s
def Nj (us:List cd) (s:ZA):(OE us s).isSome=us.any fun u=>fX u.aY s:=by
 unfold OE;rw [List.findIdx?_isSome]
theorem DN (us:List cd):∀ (k n:Nat) (w:LW),us.length-n=k->n<=us.length->(∀ s,w.gl s=OE (us.take n) s)->(∀ j,j<n->xO us j=none) ->
  match kq n (us.drop n) w with
  | .error q=>Dm us=some q
  | .ok w'=>Dm us=none/\∀ s,w'.gl s=OE us s
 | 0,n,w,hk,hn,hg,hd=>by
  have:n=us.length:=ad
  subst this;rw [Yi];rw [XB] at hg;exact ⟨jC _ _ hd,hg⟩
 | k+1,n,w,hk,hn,hg,hd=>by
  have hlt:n<us.length:=ad
  rw [Xi hlt];unfold kq;have hug:us[n]?=some us[n]:=W5 hlt;have hf:(fun g=>(w.gl g).isSome)=fun g=>(us.take n).any fun v=>fX v.aY g:=by
   funext g
   rw [hg,Nj]
  have hda:xO us n=(us[n].aY.find? fun g=>(w.gl g).isSome).map fun s=>(n,s):=by
   unfold xO;rw [hug,Yl,hf]
  cases hx:us[n].aY.find? fun g=>(w.gl g).isSome with
  | some g =>
   rw [hx] at hda;exact jL _ _ _ n hlt hd hda
  | none =>
   rw [hx] at hda;refine DN us k (n+1) (EJ n us[n] w) ad hlt (fun s=>?_) (fun j hj=>?_)
   ·unfold EJ;rw [Nv,W7 hlt];unfold OE;rw [Y7];have h0:=hg s;unfold OE at h0;rw [<- h0]
    by_cases hi:fX us[n].aY s=true
    ·rw [Xb hi];have hm:s∈us[n].aY:=by
      unfold fX at hi;obtain ⟨x,hx1,hx2⟩:=Yt.1 hi;rw [<- W2 hx2]; exact hx1
     have:=List.find?_eq_none.1 hx s hm
     have hn0:w.gl s=none:=by
      cases hq:w.gl s with
      | none=>rfl
      | some q=>rw [hq] at this; exact absurd rfl this
     rw [hn0];simp [List.findIdx?_cons,hi,List.length_take];omega
    ·rw [W6 hi];cases w.gl s <;> simp [List.findIdx?_cons,hi]
   ·by_cases e:j=n
    ·subst e; exact hda
    ·exact hd j ad
theorem wU (s:ZA) (n:Nat):∀ (us:List cd) (m:Nat),(n,s)∈(bY m us).map zN↔∃ u,m<=n/\us[n-m]?=some u/\(s∈eb u.text\/s∈eb u.data)
 | [],m=>by simp [bY]
 | u::us,m=>by
  rw [bY,Xf,Xl,wU s n us (m+1)];unfold E4;rw [Xf,vD,vD,Xl,Xd,Xd];constructor
  ·rintro ((⟨x,hx,he⟩ | ⟨x,hx,he⟩) | ⟨v,h1,h2,h3⟩)
   ·cases he;exact ⟨u,Xk _,aj,.inl hx⟩
   ·cases he;exact ⟨u,Xk _,aj,.inr hx⟩
   ·refine ⟨v,ad,?_,h3⟩;rw [show n-m=(n-(m+1))+1 from ad];exact h2
  ·rintro ⟨v,h1,h2,h3⟩
   by_cases e:n=m
   ·subst e;rw [Zb] at h2;cases h2;rcases h3 with h3 | h3
    ·exact .inl (.inl ⟨s,h3,rfl⟩)
    ·exact .inl (.inr ⟨s,h3,rfl⟩)
   ·refine .inr ⟨v,ad,?_,h3⟩;rw [show n-m=(n-(m+1))+1 from ad] at h2;exact h2
theorem y7 (s:ZA) (n:Nat):∀ (us:List cd) (m:Nat),(n,s)∈(ef m us).map jD↔∃ u,m<=n/\us[n-m]?=some u/\s∈u.bg.map (·.1)
 | [],m=>by simp [ef]
 | u::us,m=>by
  rw [ef,Xf,Xl,y7 s n us (m+1),Xv];constructor
  ·rintro (h | ⟨v,h1,h2,h3⟩)
   ·obtain ⟨e,he,hee⟩:=Xd.1 h;cases hee;exact ⟨u,Xk _,aj,Xd.2 ⟨e,he,rfl⟩⟩
   ·refine ⟨v,ad,?_,h3⟩;rw [show n-m=(n-(m+1))+1 from ad];exact h2
  ·rintro ⟨v,h1,h2,h3⟩
   by_cases e:n=m
   ·subst e;rw [Zb] at h2;cases h2;obtain ⟨x,hx,rfl⟩:=Xd.1 h3;exact .inl (Xd.2 ⟨x,hx,rfl⟩)
   ·refine .inr ⟨v,ad,?_,h3⟩;rw [show n-m=(n-(m+1))+1 from ad] at h2;exact h2
def xD (l:List Ky) (k:Ky):(mP l k).isSome=true↔k∈l:=by
 constructor
 ·intro h;apply YR;intro hk;rw [nM.2 hk] at h;cases h
 ·intro h;obtain ⟨i,hi⟩:=Aq h;rw [hi] <;> rfl
def O9 {us:List cd} {w:LW} (i0:WI w (bY 0 us) ((ef 0 us).map jD)) {n:Nat} {u:cd} (hu:us[n]?=some u) (s:ZA):w.has (n,s)=true↔s∈fv u:=by
 unfold LW.has;rw [i0.num,i0.sL,Bool.or_eq_true,xD,xD,wU,y7];unfold fv;rw [Xl,Xl];simp only [Nat.sub_zero,Nat.zero_le,true_and];constructor
 ·rintro (⟨v,hv,h⟩ | ⟨v,hv,h⟩)
  ·rw [hu] at hv; cases hv; exact .inl h
  ·rw [hu] at hv; cases hv; exact .inr h
 ·rintro (h | h)
  ·exact .inl ⟨u,hu,h⟩
  ·exact .inr ⟨u,hu,h⟩
def K3 {us:List cd} {w:LW} (i0:WI w (bY 0 us) ((ef 0 us).map jD)) (hg:∀ s,w.gl s=OE us s) {n:Nat} (hn:n<us.length) (s:ZA):w.own n s=(jl us n s).map fun o=>(o,s):=by
 have hu:=W5 hn;have h1:=O9 i0 hu s;have h2:fX (fv us[n]) s=true↔s∈fv us[n]:=by
  unfold fX;rw [Yt];constructor
  ·rintro ⟨x,hx,he⟩;rw [<- W2 he]; exact hx
  ·intro h;exact ⟨s,h,W9 rfl⟩
 unfold LW.own jl;rw [hu,Zf,hg s]
 by_cases h:s∈fv us[n]
 ·rw [Xb (h1.2 h),Xb (by rw [h2.2 h])] <;> rfl
 ·rw [W6 fun x=>h (h1.1 x),W6 fun x=>h (h2.1 (Xo x))] <;> rfl
theorem BG (n sec:Nat) (x:cF):∀ (l:List cF) (i:Nat),o7 n sec i (l++[x])=o7 n sec i l++if x.kind=1 then [⟨n,sec,i+l.length,x.name⟩] else []
 | [],i=>by simp [o7]
 | y::l,i=>by
  simp only [List.cons_append,o7,List.length_cons];rw [BG n sec x l (i+1),show i+1+l.length=i+(l.length+1) from ad,Xs]
structure Di (h:Hp) (g:Nat) (su lb st sd:cv) (L:List Lb):Prop where
 box:bH h g 81 [su.v,lb.v,st.v,sd.v]
 oC:SL h (g+1) 158 4 lb.p lb.l lb.c (L.map zZ)
def Di.an {h h':Hp} {g:Nat} {su lb st sd:cv} {L:List Lb} (s:Di h g su lb st sd L) (e:Ext h h'):Di h' g su lb st sd L:=⟨s.box.an e aj,s.oC.bM e aj⟩
def SB:Tryz.prog.underlying 78=some (.slice 158):=az
def UM:(Tryz.prog.info? 158).map (fun i=>(i.zero,i.size,i.bytes))=some (some (.agg #[.int .i64 0,.int .i64 0,.int .i64 0,.string ⟨#[]⟩]),4,40):=az
def Ds {h0 h:Hp} {g:Nat} {su lb st sd:cv} {L:List Lb} (hg:h0.size<=g) (e0:Ext h0 h) (s:Di h g su lb st sd L) {p:ZC} {l c:Nat} {xs:List cF} (v:Dj h0 p l xs) (hL:L.length+xs.length<=2^40) (n sec:Nat) :
  HC Tryz.prog 49 #[.pointer (some ⟨g,0,none⟩),.int .i64 (n:Int),.int .i64 (sec:Int),.slice p l c] h fun w h'=>w=.tuple #[]/\Ext h0 h'/\h.size<=h'.size/\∃ lb',Di h' g su lb' st sd (L++o7 n sec 0 xs):=by
 refine bd (args:=[.pointer (some ⟨g,0,none⟩),.int .i64 (n:Int),.int .i64 (sec:Int),.slice p l c]) mixed Tryz.func49 az (ij (some ⟨g,0,none⟩) n sec p l c) ?_;unfold eV bf bh bG aQ bm br aR;have hll:=v.len;refine aU (cs:=[(false,[.int .i64])]) (fun y k h'=>∃ (i:Nat) (lb':cv),y.1=(i:Int)/\k=xs.length-i/\i<=xs.length/\Ext h0 h'/\h.size<=h'.size/\Di h' g su lb' st sd (L++o7 n sec 0 (xs.take i))) ((0:Int),()) xs.length rfl
  ⟨0,lb,rfl,rfl,ad,e0,Xk _,by simpa [o7] using s⟩ ?_
 rintro ⟨n4,⟨⟩⟩ k h1 ⟨i,lb1,hi,rfl,hle,e1,z1,s1⟩;simp only at hi;subst hi;refine ao ?_;have hw:IntKind.wrap .i64 ((i:Int)+1)=((i+1:Nat):Int):=by rw [wrap_i64 ad ad]; omega
 refine ak (fun q=>?_) (fun q=>?_)
 ·have q:=W2 q;have hil:i<xs.length:=ad
  have htk:xs.take (i+1)=xs.take i++[xs[i]]:=W7 hil;have hsn:=BG n sec xs[i] (xs.take i) 0;rw [<- htk,Xr,Yc ad,XK] at hsn;obtain ⟨a,pp,ll,cc,rfl,hc,_⟩:=v.cells i hil;generalize xs[i]=x at hc hsn;refine ay ⟨ad,ad⟩ (ax rfl ?_);rw [show Int.toNat (i:Int)=i from ad];refine aC (x.kind,()) ⟨(aX e1 aj _ _ hc).1,trivial⟩ (ao ?_);refine ak (fun r=>?_) (fun r=>?_)
  ·have r:x.kind=1:=by simpa using r
   rw [Xb r] at hsn;refine ax rfl ?_;rw [aG];refine af s1.box ((lb1.p,lb1.l,lb1.c),()) rfl (ao ?_);have hcn:∀ {h':Hp},Ext h0 h'->aJ h' ((a.add (i*10)).add 1) 0 [.string x.name]:=fun e=>⟨by rw [add_add]; exact (aX e aj _ _ hc).2.1,trivial⟩
   refine ay ⟨ad,ad⟩ (ax rfl ?_);refine aC (x.name,()) (hcn e1) (ao ?_);have hl1:lb1.l=(L++o7 n sec 0 (xs.take i)).length:=by have:=s1.oC.1; rwa [W3] at this
   have hla:=qE n sec (xs.take i) 0;rw [W8] at hl1;rw [Xr] at hla;have hgs:=s1.box.lt;refine gI (vs:=zZ ⟨n,sec,i,x.name⟩) SB UM rfl ad ad (Lu _ _ _ _) rfl rfl s1.oC ad ad ad (fun h' e=>⟨hcn (e1.trans e),(s1.box.an e aj).cells _ rfl,trivial⟩) ?_;intro p' c' h2 s2 k2 hp2;have hnb:∀ j,j∈aP lb1.p->h0.size<=j/\g<j:=fun j hj=>by have:=(s1.oC.cj hj).1; omega
   have e2:Ext h0 h2:=Ch.trans e1 k2 (fun j hj hl=>by have:=hnb j hj; omega);have b2:=s1.box.an k2 (fun hj=>by have:=hnb _ hj; omega);have z2:=k2.size;refine ⟨⟨hcn e2,trivial⟩,ax rfl ?_⟩;rw [aG];refine aw b2 rfl aj ?_;intro h3 b3 k3 z3;have b3:bH h3 g 81 [su.v,(⟨p',lb1.l+1,c'⟩:cv).v,st.v,sd.v]:=b3;have e3:Ext h0 h3:=Ch.trans e2 k3 (fun j hj hl=>by simp at hj; omega);refine aI (cs:=[(false,[.int .i64])]) (((i+1:Nat):Int),()) (xs.length-(i+1)) rfl ad (Xj (fun z=>[Value.int .i64 z]) hw) ⟨i+1,⟨p',lb1.l+1,c'⟩,rfl,rfl,ad,e3,ad,b3,?_⟩;rw [hsn,<- Xs,Xf];exact s2.bM k3 (fun j hj hh=>by have:=(s2.cj hj).1; simp at hh; omega)
  ·have r:¬ x.kind=1:=by simpa using r
   rw [W6 r,X4] at hsn;refine aI (cs:=[(false,[.int .i64])]) (((i+1:Nat):Int),()) (xs.length-(i+1)) rfl ad (Xj (fun z=>[Value.int .i64 z]) hw) ⟨i+1,lb1,rfl,rfl,ad,e1,z1,by rw [hsn]; exact s1⟩
 ·have q:=W4 q
  have:i=xs.length:=ad
  subst this;rw [XB] at s1;exact ⟨rfl,e1,z1,lb1,s1⟩
def FT (u:Nat):Lib.nDigits u<=u+1:=by
 induction u using Nat.strongRecOn with
 | _ u ih =>
  rw [Lib.nDigits];split
  ·omega
  ·have:=ih (u / 10) ad
   omega
def Bp (n:Nat):(fS n).size<=n+1:=by
 have:(fS n).size=(Lib.decDigits n).length:=rfl
 rw [this,Lib.decDigits_length];exact FT n
def S8 (L:List Lb) (o:Nat) (s:ZA):Option Nat:=L.findIdx? fun x=>decide (x.u=o) && decide (x.n=s)
def xj (L:List Lb) (o:Nat) (s:ZA):ZA:=match S8 L o s with
 | some i=>⟨#[76]⟩++fS i
 | none=>((⟨#[69]⟩++fS o)++⟨#[95]⟩)++s
def dy (us:List cd) (L:List Lb) (n:Nat) (s:ZA):ZA:=xj L ((jl us n s).getD 0) s
def Qw {us:List cd} {n o:Nat} {s:ZA} (h:jl us n s=some o):o<us.length:=by
 unfold jl at h;split at h
 ·rename_i hh;cases h;cases hu:us[n]? with
  | none=>rw [hu] at hh; cases hh
  | some u=>exact (Xn.1 hu).1
 ·rw [Xt] at h;exact h.1
def RZ {L:List Lb} {o:Nat} {s:ZA} {i:Nat} (hi:i<L.length) (h:∀ j,(hj:j<i)->¬ ((L[j]'ad).u=o/\(L[j]'ad).n=s)) (h1:L[i].u=o) (h2:L[i].n=s):S8 L o s=some i:=by
 unfold S8;rw [Xt];refine ⟨hi,by simp [h1,h2],fun j hj=>?_⟩
 have:=h j hj
 simpa using this
def Kk {L:List Lb} {o:Nat} {s:ZA} (h:∀ j,(hj:j<L.length)->¬ (L[j].u=o/\L[j].n=s)):S8 L o s=none:=by
 unfold S8;rw [XL];intro x hx;obtain ⟨j,hj,rfl⟩:=Xw hx
 have:=h j hj
 simpa using this
def HQ {h:Hp} {g:Nat} {su lb st sd:cv} {L:List Lb} (s:Di h g su lb st sd L) {us:List cd} (v:xX h su.p su.l us) (sz:J7 us) {n:Nat} (hn:n<us.length) (hL:L.length<=2^40) {a:ZA} {o:Nat} (ho:jl us n a=some o) (ha:a.size<=2^60) :
  HC Tryz.prog 50 #[.pointer (some ⟨g,0,none⟩),.int .i64 (n:Int),.string a] h fun w h'=>w=.string (dy us L n a)/\Ext h h':=by
 refine bd (args:=[.pointer (some ⟨g,0,none⟩),.int .i64 (n:Int),.string a]) mixed Tryz.func50 az (iL (some ⟨g,0,none⟩) n a) ?_;unfold eZ bf bh bG aQ cD gF bT aR;have hol:=Qw ho;have hmany:=sz.many;refine ax rfl ?_;refine af s.box ((su.p,su.l,su.c),()) rfl (ao ?_);refine aK (Ej (c:=su.c) v sz hn a) ?_;rintro _ h1 ⟨rfl,e1⟩;rw [ho];refine ⟨((o:Int),()),rfl,ao ?_⟩;have s1:=s.an e1;have hw0:dy us L n a=xj L o a:=by unfold dy; rw [ho]; rfl
 rw [hw0];have hll:lb.l=L.length:=by have:=s.oC.1; rwa [W3] at this
 refine aU (cs:=[(false,[.string]),(false,[.int .i64])]) (fun y k h'=>∃ i:Nat,y.2.1=(i:Int)/\k=L.length-i/\i<=L.length/\h'=h1/\∀ j,j<i->(hj:j<L.length)->¬ (L[j].u=o/\L[j].n=a)) ((⟨#[]⟩:ZA),(0:Int),()) L.length rfl
  ⟨0,rfl,rfl,ad,rfl,fun j hj=>absurd hj ad⟩ ?_
 rintro ⟨s8,n9,⟨⟩⟩ k h2 ⟨i,hi,rfl,hle,rfl,hno⟩;simp only at hi;subst hi;refine ao ?_;have hw:IntKind.wrap .i64 ((i:Int)+1)=((i+1:Nat):Int):=by rw [wrap_i64 ad ad]; omega
 refine ax rfl ?_;rw [aG];refine af s1.box ((lb.p,lb.l,lb.c),()) rfl (ao ?_);refine ak (fun q=>?_) (fun q=>?_)
 ·have q:=W2 q;have hil:i<L.length:=ad
  refine ax rfl ?_;rw [aG];refine af s1.box ((lb.p,lb.l,lb.c),()) rfl (ao ?_);obtain ⟨al,hal,hc⟩:=SL.cells s1.oC (i:=i) (by rw [W3]; exact hil);rw [Xc] at hc;refine ay ⟨ad,ad⟩ (ax hal ?_);rw [show Int.toNat (i:Int)=i from ad];refine aC ((L[i].u:Int),()) ⟨hc.1,trivial⟩ (ao ?_);have hback:¬ (L[i].u=o/\L[i].n=a)->T.again 0 [.string s8,.int .i64 (IntKind.wrap .i64 ((i:Int)+1))] [Jl (fun (y:qb (flat [(false,[TypeDesc.string]),(false,[TypeDesc.int .i64])])) k h'=>∃ i:Nat,y.2.1=(i:Int)/\k=L.length-i/\i<=L.length/\h'=h2/\∀ j,j<i->(hj:j<L.length)->¬ (L[j].u=o/\L[j].n=a)) (L.length-i)] (fun w h'=>w=.string (xj L o a)/\Ext h h') h2:=by
   intro hne;refine aI (cs:=[(false,[.string]),(false,[.int .i64])]) (s8,((i+1:Nat):Int),()) (L.length-(i+1)) rfl ad (Xj (fun z=>[Value.string s8,Value.int .i64 z]) hw) ⟨i+1,rfl,rfl,ad,rfl,fun j hj hx=>?_⟩
   by_cases e:j=i
   ·subst e; exact hne
   ·exact hno j ad hx
  refine ak (fun r=>?_) (fun r=>?_)
  ·have r:L[i].u=o:=by
    have:((L[i].u:Nat):Int)=(o:Int):=by simpa using r
    omega
   refine ax rfl ?_;rw [aG];refine af s1.box ((lb.p,lb.l,lb.c),()) rfl (ao ?_);refine ay ⟨ad,ad⟩ (ax hal ?_);refine aC (L[i].n,()) ⟨by rw [add_add]; exact hc.2.2.2.1,trivial⟩ ?_;refine ao ?_;rw [qd];refine ak (fun t=>?_) (fun t=>?_)
   ·have t:=W2 t;refine aK (wG (n:=i) ad) ?_;rintro _ h3 ⟨rfl,e3⟩;refine ⟨(fS i,()),rfl,ao ?_⟩
    have:=Bp i
    refine ay ad ?_;refine ⟨?_,e1.trans e3⟩;unfold xj;rw [RZ hil (fun j hj=>hno j hj ad) r t]
   ·have t:=W4 t;exact hback fun hh=>t hh.2
  ·refine hback fun hh=>?_
   rw [hh.1] at r;simp at r
 ·have q:=W4 q
  have:i=L.length:=ad
  subst this;refine aK (wG (n:=o) ad) ?_;rintro _ h3 ⟨rfl,e3⟩;refine ⟨(fS o,()),rfl,ao ?_⟩;have hd:=Bp o;have h1:(⟨#[69]⟩++fS o:ZA).size=1+(fS o).size:=Yu ..;have h2:((⟨#[69]⟩++fS o)++⟨#[95]⟩:ZA).size=(⟨#[69]⟩++fS o:ZA).size+1:=Yu ..;refine ay ad (ay (by rw [h1]; omega) (ay (by rw [h2,h1]; omega) ?_));refine ⟨?_,e1.trans e3⟩;unfold xj;rw [Kk fun j hj=>hno j hj hj]
def tH (f:ZA->ZA) (s:ZA):Option cm:=some (lj (f s))
def ik (us:List cd) (L:List Lb) (n:Nat) (x:cm):cm:=db (tH (dy us L n)) x
def Qi (s:ZA):Nf (lj s).ai:=⟨by simp [lj],by simp [lj]⟩
def Ii {f:ZA->ZA}:∀ s y,tH f s=some y->Nf y.ai:=by
 intro s y hy;cases hy;exact Qi _
def Sy (f:ZA->ZA) {t:ZA × Nat} (h:t.2≠0/\t.2<4294967296):Hb (tH f) t=⟨[(f t.1,t.2)],0⟩:=by
 unfold Hb tH B1 lj ff;simp only [List.filterMap_cons,List.filterMap_nil,Nat.one_mul,Nat.zero_mul,Nat.zero_mod];rw [YL h.2,W6 h.1]
def DY {h:Hp} {g:Nat} {su lb st sd:cv} {L:List Lb} (s:Di h g su lb st sd L) {us:List cd} (v:xX h su.p su.l us) (sz:J7 us) {n:Nat} (hn:n<us.length) (hL:L.length<=2^40) {q:ZC} {m d:Nat} {x:cm} (u:gK h q m x.ai)
  (hx:Nf x.ai) (hxn:x.num<4294967296) (hlx:x.ai.length<=2^30) (ho:∀ t,t∈x.ai->∃ o,jl us n t.1=some o) (hs:∀ t,t∈x.ai->t.1.size<=2^60) :
  HC Tryz.prog 51 #[.pointer (some ⟨g,0,none⟩),.int .i64 (n:Int),iA q m d x] h fun w h'=>Ext h h'/\∃ p' l' c',w=iA p' l' c' (ik us L n x)/\SL h' h.size 117 2 p' l' c' ((ik us L n x).ai.map dc):=by
 refine bd (args:=[.pointer (some ⟨g,0,none⟩),.int .i64 (n:Int),.agg #[.slice q m d,.int .u32 x.num]]) mixed Tryz.func51 az (ig (some ⟨g,0,none⟩) n q m d x.num) ?_;unfold eQ bf bh bG aQ gF bK bm aH bi aR;have hmm:=u.len;refine bk ?_;intro h1 b1 e1 z1;refine bk ?_;intro h2 b2 e2 z2;have b1:=b1.an e2 aj;rw [aG];refine af b1 ((x.num:Int),()) rfl (ao ?_);refine bk ?_;intro h3 b3 e3 z3;refine aw b3 rfl aj ?_;intro h4 b4 k4 z4;have b4:bH h4 h2.size 69 [.slice none 0 0,.int .u32 (x.num:Int)]:=b4;have e24:Ext h2 h4:=Ch.trans e3 k4 (fun j hj hl=>by simp at hj; omega);have b1:=b1.an e24 aj;have b2:=b2.an e24 aj;have e04:=(e1.trans e2).trans e24;have hb4:=b4.lt;have hz04:=e04.size;refine aU (cs:=[(false,[.int .i64])]) (fun y w h'=>∃ (i:Nat) (q:ZC) (m d:Nat),y.1=(i:Int)/\i<=x.ai.length/\w=x.ai.length-i/\Ch [h2.size] h4 h'/\bH h' h2.size 69 [.slice q m d,.int .u32 (((x.ai.take i).foldl (fI (tH (dy us L n))) ⟨[],x.num⟩).num:Int)] /\
  SL h' h4.size 117 2 q m d (((x.ai.take i).foldl (fI (tH (dy us L n))) ⟨[],x.num⟩).ai.map dc)) ((0:Int),()) x.ai.length rfl ⟨0,none,0,0,rfl,ad,ad,Ch.refl _ _,b4,SL.nil _ _ _ _⟩ ?_
 rintro ⟨n8,⟨⟩⟩ w h5 ⟨i,q5,m5,d5,hi,hile,rfl,k5,b5,s5⟩;simp only at hi;subst hi;refine ao ?_;have b15:=b1.an k5 (by simp; omega);have hz5:=k5.size;have e05:Ext h h5:=Ch.trans e04 k5 (fun j hj hl=>by simp at hj; omega);have u5:=u.an e05 aj;refine af b15 ((q,m,d),()) rfl (ao ?_);have hw:IntKind.wrap .i64 ((i:Int)+1)=((i+1:Nat):Int):=by rw [wrap_i64 ad ad]; omega
 have hacc:=AQ (of:=tH (dy us L n)) Ii hx hxn i;have hal:((x.ai.take i).foldl (fI (tH (dy us L n))) ⟨[],x.num⟩).ai.length<=x.ai.length:=by
  rw [hacc]
  have:=zb (eM (tH (dy us L n)) ⟨x.ai.take i,x.num⟩) (S:=x.ai.map fun t=>dy us L n t.1) (fun t ht=>by
   obtain ⟨u',hu',h | ⟨y,w,hy,hw,he⟩⟩:=za ht
   ·cases h.1
   ·cases hy;simp [lj] at hw;subst hw;rw [<- he];exact Xd.2 ⟨u',X9 hu',rfl⟩)
  rwa [W3] at this
 refine ak (fun g1=>?_) (fun g1=>?_)
 ·have g1:=W2 g1;have hilt:i<x.ai.length:=ad
  have htk:(x.ai.take (i+1)).foldl (fI (tH (dy us L n))) ⟨[],x.num⟩=fI (tH (dy us L n)) ((x.ai.take i).foldl (fI (tH (dy us L n))) ⟨[],x.num⟩) x.ai[i]:=by
   rw [W7 hilt,XX] <;> rfl
  obtain ⟨a,rfl,hc⟩:=u5.cells i hilt;have htm:=Xe hilt;generalize x.ai[i]=t at hc htk htm;generalize hA:(x.ai.take i).foldl (fI (tH (dy us L n))) ⟨[],x.num⟩=A at b5 s5 hal htk hacc;obtain ⟨c1,c2⟩:=cQ hc;obtain ⟨o,hoo⟩:=ho t htm;refine af b5 ((q5,m5,d5),(A.num:Int),()) rfl (ao ?_);refine af b15 ((some a,m,d),()) rfl (ao ?_);refine ay ⟨ad,ad⟩ (ax rfl ?_);rw [show Int.toNat (i:Int)=i from ad];refine aC (t.1,()) c1 (ao ?_);refine af b15 ((some a,m,d),()) rfl (ao ?_);refine ay ⟨ad,ad⟩ (ax rfl ?_);refine aC ((t.2:Int),()) c2 (ao ?_);refine aK (HQ (s.an e05) (v.an e05) sz hn hL hoo (hs t htm)) ?_;rintro _ h6 ⟨rfl,e6⟩;refine ⟨(dy us L n t.1,()),rfl,ao ?_⟩;have hst:∀ {h':Hp},Ext h5 h'->aJ h' (a.add (i*2)) 0 [.string t.1]/\aJ h' ((a.add (i*2)).add 1) 0 [.int .u32 (t.2:Int)]/\aJ h' ⟨h.size,0,none⟩ 0 [.slice (some a) m d]/\aJ h' ⟨h2.size,0,none⟩ 0 [.slice q5 m5 d5,.int .u32 (A.num:Int)]:=fun e =>
   ⟨aX e aj _ _ c1,aX e aj _ _ c2,(b15.an e aj).cells _ rfl,(b5.an e aj).cells _ rfl⟩
  obtain ⟨q1,q2,q3,q4⟩:=hst e6;refine ⟨⟨q2,q3,q3,q4,trivial⟩,?_⟩;refine mH Gw sD ad ad (Gk _ _) ?_;intro h7 b7 e7 z7;obtain ⟨q1,q2,q3,q4⟩:=hst (e6.trans e7);refine ⟨⟨q2,q3,q1,q3,q4,trivial⟩,?_⟩;have e57:=e6.trans e7;have z57:=e57.size;refine aK (Eb (x:=A) (y:=⟨[(dy us L n t.1,t.2)],0⟩) (d:=1) (s5.bM e57 aj).QD (Um b7) (fun j hj=>by have:=(s5.cj hj).2; omega) (fun j hj=>by simp [aP] at hj; have:=b7.lt; omega) (by show A.ai.length+1<=_; omega)) ?_;rintro _ h8 ⟨e8,p',l',c',rfl,s8⟩;refine ⟨((p',l',c'),((w7 A ⟨[(dy us L n t.1,t.2)],0⟩).num:Int),()),rfl,ao ?_⟩;have e58:=e57.trans e8;obtain ⟨q1,q2,q3,q4⟩:=hst e58;refine ⟨⟨q2,q3,q1,q3,trivial⟩,?_⟩;refine aw (b5.an e58 aj) rfl aj ?_;intro h9 b9 k9 z9;have b9:bH h9 h2.size 69 [.slice p' l' c',.int .u32 ((w7 A ⟨[(dy us L n t.1,t.2)],0⟩).num:Int)]:=b9;have hput:fI (tH (dy us L n)) A t=w7 A ⟨[(dy us L n t.1,t.2)],0⟩:=by
   unfold fI;rw [Sy _ (hx.2 t htm)]
  rw [hput] at htk;refine aI (cs:=[(false,[.int .i64])]) (((i+1:Nat):Int),()) (x.ai.length-(i+1)) rfl ad (Xj (fun z=>[Value.int .i64 z]) hw) ⟨i+1,p',l',c',rfl,ad,rfl,Ch.trans (Ch.trans k5 e58 aj) k9 (fun j hj _=>hj),by rw [htk]; exact b9,?_⟩;rw [htk];exact (s8.bM k9 (fun j hj=>by have:=(s8.cj hj).1; simp; omega)).mono ad
 ·have g1:=W4 g1;have hi:i=x.ai.length:=ad
  subst hi;rw [XB,C9 Ii hx hxn] at b5 s5;refine af b5 ((q5,m5,d5),((ik us L n x).num:Int),()) rfl (ao ?_);refine aw (b2.an k5 (by simp; omega)) rfl aj ?_;intro h7 b7 k7 z7;have b7:bH h7 h1.size 69 [.slice q5 m5 d5,.int .u32 ((ik us L n x).num:Int)]:=b7;refine af b7 ((q5,m5,d5),((ik us L n x).num:Int),()) rfl ?_;exact ⟨Ch.trans e05 k7 (fun j hj hl=>by simp at hj; omega),q5,m5,d5,rfl,(s5.bM k7 (fun j hj=>by have:=(s5.cj hj).1; simp; omega)).mono ad⟩
structure NB (us:List cd) (n:Nat) (x:cm):Prop where
 nf:Nf x.ai
 num:x.num<4294967296
 len:x.ai.length<=2^30
 own:∀ t,t∈x.ai->∃ o,jl us n t.1=some o
 sz:∀ t,t∈x.ai->t.1.size<=2^60
def IA (us:List cd) (L:List Lb) (n:Nat) (x:cm):Nf (ik us L n x).ai:=eM _ _
def DQ {us:List cd} {L:List Lb} {n:Nat} {x:cm} (h:x.num<4294967296):(ik us L n x).num<4294967296:=rU _ _ _ h
def Et {us:List cd} {L:List Lb} {n:Nat} {x:cm} {t:ZA × Nat} (ht:t∈(ik us L n x).ai):∃ u,u∈x.ai/\t.1=dy us L n u.1:=by
 obtain ⟨u',hu',h | ⟨y,w,hy,hw,he⟩⟩:=za ht
 ·cases h.1
 ·cases hy;simp [lj] at hw;subst hw;exact ⟨u',hu',he.symm⟩
def vU (us:List cd) (L:List Lb) (es:List cI) (n:Nat) (x:cF):cF:={ x with e:=db (cr es) (ik us L n x.e) }
structure VM (h0 h':Hp) (p:ZC) (l c:Nat) (ws:List (cv × cF)):Prop where
 out:SL h' h0.size 71 10 p l c (ws.map sK)
 fm:∀ w,w∈ws->gK h' w.1.p w.1.l w.2.e.ai
 low:∀ w,w∈ws->w.2.e.ai≠[]->∀ i,i∈aP w.1.p->i<h'.size/\i∉aP p
def IR {h:Hp} {a:Zx} {v:ZB} (hc:iq h a=some v):a.block<h.size:=by
 unfold iq at hc;cases hb:h[a.block]? with
 | none=>simp [hb] at hc
 | some o=>exact eX hb
def OD {h:Hp} {p:ZC} {l:Nat} {us:da} (v:gK h p l us) (h0:us≠[]):∀ i,i∈aP p->i<h.size:=by
 intro i hi;cases us with
 | nil=>exact absurd rfl h0
 | cons u us =>
  obtain ⟨a,rfl,hc⟩:=v.cells 0 aj
  have:i=a.block:=by simpa [aP] using hi
  subst this
  have:=IR hc.1
  rwa [gU,gU] at this
def I6 {ws:List Nat} {h h':Hp} {p:ZC} {l:Nat} {us:da} (v:gK h p l us) (k:Ch ws h h') (hw:us≠[]->∀ i,i∈aP p->i∉ws):gK h' p l us:=by
 by_cases h0:us=[]
 ·subst h0;exact ⟨v.len,fun i hi=>absurd hi aj⟩
 ·exact v.an k (hw h0)
def BJ {h:Hp} {g:Nat} {su lb st sd:cv} {L:List Lb} (s:Di h g su lb st sd L) {us:List cd} (v:xX h su.p su.l us) (sz:J7 us) {n:Nat} (hn:n<us.length) (hL:L.length<=2^40) {p:ZC} {l c:Nat} {xs:List cF} (vi:Dj h p l xs)
  (hxl:xs.length<=2^20) (hxs:∀ x,x∈xs->NB us n x.e)
  {q:ZC} {m d:Nat} {es:List cI} (ve:tk h q m es) (hb:∀ e,e∈es->∀ i,i∈aP e.p->i<h.size) (hm:es.length<=2^40) {S:List ZA} (hS:S.length<=2^30) (hes:∀ e,e∈es->sf S e.x) (hSw:∀ x,x∈xs->∀ t,t∈x.e.ai->dy us L n t.1∈S) :
  HC Tryz.prog 53 #[.pointer (some ⟨g,0,none⟩),.int .i64 (n:Int),.slice p l c,.slice q m d] h fun w h'=>Ext h h'/\∃ p' l' c' ws,w=.slice p' l' c'/\SI h' h.size p' l' c' ws/\ws.map (·.2)=xs.map (vU us L es n):=by
 refine bd (args:=[.pointer (some ⟨g,0,none⟩),.int .i64 (n:Int),.slice p l c,.slice q m d]) mixed Tryz.func53 az (gR (some ⟨g,0,none⟩) n p l c q m d) ?_;unfold eH bf bh bG aQ bK bm aH aR;obtain ⟨w0,hw0,vd,hit⟩:=Ct vi;have hl0:w0.length=xs.length:=by rw [<- hw0,W3]
 have hll:=vd.len;refine lM (e:=71) (z:=.agg iz.toArray) (sz:=10) (by':=104) Ap DP rfl vd.src (by simpa using hll) (nL w0) (oz w0) ad ad ?_;intro p1 c1 h1 s1 e1;have hlow0:∀ w,w∈w0->w.2.e.ai≠[]->∀ i,i∈aP w.1.p->i<h.size:=fun w hw h0=>OD (hit w hw).lin.vw h0
 refine aU (cs:=[(false,[.int .i64])]) (fun y k h'=>∃ (i:Nat) (ws:List (cv × cF)),y.1=(i:Int)/\k=xs.length-i/\i<=xs.length/\Ext h h'/\VM h h' p1 l c1 ws/\ws.length=xs.length/\(∀ j w,j<i->ws[j]?=some w->SL h' h.size 117 2 w.1.p w.1.l w.1.c (w.2.e.ai.map dc))/\∀ j x w,xs[j]?=some x->ws[j]?=some w->w.2=if j<i then vU us L es n x else x) ((0:Int),()) xs.length rfl
  ⟨0,w0,rfl,rfl,ad,e1,⟨s1,fun w hw=>(hit w hw).lin.vw.an e1 aj,fun w hw h0 i hi=>⟨by have:=hlow0 w hw h0 i hi; have:=e1.size; omega,fun hh=>by have:=(s1.cj hh).1; have:=hlow0 w hw h0 i hi; omega⟩⟩,hl0,fun j w hj=>absurd hj ad,fun j x w hx hw=>by
   rw [W6 ad]
   have:(w0.map (·.2))[j]?=some w.2:=by rw [XO,hw]; rfl
   rw [hw0,hx] at this;exact (Xo this).symm⟩ ?_
 rintro ⟨n10,⟨⟩⟩ k h2 ⟨i,ws,hi,rfl,hle,e2,o2,hwl,hown,hj⟩;simp only at hi;subst hi;refine ao ?_;have hwi:IntKind.wrap .i64 ((i:Int)+1)=((i+1:Nat):Int):=by rw [wrap_i64 ad ad]; omega
 refine ak (fun r=>?_) (fun r=>?_)
 ·have r:=W2 r;have hil:i<xs.length:=ad
  have hiw:i<ws.length:=ad
  obtain ⟨a,rfl,hc⟩:=SL.cells o2.out (i:=i) (by rw [W3]; exact hiw);rw [Xc] at hc;have hxi:xs[i]?=some xs[i]:=W5 hil;have hwi':ws[i]?=some ws[i]:=W5 hiw;have hwx:=hj i _ _ hxi hwi';rw [W6 ad] at hwx;have hxm:=Xe hil;have hwm:=Xe hiw;have vw:=o2.fm _ hwm;have lw:=o2.low _ hwm;generalize ws[i]=w at hc hwi' hwx hwm vw lw;generalize xs[i]=x at hxi hwx hxm;subst hwx;have hsw:=hxs w.2 hxm;refine ay ⟨ad,ad⟩ (ax rfl ?_);rw [show Int.toNat (i:Int)=i from ad];refine aC ((w.1.p,w.1.l,w.1.c),(w.2.e.num:Int),()) ⟨by rw [add_add]; exact hc.2.2.2.2.2.2.2.1,by rw [add_add]; exact hc.2.2.2.2.2.2.2.2.1,trivial⟩ ?_;refine ao ?_;have z2:=e2.size;refine aK (DY (d:=w.1.c) (s.an e2) (v.an e2) sz hn hL vw hsw.nf hsw.num hsw.len hsw.own hsw.sz) ?_;rintro _ h3 ⟨e3,p3,l3,c3,rfl,s3⟩;refine ⟨((p3,l3,c3),((ik us L n w.2.e).num:Int),()),rfl,ao ?_⟩;have z3:=e3.size;refine aK (H8 (c:=c3) (d:=d) s3.QD (ve.an (e2.trans e3)) (fun j hj=>(s3.cj hj).2) (fun e he j hj=>by have:=hb e he j hj; omega) hm (IA _ _ _ _) (DQ hsw.num) (fun e he=>(hes e he).nf) hS (fun t ht=>by
   obtain ⟨u',hu',he'⟩:=Et ht;rw [he'];exact hSw w.2 hxm u' hu') fun e he=>(hes e he).fm) ?_
  rintro _ h4 ⟨e4,p4,l4,c4,rfl,s4⟩;refine ⟨((p4,l4,c4),((db (cr es) (ik us L n w.2.e)).num:Int),()),rfl,ao ?_⟩;have z4:=e4.size;have e24:=e3.trans e4;refine ay ⟨ad,ad⟩ (ax rfl ?_);have so:=o2.out.bM e24 aj;refine SL.part (P:=Tryz.prog) so (i:=i) (by rw [W3]; exact hiw) (vs:=[.slice p4 l4 c4,.int .u32 ((db (cr es) (ik us L n w.2.e)).num:Int)]) (o:=7) aj (by simp [cX]) rfl ?_;intro h6 s6 k6 z6;have hse:(ws.map sK).set i (la ((ws.map sK)[i]'(by rw [W3]; exact hiw)) 7 [.slice p4 l4 c4,.int .u32 ((db (cr es) (ik us L n w.2.e)).num:Int)])=(ws.set i (⟨p4,l4,c4⟩,vU us L es n w.2)).map sK:=by
   rw [Y0]
   congr 1
   rw [Xc]
   have:ws[i]=w:=(Xn.1 hwi').2
   rw [this] <;> rfl
  rw [hse] at s6;have hgb:∀ j,j∈aP (some a)->h.size<=j/\j<h2.size:=fun j hj=>o2.out.cj hj
  have e6:Ext h h6:=Ch.trans (e2.trans e24) k6 (fun j hj hl=>by have:=hgb j hj; omega);refine aI (cs:=[(false,[.int .i64])]) (((i+1:Nat):Int),()) (xs.length-(i+1)) rfl ad (Xj (fun z=>[Value.int .i64 z]) hwi) ⟨i+1,_,rfl,rfl,ad,e6,⟨s6,fun w' hw'=>?_,fun w' hw' h0' j hj'=>?_⟩,by rw [X8]; exact hwl,fun j w' hj' hw'=>?_,fun j x' w' hx' hw'=>?_⟩
  ·rcases Yg hw' with hw' | rfl
   ·exact I6 ((o2.fm w' hw').an e24 aj) k6 (fun h0 j hj=>(o2.low w' hw' h0 j hj).2)
   ·exact (s4.bM k6 (fun j hj hh=>by have:=(s4.cj hj).1; have:=hgb j hh; omega)).QD
  ·rcases Yg hw' with hw' | rfl
   ·obtain ⟨h1,h2⟩:=o2.low w' hw' h0' j hj';exact ⟨ad,h2⟩
   ·obtain ⟨h1,h2⟩:=s4.cj hj';exact ⟨ad,fun hh=>by have:=hgb j hh; omega⟩
  ·have hbx:∀ q,q∈aP (some a)->∃ ys,bH h4 q 71 ys:=SL.Au so
   by_cases hji:i=j
   ·subst hji;rw [YH hiw] at hw';cases hw';exact (SL.rm s4 k6 hbx cn).mono ad
   ·rw [Yq hji] at hw';exact SL.rm ((hown j w' ad hw').bM e24 aj) k6 hbx cn
  ·by_cases hji:i=j
   ·subst hji;rw [YH hiw] at hw';cases hw';rw [hxi] at hx';cases hx';rw [Xb ad]
   ·rw [Yq hji] at hw';have h2:=hj j x' w' hx' hw';rw [h2]
    by_cases hj2:j<i
    ·rw [Xb hj2,Xb ad]
    ·rw [W6 hj2,W6 ad]
 ·have r:=W4 r
  have:i=xs.length:=ad
  subst this;refine ⟨e2,p1,l,c1,ws,rfl,⟨o2.out,fun w hw=>?_,fun _ _=>trivial⟩,?_⟩
  ·obtain ⟨j,hj1,rfl⟩:=Xw hw;exact hown j _ ad (W5 hj1)
  apply Zc
  ·rw [W3,W3,hwl]
  ·intro j h1' h2';rw [Xc,Xc];rw [W3] at h1' h2'
   have:=hj j _ _ (W5 h2') (W5 h1')
   rw [this,Xb h2']
def U5:Tryz.prog.underlying 79=some (.slice 43):=az
def V3:(Tryz.prog.info? 43).map (fun i=>(i.zero,i.size,i.bytes))=some (some (.slice none 0 0),1,24):=az
def Qq (p:ZC) (l c:Nat):Instr.fill (fun j=>some (j*1,1)) ((Array.range (1*1)).map ((Value.slice none 0 0).cells[· % (Value.slice none 0 0).cells.size]!)) [(0,.slice p l c)]=some ([.slice p l c]:List ZB).toArray:=az
structure uo (h:Hp) (b:Nat) (st:cv) (tw:List (cv × List (cv × cF))):Prop where
 sl:SL h b 43 1 st.p st.l st.c (tw.map fun x=>[x.1.v])
 fm:∀ x,x∈tw->SI h b x.1.p x.1.l x.1.c x.2
def LZ {W:List Nat} {h h':Hp} {b:Nat} {p:ZC} {l c:Nat} {ws:List (cv × cF)} (s:SI h b p l c ws) (k:Ch W h h') {e':TypeId} (hw:∀ i,i∈W->∃ ys,bH h i e' ys) (h1:71≠e') (h2:117≠e'):SI h' b p l c ws :=
 ⟨SL.rm s.sl k hw h1,fun u hu=>SL.rm (s.own u hu) k hw h2,s.ok⟩
def Dq {h:Hp} {b b':Nat} {p:ZC} {l c:Nat} {ws:List (cv × cF)} (s:SI h b p l c ws) (hb:b'<=b):SI h b' p l c ws:=⟨s.sl.mono hb,fun u hu=>(s.own u hu).mono hb,s.ok⟩
def uo.an {W:List Nat} {h h':Hp} {b:Nat} {st:cv} {tw:List (cv × List (cv × cF))} (s:uo h b st tw) (k:Ch W h h') {e':TypeId} (hw:∀ i,i∈W->∃ ys,bH h i e' ys) (hd:∀ i,i∈aP st.p->i∉W) (h1:71≠e') (h2:117≠e'):uo h' b st tw :=
 ⟨s.sl.bM k hd,fun x hx=>LZ (s.fm x hx) k hw h1 h2⟩
def uo.ext {h h':Hp} {b:Nat} {st:cv} {tw:List (cv × List (cv × cF))} (s:uo h b st tw) (k:Ext h h'):uo h' b st tw:=s.an (e':=0) k aj aj cn cn
def uo.nil (h:Hp) (b:Nat):uo h b lX []:=⟨SL.nil _ _ _ _,aj⟩
def uo.push {L:Lp} {K:ZB->Hp->Prop} {h:Hp} {b:Nat} {st:cv} {tw:List (cv × List (cv × cF))} (s:uo h b st tw) {x:cv × List (cv × cF)} (hx:SI h b x.1.p x.1.l x.1.c x.2) (hb:b<=h.size) (hl:tw.length<=2^20) {l:List (Zx × List ZB)} (hst:∀ h',Ext h h'->T.C6 h' l) {k:ZC->Nat->Nat->T}
  (hk:∀ p' c' h',uo h' b ⟨p',st.l+1,c'⟩ (tw++[x])->Ch (aP st.p) h h'->(p'=st.p\/∃ a,p'=some a/\h.size<=a.block)->k p' (st.l+1) c' L K h') :
  T.ek Tryz.prog (Instr.buildSlice 79 1 #[(0,.slice x.1.p x.1.l x.1.c)]) false [(false,[.slice 0])] (fun q m cc=>T.bj l (T.ek Tryz.prog (Builtin.append_ #[79,79] 79 #[.slice st.p st.l st.c,.slice q m cc]) false [(false,[.slice 0])] k)) L K h:=by
 have hll:st.l=tw.length:=by have:=s.sl.1; rwa [W3] at this
 refine gI (vs:=[x.1.v]) U5 V3 rfl ad ad (Qq _ _ _) rfl rfl s.sl hb ad ad hst ?_;intro p' c' h' s' k' hp';refine hk p' c' h' ⟨by rw [Xf]; exact s',fun y hy=>?_⟩ k' hp';have hbx:=SL.Au s.sl;rcases Xl.1 hy with hy | hy
 ·exact LZ (s.fm y hy) k' hbx cn cn
 ·rw [Xm.1 hy];exact LZ hx k' hbx cn cn
def NR (lv:Nat) (pp00:ZC) (ll00:Nat) (a1 a7:Zx) (p16:ZC) (l17 l18:Nat):T :=
   T.loop [aR] [.int .i64 (0:Int)] <| fun (n21:Int) =>
   bG n21 ll00
   (T.ah (a7.add 2) [.slice 43] <| fun (p22:ZC) (l23:Nat) (l24:Nat) =>
   T.need (fo n21 ll00) <|
   T.bF pp00 <| fun (a25:Zx) =>
   T.ah (a25.add (aQ n21 4)) [.slice 71] <| fun (p26:ZC) (l27:Nat) (l28:Nat) =>
   bK 53 [.pointer (some a7),.int .i64 n21,.slice p26 l27 l28,.slice p16 l17 l18] false [(false,[.slice 71])] <| fun (p29:ZC) (l30:Nat) (l31:Nat) =>
   T.bj [((a7.add 2),[.slice p22 l23 l24])] <|
   bR (Instr.buildSlice 79 1 #[(0,.slice p29 l30 l31)]) false [dh] <| fun (p32:ZC) (l33:Nat) (l34:Nat) =>
   T.bj [((a25.add (aQ n21 4)),[.slice p26 l27 l28]),((a7.add 2),[.slice p22 l23 l24])] <|
   bR (Builtin.append_ #[79,79] 79 #[.slice p22 l23 l24,.slice p32 l33 l34]) false [dh] <| fun (p35:ZC) (l36:Nat) (l37:Nat) =>
   T.bj [((a25.add (aQ n21 4)),[.slice p26 l27 l28])] <|
   T.aE (a7.add 2) [.slice p35 l36 l37] <|
   T.ah (a7.add 3) [.slice 43] <| fun (p38:ZC) (l39:Nat) (l40:Nat) =>
   T.need (fo n21 ll00) <|
   T.bF pp00 <| fun (a41:Zx) =>
   T.ah ((a41.add (aQ n21 4)).add 1) [.slice 71] <| fun (p42:ZC) (l43:Nat) (l44:Nat) =>
   bK 53 [.pointer (some a7),.int .i64 n21,.slice p42 l43 l44,.slice p16 l17 l18] false [(false,[.slice 71])] <| fun (p45:ZC) (l46:Nat) (l47:Nat) =>
   T.bj [((a7.add 3),[.slice p38 l39 l40])] <|
   bR (Instr.buildSlice 79 1 #[(0,.slice p45 l46 l47)]) false [dh] <| fun (p48:ZC) (l49:Nat) (l50:Nat) =>
   T.bj [(((a41.add (aQ n21 4)).add 1),[.slice p42 l43 l44]),((a7.add 3),[.slice p38 l39 l40])] <|
   bR (Builtin.append_ #[79,79] 79 #[.slice p38 l39 l40,.slice p48 l49 l50]) false [dh] <| fun (p51:ZC) (l52:Nat) (l53:Nat) =>
   T.bj [(((a41.add (aQ n21 4)).add 1),[.slice p42 l43 l44])] <|
   T.aE (a7.add 3) [.slice p51 l52 l53] <|
   T.again lv [.int .i64 (bt (n21+(1:Int)))])
   (T.aE a1 [.int .i64 (0:Int),.int .i64 (0:Int),bT] <|
   T.ah a1 [.int .i64,.int .i64,.string] <| fun (n22:Int) (n23:Int) (s24:ZA) =>
   br #[.pointer (some a7),.agg #[.int .i64 n22,.int .i64 n23,.string s24]])
def xT (us:List cd) (L:List Lb) (es:List cI) (F:cd->List cF) (i:Nat) (tw:List (cv × List (cv × cF))):Prop :=
 tw.length=i/\∀ n u x,us[n]?=some u->tw[n]?=some x->x.2.map (·.2)=(F u).map (vU us L es n)
def xT.push {us:List cd} {L:List Lb} {es:List cI} {F:cd->List cF} {i:Nat} {tw:List (cv × List (cv × cF))} (t:xT us L es F i tw) {u:cd} (hu:us[i]?=some u) {x:cv × List (cv × cF)} (hx:x.2.map (·.2)=(F u).map (vU us L es i)):xT us L es F (i+1) (tw++[x]):=by
 obtain ⟨h1,h2⟩:=t;refine ⟨by rw [W8,h1]; rfl,fun n v y hv hy=>?_⟩
 by_cases hn:n<tw.length
 ·rw [XG hn] at hy;exact h2 n v y hv hy
 ·rw [XC ad] at hy;have hn0:n=tw.length:=by
   have:=(Xn.1 hy).1
   simp at this;omega
  subst hn0;rw [Zb] at hy;cases hy;rw [h1] at hv ⊢;rw [hu] at hv;cases hv;exact hx
structure Tu (us:List cd) (L:List Lb) (S:List ZA) (n:Nat) (u:cd):Prop where
 text:∀ x,x∈u.text->NB us n x.e/\∀ t,t∈x.e.ai->dy us L n t.1∈S
 data:∀ x,x∈u.data->NB us n x.e/\∀ t,t∈x.e.ai->dy us L n t.1∈S
def Be {L:Lp} {K:ZB->Hp->Prop} {h:Hp} {vs:List ZB} {cs:List fE} {I:qb (flat cs)->Nat->Hp->Prop} {n:Nat} (y:qb (flat cs)) (m:Nat) (hm:m<n) (hy:vs=parts cs (dZ _ y)) (hI:I y m h):T.again L.length vs (L++[Jl I n]) K h :=
 aI y m (by rw [XC (Xk _),Zb]; rfl) hm hy hI
def PY {L:Lp} {K:ZB->Hp->Prop} {h0 h:Hp} {ga g lv:Nat} {su lb:cv} {LB:List Lb} {us:List cd} {a b:Int} {z:ZA} {p16:ZC} {l17 l18:Nat} {es:List cI} {S:List ZA} (hlv:lv=L.length) (hga:ga<g) (h0g:h0.size<=ga) (e0:Ext h0 h) (b1:bH h ga 75 [.int .i64 a,.int .i64 b,.string z])
  (pr:Di h g su lb lX lX LB) (v:xX h0 su.p su.l us) (sz:J7 us) (hL:LB.length<=2^40) (ve:tk h p16 l17 es) (hq:∀ i,i∈aP p16->g<i) (hb:∀ e,e∈es->∀ i,i∈aP e.p->g<i/\i<h.size) (hm:es.length<=2^40) (hS:S.length<=2^30) (hes:∀ e,e∈es->sf S e.x)
  (hW:∀ n u,us[n]?=some u->Tu us LB S n u)
  (hk:∀ h' st sd tw dw,Ext h0 h'->Di h' g su lb st sd LB->uo h' h.size st tw->uo h' h.size sd dw->xT us LB es (·.text) us.length tw->xT us LB es (·.data) us.length dw->K (.tuple #[.pointer (some ⟨g,0,none⟩),N' ⟨0,0,dF⟩]) h') :
  NR lv su.p su.l ⟨ga,0,none⟩ ⟨g,0,none⟩ p16 l17 l18 L K h:=by
 subst hlv;unfold NR bG aQ bK bR bt fo br bT aR dh;have hll:=v.len;have hmany:=sz.many;have hgs:=pr.box.lt;refine aU (cs:=[(false,[.int .i64])]) (fun y k h'=>∃ (i:Nat) (st sd:cv) (tw dw:List (cv × List (cv × cF))),y.1=(i:Int)/\k=us.length-i/\i<=us.length/\Ext h0 h'/\Ch [g] h h'/\bH h' g 81 [su.v,lb.v,st.v,sd.v]/\uo h' h.size st tw/\uo h' h.size sd dw/\(∀ j,j∈aP st.p->j∉aP sd.p) /\
  xT us LB es (·.text) i tw/\xT us LB es (·.data) i dw) ((0:Int),()) us.length rfl
  ⟨0,lX,lX,[],[],rfl,rfl,ad,e0,Ch.refl _ _,pr.box,uo.nil _ _,uo.nil _ _,by simp [lX,aP],⟨rfl,fun n u x _ hx=>by simp at hx⟩,⟨rfl,fun n u x _ hx=>by simp at hx⟩⟩ ?_
 rintro ⟨n21,⟨⟩⟩ k h1 ⟨i,st,sd,tw,dw,hi,rfl,hle,e1,k1,b7,t1,d1,hdj,it,id⟩;simp only at hi;subst hi;refine ao ?_;have hw:IntKind.wrap .i64 ((i:Int)+1)=((i+1:Nat):Int):=by rw [wrap_i64 ad ad]; omega
 have z1:=k1.size;refine ak (fun q=>?_) (fun q=>?_)
 ·have q:=W2 q;have hil:i<us.length:=ad
  have hug:us[i]?=some us[i]:=W5 hil;obtain ⟨au,sa,sb,sc,sd',hau,hcu,va⟩:=v.cells i hil;have hum:=Xe hil;generalize us[i]=u at hug hcu va hum;have uw:=hW i u hug;have prk:∀ {h':Hp} {st' sd2:cv},Ch [g] h h'->bH h' g 81 [su.v,lb.v,st'.v,sd2.v]->Di h' g su lb st' sd2 LB:=fun k bx=>⟨bx,pr.oC.bM k (fun j hj hh=>by have:=(pr.oC.cj hj).1; simp at hh; omega)⟩
  have vek:∀ {h':Hp},Ch [g] h h'->tk h' p16 l17 es:=fun k=>ve.mv k (fun j hj hh=>by have:=hq j hj; simp at hh; omega) (fun e he _ j hj hh=>by have:=(hb e he j hj).1; simp at hh; omega)
  have cu0:∀ {h':Hp},Ext h0 h'->aJ h' (au.add (i*4)) 0 [.slice sa.p sa.l sa.c]:=fun e=>⟨(aX e aj _ _ hcu).1,trivial⟩
  have cu1:∀ {h':Hp},Ext h0 h'->aJ h' ((au.add (i*4)).add 1) 0 [.slice sb.p sb.l sb.c]:=fun e=>⟨by rw [add_add]; exact (aX e aj _ _ hcu).2.1,trivial⟩
  rw [aG];refine af b7 ((st.p,st.l,st.c),()) rfl (ao ?_);refine ay ⟨ad,ad⟩ (ax hau ?_);rw [show Int.toNat (i:Int)=i from ad];refine aC ((sa.p,sa.l,sa.c),()) (cu0 e1) (ao ?_);refine aK (BJ (c:=sa.c) (d:=l18) (prk k1 b7) (v.an e1) sz hil hL (va.an e1).text (sz.text u hum) (fun x hx=>(uw.text x hx).1) (vek k1) (fun e he j hj=>by have:=(hb e he j hj).2; omega) hm hS hes (fun x hx=>(uw.text x hx).2)) ?_;rintro _ h2 ⟨e2,p2,l2,c2,w2,rfl,o2,hm2⟩;refine ⟨((p2,l2,c2),()),rfl,ao ?_⟩;have z2:=e2.size;have e02:=e1.trans e2;have b72:=b7.an e2 aj;refine ⟨⟨b72.cells _ rfl,trivial⟩,?_⟩;refine uo.push (x:=(⟨p2,l2,c2⟩,w2)) (t1.ext e2) (Dq o2 z1) ad (by rw [it.1]; omega) (by exact fun h' e=>⟨cu0 (e02.trans e),(b72.an e aj).cells _ rfl,trivial⟩) ?_;intro p3 c3 h3 t3 k3 hp3;have hst3:∀ j,j∈aP st.p->h.size<=j/\j<h1.size:=fun j hj=>t1.sl.cj hj
  have e03:Ext h0 h3:=Ch.trans e02 k3 (fun j hj hl=>by have:=hst3 j hj; have:=e0.size; omega);have kg3:Ch [g] h h3:=Ch.trans (Ch.trans k1 e2 aj) k3 (fun j hj hl=>by have:=hst3 j hj; omega);have b73:=b72.an k3 (fun hj=>by have:=hst3 _ hj; omega);have d3:uo h3 h.size sd dw:=(d1.ext e2).an (e':=43) k3 (SL.Au (t1.ext e2).sl) (fun j hj hh=>hdj j hh hj) cn cn;have z3:=k3.size;refine ⟨⟨cu0 e03,trivial⟩,?_⟩;rw [aG];refine aw b73 rfl aj ?_;intro h4 b74 k4 z4;have b74:bH h4 g 81 [su.v,lb.v,(⟨p3,st.l+1,c3⟩:cv).v,sd.v]:=b74;have hg0:∀ j,j∈[g]->h0.size<=j:=fun j hj=>by simp at hj; omega
  have e04:Ext h0 h4:=Ch.trans e03 k4 (fun j hj hl=>by have:=hg0 j hj; omega);have kg4:Ch [g] h h4:=Ch.trans kg3 k4 (fun j hj _=>hj);have hbg:∀ {hh:Hp} {xs:List ZB},bH hh g 81 xs->∀ j,j∈[g]->∃ ys,bH hh j 81 ys:=fun bx j hj=>by
   rw [Xm] at hj;subst hj;exact ⟨_,bx⟩
  have hng:∀ {hh:Hp} {s:cv} {t:List (cv × List (cv × cF))},uo hh h.size s t->∀ j,j∈aP s.p->j∉[g]:=fun t j hj hh=>by have:=(t.sl.cj hj).1; simp at hh; omega
  have t4:=t3.an (e':=81) k4 (hbg b73) (hng t3) cn cn;have d4:=d3.an (e':=81) k4 (hbg b73) (hng d3) cn cn;have hdj4:∀ j,j∈aP p3->j∉aP sd.p:=fun j hj hh=>by
   rcases hp3 with h | ⟨a',h,h'⟩
   ·rw [h] at hj; exact hdj j hj hh
   ·rw [h] at hj;simp [aP] at hj
    have:=(d1.sl.cj hh).2
    omega
  refine af b74 ((sd.p,sd.l,sd.c),()) rfl (ao ?_);refine ay ⟨ad,ad⟩ (ax hau ?_);refine aC ((sb.p,sb.l,sb.c),()) (cu1 e04) (ao ?_);refine aK (BJ (c:=sb.c) (d:=l18) (prk kg4 b74) (v.an e04) sz hil hL (va.an e04).data (sz.data u hum) (fun x hx=>(uw.data x hx).1) (vek kg4) (fun e he j hj=>by have:=(hb e he j hj).2; omega) hm hS hes (fun x hx=>(uw.data x hx).2)) ?_;rintro _ h5 ⟨e5,p5,l5,c5,w5,rfl,o5,hm5⟩;refine ⟨((p5,l5,c5),()),rfl,ao ?_⟩;have z5:=e5.size;have e05:=e04.trans e5;have b75:=b74.an e5 aj;refine ⟨⟨b75.cells _ rfl,trivial⟩,?_⟩;refine uo.push (x:=(⟨p5,l5,c5⟩,w5)) (d4.ext e5) (Dq o5 ad) ad (by rw [id.1]; omega) (by exact fun h' e=>⟨cu1 (e05.trans e),(b75.an e aj).cells _ rfl,trivial⟩) ?_;intro p6 c6 h6 d6 k6 hp6;have hsd6:∀ j,j∈aP sd.p->h.size<=j/\j<h1.size:=fun j hj=>d1.sl.cj hj
  have e06:Ext h0 h6:=Ch.trans e05 k6 (fun j hj hl=>by have:=hsd6 j hj; have:=e0.size; omega);have kg6:Ch [g] h h6:=Ch.trans (Ch.trans kg4 e5 aj) k6 (fun j hj hl=>by have:=hsd6 j hj; omega);have b76:=b75.an k6 (fun hj=>by have:=hsd6 _ hj; omega);have t6:uo h6 h.size ⟨p3,st.l+1,c3⟩ (tw++[(⟨p2,l2,c2⟩,w2)]):=(t4.ext e5).an (e':=43) k6 (SL.Au (d4.ext e5).sl) hdj4 cn cn;refine ⟨⟨cu1 e06,trivial⟩,?_⟩;refine aw b76 rfl aj ?_;intro h7 b77 k7 z7;have b77:bH h7 g 81 [su.v,lb.v,(⟨p3,st.l+1,c3⟩:cv).v,(⟨p6,sd.l+1,c6⟩:cv).v]:=b77;have e07:Ext h0 h7:=Ch.trans e06 k7 (fun j hj hl=>by have:=hg0 j hj; omega);refine Be (cs:=[(false,[.int .i64])]) (((i+1:Nat):Int),()) (us.length-(i+1)) ad (Xj (fun z=>[Value.int .i64 z]) hw) ⟨i+1,⟨p3,st.l+1,c3⟩,⟨p6,sd.l+1,c6⟩,_,_,rfl,rfl,ad,e07,Ch.trans kg6 k7 (fun j hj _=>hj),b77,
   t6.an (e':=81) k7 (hbg b76) (hng t6) cn cn,d6.an (e':=81) k7 (hbg b76) (hng d6) cn cn,fun j hj hh=>?_,it.push hug hm2,id.push hug hm5⟩
  rcases hp6 with h | ⟨a',h,h'⟩
  ·rw [h] at hh; exact hdj4 j hj hh
  ·rw [h] at hh;simp [aP] at hh
   have:=(t4.sl.cj hj).2
   omega
 ·have q:=W4 q
  have:i=us.length:=ad
  subst this;have b1':=b1.an k1 (by simp; omega);refine aw b1' rfl aj ?_;intro h2 b2 k2 z2;have b2:bH h2 ga 75 [.int .i64 0,.int .i64 0,.string dF]:=b2;refine af b2 ((0:Int),(0:Int),dF,()) rfl ?_;have hba:∀ j,j∈[ga]->∃ ys,bH h1 j 75 ys:=fun j hj=>by
   rw [Xm] at hj;subst hj;exact ⟨_,b1'⟩
  have hna:∀ {s:cv} {t:List (cv × List (cv × cF))},uo h1 h.size s t->∀ j,j∈aP s.p->j∉[ga]:=fun t j hj hh=>by have:=(t.sl.cj hj).1; simp at hh; omega
  refine hk h2 st sd tw dw (Ch.trans e1 k2 (fun j hj hl=>by simp at hj; omega)) ⟨b7.an k2 (by simp; omega),?_⟩ (t1.an (e':=75) k2 hba (hna t1) cn cn) (d1.an (e':=75) k2 hba (hna d1) cn cn) it id;refine pr.oC.bM (Ch.trans (ws:=[g,ga]) (Ch.mono k1 aj) k2 aj) (fun j hj hh=>by have:=(pr.oC.cj hj).1; simp at hh; omega)
def pP (us:List cd):List Nat:=us.flatMap fun u=>List.range u.bg.length
theorem rk:∀ (us:List cd) (n:Nat),(ef n us).length=(pP us).length
 | [],n=>rfl
 | u::us,n=>by
  unfold pP;rw [ef,XJ,W8,W8,W3,Yy,rk us (n+1)] <;> rfl
def MI (lv:Nat) (pp00:ZC) (ll00:Nat) (a1:Zx) (p12:ZC) (l13:Nat) (n19:Int):T :=
   T.loop [aR,aR] [.int .i64 (0:Int),.int .i64 n19] <| fun (n21:Int) (n22:Int) =>
   T.need (fo n21 ll00) <|
   T.bF pp00 <| fun (a23:Zx) =>
   T.ah ((a23.add (aQ n21 4)).add 2) [.slice 100] <| fun (p24:ZC) (l25:Nat) (l26:Nat) =>
   cond (decide (n22>=(l25:Int)))
   (T.need (fo n21 ll00) <|
   T.bF pp00 <| fun (a27:Zx) =>
   T.ah ((a27.add (aQ n21 4)).add 2) [.slice 100] <| fun (p28:ZC) (l29:Nat) (l30:Nat) =>
   T.again lv [.int .i64 (bt (n21+(1:Int))),.int .i64 (bt (n22-(l29:Int)))])
   (T.need (fo n21 ll00) <|
   T.bF pp00 <| fun (a27:Zx) =>
   T.ah ((a27.add (aQ n21 4)).add 2) [.slice 100] <| fun (p28:ZC) (l29:Nat) (l30:Nat) =>
   T.need (fo n19 l13) <|
   T.bF p12 <| fun (a31:Zx) =>
   T.ah (a31.add (aQ n19 1)) [.int .i64] <| fun (n32:Int) =>
   T.need (fo n32 l29) <|
   T.bF p28 <| fun (a33:Zx) =>
   T.ah (a33.add (aQ n32 3)) [.string] <| fun (s34:ZA) =>
   T.bj [((a33.add (aQ n32 3)),[.string s34]),((a31.add (aQ n19 1)),[.int .i64 n32]),(((a27.add (aQ n21 4)).add 2),[.slice p28 l29 l30])] <|
   T.aE a1 [.int .i64 (24:Int),.int .i64 n21,.string s34] <|
   T.ah a1 [.int .i64,.int .i64,.string] <| fun (n35:Int) (n36:Int) (s37:ZA) =>
   br #[.pointer none,.agg #[.int .i64 n35,.int .i64 n36,.string s37]])
def OQ {L:Lp} {K:ZB->Hp->Prop} {h0 h:Hp} {ga lv b:Nat} {p:ZC} {l:Nat} {us:List cd} {x y:Int} {z:ZA} {p12:ZC} {l13 c13:Nat} {i0:Nat} {q:Nat × qY} (hlv:lv=L.length) (h0g:h0.size<=ga) (e0:Ext h0 h) (b1:bH h ga 75 [.int .i64 x,.int .i64 y,.string z]) (v:xX h p l us) (hmany:us.length<=2^20)
  (k12:SL h b 3 1 p12 l13 c13 ((pP us).map Ke)) (hle:(ef 0 us).length<=2^40) (hq:(ef 0 us)[i0]?=some q) (hk:∀ h',Ext h0 h'->K (.tuple #[.pointer none,N' ⟨24,q.1,q.2.1⟩]) h'):MI lv p l ⟨ga,0,none⟩ p12 l13 i0 L K h:=by
 subst hlv;unfold MI aQ bt fo br aR;have hll:=v.len;have hi0:i0<(ef 0 us).length:=(Xn.1 hq).1;have hkl:=rk us 0;refine aU (cs:=[(false,[.int .i64]),(false,[.int .i64])]) (fun y k h'=>∃ (u r:Nat),y.1=(u:Int)/\y.2.1=(r:Int)/\k=us.length-u/\h'=h/\u<=us.length/\(ef u (us.drop u))[r]?=some q/\(pP (us.drop u))[r]?=(pP us)[i0]?/\r<=i0) ((0:Int),(i0:Int),()) us.length rfl
  ⟨0,i0,rfl,rfl,rfl,rfl,ad,hq,rfl,Xk _⟩ ?_
 rintro ⟨n21,n22,⟨⟩⟩ k h' ⟨u,r,hu,hr,rfl,rfl,hul,hqr,hkr,hri⟩;simp only at hu hr;subst hu hr;refine ao ?_;have hult:u<us.length:=by
  by_cases h:u<us.length
  ·exact h
  ·rw [XZ ad] at hqr;simp [ef] at hqr
 rw [Xi hult] at hqr hkr;have hkr:(List.range us[u].bg.length++pP (us.drop (u+1)))[r]?=(pP us)[i0]?:=hkr;have hqr:(us[u].bg.map (fun e=>(u,e))++ef (u+1) (us.drop (u+1)))[r]?=some q:=hqr;obtain ⟨au,sa,sb,sc,sd,rfl,hcu,va⟩:=v.cells u hult;generalize us[u]=w at hkr hqr hcu va;have hlq:=va.bg.len;have hcq:aJ h' ((au.add (u*4)).add 2) 0 [.slice sc.p sc.l sc.c]:=⟨by rw [add_add]; exact hcu.2.2.1,trivial⟩
 refine ay ⟨ad,ad⟩ (ax rfl ?_);rw [show Int.toNat (u:Int)=u from ad];refine aC ((sc.p,sc.l,sc.c),()) hcq (ao ?_);refine ak (fun g=>?_) (fun g=>?_)
 ·have g:=W2 g;have hge:w.bg.length<=r:=ad
  refine ay ⟨ad,ad⟩ (ax rfl ?_);refine aC ((sc.p,sc.l,sc.c),()) hcq (ao ?_);have hw1:IntKind.wrap .i64 ((u:Int)+1)=((u+1:Nat):Int):=by rw [wrap_i64 ad ad]; omega
  have hw2:IntKind.wrap .i64 ((r:Int)-(sc.l:Int))=((r-w.bg.length:Nat):Int):=by rw [wrap_i64 ad ad]; omega
  rw [XC (by rw [W3]; exact hge),W3] at hqr;rw [XC (by rw [Yy]; exact hge),Yy] at hkr;exact Be (cs:=[(false,[.int .i64]),(false,[.int .i64])]) (((u+1:Nat):Int),((r-w.bg.length:Nat):Int),()) (us.length-(u+1)) ad (by rw [hw1,hw2]; rfl) ⟨u+1,r-w.bg.length,rfl,rfl,rfl,rfl,ad,hqr,hkr,ad⟩
 ·have g:=W4 g;have hlt:r<w.bg.length:=ad
  rw [XG (by rw [W3]; exact hlt),XO,W5 hlt] at hqr;rw [XG (by rw [Yy]; exact hlt),Ym hlt] at hkr;have hq':(u,w.bg[r])=q:=Xo hqr;subst hq';refine ay ⟨ad,ad⟩ (ax rfl ?_);refine aC ((sc.p,sc.l,sc.c),()) hcq (ao ?_);have hi0k:i0<(pP us).length:=ad
  obtain ⟨a12,ha12,hc12⟩:=SL.cells k12 (i:=i0) (by rw [W3]; exact hi0k);rw [Xc] at hc12;have hgr:(pP us)[i0]=r:=by
   rw [W5 hi0k] at hkr;exact (Xo hkr).symm
  rw [hgr] at hc12;have hl13:l13=(pP us).length:=by have:=k12.1; rwa [W3] at this
  refine ay ⟨ad,ad⟩ (ax ha12 ?_);rw [show Int.toNat (i0:Int)=i0 from ad];refine aC ((r:Int),()) hc12 (ao ?_);obtain ⟨aq,pq,mq,cq,haq,hcqr,_,_⟩:=va.bg.cells r hlt;refine ay ⟨ad,ad⟩ (ax haq ?_);rw [show Int.toNat (r:Int)=r from ad];refine aC (w.bg[r].1,()) ⟨hcqr.1,trivial⟩ (ao ?_);refine ⟨⟨⟨hcqr.1,trivial⟩,hc12,hcq,trivial⟩,?_⟩;refine aw b1 rfl aj ?_;intro h2 b2 k2 z2;have b2:bH h2 ga 75 [.int .i64 24,.int .i64 (u:Int),.string w.bg[r].1]:=b2;refine af b2 ((24:Int),(u:Int),w.bg[r].1,()) rfl ?_;exact hk h2 (Ch.trans e0 k2 (fun j hj hl=>by simp at hj; omega))
def Q1 (pp00:ZC) (ll00:Nat) (a1 a7:Zx):T :=
  T.loop [dh,dh,aR] [bi,bi,.int .i64 (0:Int)] <| fun (p9:ZC) (l10:Nat) (l11:Nat) (p12:ZC) (l13:Nat) (l14:Nat) (n15:Int) =>
  bG n15 ll00
  (T.loop [dh,dh,aR] [.slice p9 l10 l11,.slice p12 l13 l14,.int .i64 (0:Int)] <| fun (p16:ZC) (l17:Nat) (l18:Nat) (p19:ZC) (l20:Nat) (l21:Nat) (n22:Int) =>
  T.need (fo n15 ll00) <|
  T.bF pp00 <| fun (a23:Zx) =>
  T.ah ((a23.add (aQ n15 4)).add 2) [.slice 100] <| fun (p24:ZC) (l25:Nat) (l26:Nat) =>
  bG n22 l25
   (T.need (fo n15 ll00) <|
   T.bF pp00 <| fun (a27:Zx) =>
   T.ah ((a27.add (aQ n15 4)).add 2) [.slice 100] <| fun (p28:ZC) (l29:Nat) (l30:Nat) =>
   T.need (fo n22 l29) <|
   T.bF p28 <| fun (a31:Zx) =>
   T.ah (a31.add (aQ n22 3)) [.string,.slice 117,.int .u32] <| fun (Rw:ZA) (p33:ZC) (l34:Nat) (l35:Nat) (n36:Int) =>
   T.new [bT,bi,aH (0:Int)] 100 <| fun (a37:Zx) =>
   T.aE a37 [.string Rw,.slice p33 l34 l35,aH n36] <|
   T.ah a37 [.string] <| fun (s38:ZA) =>
   T.ah (a37.add 1) [.slice 117,.int .u32] <| fun (p39:ZC) (l40:Nat) (l41:Nat) (n42:Int) =>
   bK 50 [.pointer (some a7),.int .i64 n15,.string s38] false [(false,[.string])] <| fun (s43:ZA) =>
   T.bj [((a37.add 1),[.slice p39 l40 l41,aH n42])] <|
   bK 51 [.pointer (some a7),.int .i64 n15,.agg #[.slice p39 l40 l41,aH n42]] false [(true,[.slice 117,.int .u32])] <| fun (p44:ZC) (l45:Nat) (l46:Nat) (n47:Int) =>
   T.bj [(a37,[.string s38])] <|
   bR (Instr.buildSlice 44 1 #[(0,.agg #[.string s43,.slice p44 l45 l46,aH n47])]) false [dh] <| fun (p48:ZC) (l49:Nat) (l50:Nat) =>
   T.bj [((a37.add 1),[.slice p39 l40 l41,aH n42]),(a37,[.string s38])] <|
   bR (Builtin.append_ #[44,44] 44 #[.slice p16 l17 l18,.slice p48 l49 l50]) false [dh] <| fun (p51:ZC) (l52:Nat) (l53:Nat) =>
   T.bj [((a37.add 1),[.slice p39 l40 l41,aH n42]),(a37,[.string s38])] <|
   bR (Instr.buildSlice 31 1 #[(0,.int .i64 n22)]) false [dh] <| fun (p54:ZC) (l55:Nat) (l56:Nat) =>
   bR (Builtin.append_ #[31,31] 31 #[.slice p19 l20 l21,.slice p54 l55 l56]) false [dh] <| fun (p57:ZC) (l58:Nat) (l59:Nat) =>
   T.again 2 [.slice p51 l52 l53,.slice p57 l58 l59,.int .i64 (bt (n22+(1:Int)))])
   (T.again 1 [.slice p16 l17 l18,.slice p19 l20 l21,.int .i64 (bt (n15+(1:Int)))]))
  (bK 52 [.slice p9 l10 l11] true [(false,[.slice 100]),aR,aR] <| fun (p16:ZC) (l17:Nat) (l18:Nat) (n19:Int) (n20:Int) =>
  cond (n20 != (0:Int)) (MI 2 pp00 ll00 a1 p12 l13 n19) (NR 2 pp00 ll00 a1 a7 p16 l17 l18))
structure Ut (h:Hp) (b:Nat) (p:ZC) (l c:Nat) (q:ZC) (m d:Nat) (ms:List cI) (ks:List Nat):Prop where
 out:SL h b 100 3 p l c (ms.map yZ)
 num:SL h b 3 1 q m d (ks.map Ke)
 fm:∀ e,e∈ms->SL h b 117 2 e.p e.l e.c (e.x.ai.map dc)
def Ut.ext {h h':Hp} {b:Nat} {p:ZC} {l c:Nat} {q:ZC} {m d:Nat} {ms:List cI} {ks:List Nat} (s:Ut h b p l c q m d ms ks) (e:Ext h h'):Ut h' b p l c q m d ms ks :=
 ⟨s.out.bM e aj,s.num.bM e aj,fun x hx=>(s.fm x hx).bM e aj⟩
def dR (us:List cd) (L:List Lb) (l:List cd):List (ZA × cm):=(ef 0 l).map fun q=>(dy us L q.1 q.2.1,ik us L q.1 q.2.2)
def IP (l:List cd) (u:cd):pP (l++[u])=pP l++List.range u.bg.length:=by
 unfold pP;rw [Yz]
 simp
def O8 (us:List cd) (L:List Lb) (l:List cd) (u:cd):dR us L (l++[u])=dR us L l++u.bg.map fun e=>(dy us L l.length e.1,ik us L l.length e.2):=by
 unfold dR;rw [qF,Xf,Xv];simp only [Nat.zero_add] <;> rfl
def Ws (us:List cd) (n:Nat) (u:cd):Prop:=∀ e,e∈u.bg->NB us n e.2/\(∃ o,jl us n e.1=some o)/\e.1.size<=2^60
def nD (n:Nat):kF n=fS n:=vG n
def EB (n:Nat):∀ c,c∈Lib.decDigits n->c≠95:=by
 intro c hc e;rw [Lib.decDigits_eq] at hc;obtain ⟨t,_,rfl⟩:=Xd.1 hc;unfold Lib.dg at e;have h1:=Xj UInt8.toNat e;have h2:(UInt8.ofNat (48+n / 10^(Lib.nDigits n-1-t) % 10)).toNat=48+n / 10^(Lib.nDigits n-1-t) % 10:=by
  rw [UInt8.toNat_ofNat'];omega
 rw [h2] at h1;have h3:(95:UInt8).toNat=95:=rfl;omega
theorem QX:∀ {a b:List UInt8} {s t:List UInt8},(∀ c,c∈a->c≠95)->(∀ c,c∈b->c≠95)->a++95::s=b++95::t->a=b/\s=t
 | [],[],s,t,_,_,h=>by simpa using h
 | [],c::b,s,t,_,hb,h=>by
  simp only [List.nil_append,List.cons_append,List.cons.injEq] at h;exact absurd h.1.symm (hb c aj)
 | c::a,[],s,t,ha,_,h=>by
  simp only [List.nil_append,List.cons_append,List.cons.injEq] at h;exact absurd h.1 (ha c aj)
 | c::a,d::b,s,t,ha,hb,h=>by
  simp only [List.cons_append,List.cons.injEq] at h;obtain ⟨h1,h2⟩:=QX (fun x hx=>ha x (Xh _ hx)) (fun x hx=>hb x (Xh _ hx)) h.2;exact ⟨by rw [h.1,h1],h2⟩
def CN (L:List Lb) (o:Nat) (s:ZA):S8 L o s=mP (L.map zN) (o,s):=by
 unfold S8 mP;rw [Y4]
 congr 1
 funext x
 show _=decide (zN x=(o,s));unfold zN;rw [YS]
 simp
def Oh (L:List Lb) (k:Ky):ZA:=xj L k.1 k.2
def Pr {L:List Lb} {k k':Ky} (h:Oh L k=Oh L k'):k=k':=by
 have hne:∀ a b:ZA,(⟨#[76]⟩:ZA)++a≠(⟨#[69]⟩:ZA)++b:=by
  intro a b e;have h1:=Xj (fun b:ZA=>b.data.toList) e;simp only [eu] at h1;simp at h1
 have has:∀ a b c:ZA,((⟨#[69]⟩++a)++⟨#[95]⟩)++b=(⟨#[69]⟩:ZA)++(a++(⟨#[95]⟩++b)):=by
  intro a b c;simp only [ByteArray.append_assoc]
 obtain ⟨o,s⟩:=k;obtain ⟨o',s'⟩:=k';unfold Oh xj at h;rw [CN,CN] at h;cases h1:mP (L.map zN) (o,s) with
 | some i =>
  cases h2:mP (L.map zN) (o',s') with
  | some j =>
   rw [h1,h2] at h;have h:(⟨#[76]⟩:ZA)++fS i=⟨#[76]⟩++fS j:=h;rw [<- nD,<- nD] at h
   have:=rQ (vh h)
   subst this;obtain ⟨a,ha⟩:=jn h1;obtain ⟨b,hb⟩:=jn h2;rw [<- ha,<- hb]
  | none =>
   rw [h1,h2] at h;have h:(⟨#[76]⟩:ZA)++fS i=((⟨#[69]⟩++fS o')++⟨#[95]⟩)++s':=h;rw [has _ _ ⟨#[]⟩] at h;exact absurd h (hne _ _)
 | none =>
  cases h2:mP (L.map zN) (o',s') with
  | some j =>
   rw [h1,h2] at h;have h:((⟨#[69]⟩++fS o)++⟨#[95]⟩)++s=(⟨#[76]⟩:ZA)++fS j:=h;rw [has _ _ ⟨#[]⟩] at h;exact absurd h.symm (hne _ _)
  | none =>
   rw [h1,h2] at h;have h:((⟨#[69]⟩++fS o)++⟨#[95]⟩)++s=((⟨#[69]⟩++fS o')++⟨#[95]⟩)++s':=h;rw [has _ _ ⟨#[]⟩,has _ _ ⟨#[]⟩] at h;have h:=vh h;have h3:=Xj (fun b:ZA=>b.data.toList) h;simp only [eu] at h3;have h4:Lib.decDigits o++95::s.data.toList=Lib.decDigits o'++95::s'.data.toList:=by
    have e:∀ n:Nat,(fS n).data.toList=Lib.decDigits n:=fun n=>by unfold fS; simp
    rw [e,e] at h3;simpa using h3
   obtain ⟨h5,h6⟩:=QX (EB o) (EB o') h4;have h7:o=o':=by
    apply rQ;rw [nD,nD];unfold fS;rw [h5]
   subst h7
   congr 1
   cases s; cases s';simp only at h6
   congr 1
   exact Array.ext' h6
structure qD (us:List cd) (w:LW):Prop where
 right:∀ u,u∈us->eS u=0
 wi:WI w (bY 0 us) ((ef 0 us).map jD)
 gl:∀ s,w.gl s=OE us s
def T0 (us:List cd) (k:Ky):Prop:=k∈(bY 0 us).map zN\/k∈(ef 0 us).map jD
def LR {us:List cd} {n:Nat} {u:cd} (hu:us[n]?=some u) {s:ZA} (hs:s∈fv u):T0 us (n,s):=by
 unfold fv at hs;rw [Xl,Xl] at hs;rcases hs with hs | hs
 ·exact .inl ((wU s n us 0).2 ⟨u,Y5 _,by rw [Zk]; exact hu,hs⟩)
 ·exact .inr ((y7 s n us 0).2 ⟨u,Y5 _,by rw [Zk]; exact hu,hs⟩)
def Kv {u:cd} (h:eS u=0):∀ x,x∈u.aY->x∈fv u:=by
 have h1:=(ze h).2;rw [wQ] at h1;unfold wO at h1;simp only [Bool.and_eq_true,decide_eq_true_eq] at h1;exact fun x hx=>((xn _ _ _ h1.2.2.2.2).1 x hx).1
def uI {l:List ZA} {s:ZA}:fX l s=true↔s∈l:=by
 unfold fX;rw [Yt];constructor
 ·rintro ⟨x,hx,he⟩;rw [<- W2 he]; exact hx
 ·intro h;exact ⟨s,h,W9 rfl⟩
def Is {us:List cd} (hr:∀ u,u∈us->eS u=0) {n o:Nat} {s:ZA} (h:jl us n s=some o):T0 us (o,s):=by
 unfold jl at h;split at h
 ·rename_i hh;cases h;cases hu:us[n]? with
  | none=>rw [hu] at hh; cases hh
  | some u =>
   rw [hu] at hh;exact LR hu (uI.1 (Xo hh))
 ·rw [Xt] at h;obtain ⟨ho,h1,_⟩:=h;exact LR (W5 ho) (Kv (hr _ (Xe ho)) s (uI.1 h1))
def BX {us:List cd} {n:Nat} {u:cd} (hu:us[n]?=some u) {s:ZA} (hs:s∈fv u):jl us n s=some n:=by
 unfold jl;rw [hu,Zf,Xb (by rw [uI.2 hs])]
def LL {us:List cd} {w:LW} (i0:WI w (bY 0 us) ((ef 0 us).map jD)) {k:Ky} (hk:T0 us k) (hn:k∉(ef 0 us).map jD):w.word k=Oh (bY 0 us) k:=by
 have hk:k∈(bY 0 us).map zN:=hk.elim id fun h=>absurd h hn
 obtain ⟨i,hi⟩:=Aq hk;unfold LW.word Oh xj;rw [CN,i0.num];show (match mP ((bY 0 us).map zN) k with | some n=>(⟨#[76]⟩:ZA)++kF n | none=>_)=match mP ((bY 0 us).map zN) (k.1,k.2) with | some i=>(⟨#[76]⟩:ZA)++fS i | none=>_
 rw [hi];show (⟨#[76]⟩:ZA)++kF i=⟨#[76]⟩++fS i;rw [nD]
def U2 (f:ZA->Nat) (s:ZA):jq f (lj s)=f s % 4294967296:=by
 unfold jq lj;show (0+(1*f s+0)) % 4294967296=_
 congr 1
 omega
def qD.own {us:List cd} {w:LW} (A:qD us w) {n:Nat} (hn:n<us.length) (s:ZA):w.own n s=(jl us n s).map fun o=>(o,s):=K3 A.wi A.gl hn s
def qD.rel {us:List cd} {w:LW} (A:qD us w) {n:Nat} (hn:n<us.length) {x:cm} (hb:w.bad n x=none):yg (T0 us) w.word (Oh (bY 0 us)) (w.lin n x) (ik us (bY 0 us) n x):=by
 intro f g hfg;unfold LW.lin ik;rw [fD,fD];refine ov fun t ht=>?_
 obtain ⟨k,hk⟩:=zB hb t ht;rw [A.own hn] at hk;obtain ⟨o,ho,rfl⟩:=YI.1 hk;have hky:=Is A.right ho;unfold GX tH dy;simp only [A.own hn,ho,Option.map_some,Option.getD_some];rw [U2,U2,hfg _ hky] <;> rfl
def CK {us:List cd} {q:Nat × qY} (hq:q∈ef 0 us):∃ u,us[q.1]?=some u/\q.2∈u.bg:=by
 obtain ⟨i,hi,h1,h2⟩:=uJ us 0 q hq;rw [XK] at h1;exact ⟨us[i],by rw [h1]; exact W5 hi,h2⟩
def qD.two {us:List cd} {w:LW} (A:qD us w) (hb:fJ w 0 us=none):uz (ef 0 us) jD (T0 us) w.word (Oh (bY 0 us)) (fun q=>w.lin q.1 q.2.2) fun q=>ik us (bY 0 us) q.1 q.2.2 where
 nd:=vX us 0 fun u hu=>by
  have:=vW (A.right u hu)
  unfold fv at this;rw [XW] at this;exact this.2.1
 Oc:=fun q hq=>.inr (Xp hq)
 ia:=fun k k' hk hk' h=>word_inj A.wi hk hk' h
 ib:=fun k k' _ _ h=>Pr h
 QJ:=fun k hk hn=>LL A.wi hk hn
 rel:=fun q hq=>by
  obtain ⟨u,hu,_⟩:=CK hq;exact A.rel (Xn.1 hu).1 (C8 hb hq)
 fa:=fun q _=>eM _ _
 fb:=fun q _=>eM _ _
def K6 (w:LW) (us:List cd):uS w us=wD (ef 0 us) jD w.word fun q=>w.lin q.1 q.2.2:=rfl
def Km (us:List cd):dR us (bY 0 us) us=wD (ef 0 us) jD (Oh (bY 0 us)) fun q=>ik us (bY 0 us) q.1 q.2.2:=by
 unfold dR wD;refine XQ fun q hq=>?_
 obtain ⟨u,hu,he⟩:=CK hq
 have:jl us q.1 q.2.1=some q.1:=BX hu (by
  unfold fv;exact XF _ (Xp he))
 unfold dy;rw [this] <;> rfl
def qD.Ua {us:List cd} {w:LW} (A:qD us w) (hb:fJ w 0 us=none):mF (uS w us)=dB (eY (dR us (bY 0 us) us)):=by
 rw [K6,Km];exact (A.two hb).Ua
def qD.put {us:List cd} {w:LW} (A:qD us w) (hb:fJ w 0 us=none) (hc:mF (uS w us)=none) {n:Nat} (hn:n<us.length) {x:cm} (hbx:w.bad n x=none) (hx:x.num<4294967296) {ms:List cI} (hm:ms.map fe=(dR us (bY 0 us) us).map fun y=>(y.1,eO (eY (dR us (bY 0 us) us)) y.1)) :
  uR (ma (uS w us)) (w.lin n x)=db (cr ms) (ik us (bY 0 us) n x):=by
 have h1:cr ms=cr (eY (ma (dR us (bY 0 us) us))):=EQ (by rw [oT,hm]; rfl);rw [h1];show _=uR (ma (dR us (bY 0 us) us)) _;rw [Km];rw [K6] at hc ⊢;exact (A.two hb).same hc (A.rel hn hbx) (lB hx) (lB hx)
end Go.Sx.Lk
