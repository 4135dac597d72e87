/- Contracts over heaps, part 6. Condition: as each statement says. -/
import Derived.Test.YtlpcncdglfjnoaaGreatDoorP5
import Derived.Test.YtlpcncdglfjnoaaGreatDoorRows
import Derived.ProofKit
import Derived.LaidMore
import Derived.LaidLaws
import Derived.OpenShut
import Derived.ChangeSame
import Derived.ChangeStays
import Derived.ChangeOld
import Derived.ChangeSlices
import Derived.ChangeMaps5
import Derived.JoinedCond
import Derived.Lib.LaidTab
import Derived.Stop.Joined
import Derived.Test.YtlpcncdglfjnoaaGreatDoorTie
import Derived.Test.YtlpcncdglfjnoaaGreatDoorCards
import Derived.SevenTiedAt
set_option linter.all false
set_option maxRecDepth 100000
set_option maxHeartbeats 4000000
namespace Go.Sx.Cr
open Go.Proofs
def Tq:Ok cx:=U7 opsV
def LD:opsV.all (gd 9)=true:=aw
variable {H:Hp}
def WE (a:∃ e f,H[0]?=some (.cells opsV.toArray e f)):∀ b c,cx.ro b=some c->b<cx.ng/\∃ cs e f,H[b]?=some (.cells cs e f)/\∀ (i:Nat) (v:Xab),c[i]?=some v->cs[i]?=some v/\gd 9 v=true:=by
 obtain ⟨e,f,a⟩:=a;intro b c d;cases b with
 | succ b=>cases (show none=some c from d)
 | zero =>
  cases (show some opsV=some c from d);refine ⟨show 0<3 from ad,opsV.toArray,e,f,a,fun i v hv=>⟨by rw [bq9]; exact hv,?_⟩⟩;exact Zx.1 LD v (ZU hv)
noncomputable def Ta:Code:=Tryz.f9.body.getD .skip
noncomputable def YI:CS:=⟨sI cx.ng .nil,cx.ng⟩
def PX:Tryz.f9.body=some Ta:=aw
def QG:PQ cx (VD cx 60) Tryz.f9 (.bool true) Ta .nil YI=true:=aw
def Nj (b:∃ e f,H[0]?=some (.cells opsV.toArray e f)):HC Xaz 9 #[] H fun v h'=>v=.bool true/\Ext H h' :=
 OP (C:=cx) Tryz.func9 PX fun c a d g=>Qy Tq mixed (QC Tq mixed 60) rfl QG _ c a H (L7 (WE b)) d g
end Go.Sx.Cr
namespace Go.Sx.Lk
open Go.Proofs Go.Sx.Ob
section
variable {h0 h h':Hp} {us:List bU} {su:cd} {P:LP} {B:Nat} {usl lb:cd} {S:Nat->kZ} {g b':Nat} {lb2 st sd:cd} {tw dw:List (cd × List (cd × cH))}
def GO {L:Lp} {K:Xab->Hp->Prop} (b:Cs h0 h us su P B usl lb S g b' lb2 st sd tw dw) (z:us.length<=64) (v:wh h su.p su.l us) {n j:Nat} (hn:n<us.length) (A:j<2) {t:cd} (C:zV h t.p t.l ((Ad us[n] j).map (P.fN n)))
  {w x:List (Xax × List Xab)} (f:∀ h',Ext h h'->T.BO h' w) (i:∀ h',Ext h h'->T.BO h' x) {k:Bool->T} (hk:∀ h',Ext h h'->k true L K h') :
  T.call Xaz 17 [.pointer (some ⟨B+3,0,none⟩),vI (n:Int),vI (j:Int)] false [(false,[.slice 64])] (fun (m:Xac) (r s:Nat) =>
    T.aD w <|
    T.call Xaz 15 [.slice m r s,.slice t.p t.l t.c] false [(false,[.bool])] <| fun (u:Bool) =>
    T.aD x <| k u) L K h:=by
 refine aJ (b.one.out ad v hn A) ?_;rintro _ h1 ⟨a,e,ws,rfl,o,F,D⟩;refine ⟨((e.p,e.l,e.c),()),rfl,ak ?_⟩;refine ⟨f h1 a,?_⟩;refine aJ (qG (c:=e.c) (d:=t.c) D (C.ai a)) ?_;rintro _ h2 ⟨q,rfl,E,y⟩;refine ⟨(q,()),rfl,ak ?_⟩;obtain rfl:q=true:=E.2 rfl;exact ⟨i h2 (a.trans y),hk h2 (a.trans y)⟩
end
variable {H:Hp}
def FV {h0:Hp} (a:∃ e f,h0[0]?=some (.cells Cr.opsV.toArray e f)) (e0:Ext h0 H):HC Xaz 9 #[] H fun v h'=>v=.bool true/\Ext h0 h':=by
 refine HC.mono (Cr.Nj ?_) fun v h' b=>⟨b.1,e0.trans b.2⟩
 obtain ⟨e,f,c⟩:=a;exact ⟨e,f,e0.get c aj⟩
def YG (h:Hp) (u:bU) (a:List Xab):Prop:=∃ sa sb sc sd:cd,a=[sa.v,sb.v,sc.v,sd.v]/\jU h sa sb sc sd u
variable {I V:Nat} {O:Xac}
def VH {e:TypeId} {c:Nat} {d:List (List Xab)} {us:List bU} (s:SL H I e 4 O V c d) (hl:d.length=us.length) (f:us.length<=2^60) (g:∀ i,(hi:i<us.length)->(j:i<d.length)->YG H us[i] d[i]):wh H O V us :=
 ⟨by have:=s.1; omega,f,fun i hi=>by
  obtain ⟨a,k,hc⟩:=SL.cells s (i:=i) ad;obtain ⟨sa,sb,sc,sd,e,m⟩:=g i hi ad;rw [e] at hc;exact ⟨a,sa,sb,sc,sd,k,hc,m⟩⟩
def UH:Tryz.prog.underlying 22=some (.slice 30):=aw
def W1:(Tryz.prog.info? 30).map (fun i=>(i.zero,i.size,i.bytes))=some (some (.agg #[.slice none 0 0,.slice none 0 0,.slice none 0 0,.slice none 0 0]),4,96):=aw
open Cr in
open Cr in
open Cr in
open Cr in
def UW (a b c d:cd):Instr.fill (fun j=>some (j*4,4)) ((Array.range (1*4)).map ((Value.agg #[.slice none 0 0,.slice none 0 0,.slice none 0 0,.slice none 0 0]).cells[· % (Value.agg #[.slice none 0 0,.slice none 0 0,.slice none 0 0,.slice none 0 0]).cells.size]!)) [(0,.agg #[.slice a.p a.l a.c,.slice b.p b.l b.c,.slice c.p c.l c.c,.slice d.p d.l d.c])]=some ([a.v,b.v,c.v,d.v]:List Xab).toArray:=aw
structure Cp where
 a:cd
 b:cd
 c:cd
 d:cd
 lo:Nat
 hi:Nat
def Cp.row (x:Cp):List Xab:=[x.a.v,x.b.v,x.c.v,x.d.v]
def Iw (lo hi:Nat) (h h':Hp):Prop:=∀ j,lo<=j->j<hi->h'[j]?=h[j]?
structure Cl (h:Hp) (x:Cp) (u:bU):Prop where
 le:x.lo<=x.hi
 lt:x.hi<=h.size
 old:∃ hA:Hp,hA.size=x.hi/\Iw x.lo x.hi hA h/\HU hA x.lo x.a x.b x.c x.d u/\∀ h'':Hp,x.hi<=h''.size->Iw x.lo x.hi hA h''->jU h'' x.a x.b x.c x.d u
 ap:HA x.a x.b
variable {U:Cp}
def Cl.at {u:bU} (s:Cl H U u):jU H U.a U.b U.c U.d u:=by
 obtain ⟨hA,h1,h2,f,e⟩:=s.old;exact e H s.lt h2
def Cl.ai {ws:List Nat} {h':Hp} {u:bU} (s:Cl H U u) (k:Ch ws H h') (b:∀ i,i∈ws->i<U.lo\/U.hi<=i):Cl h' U u:=by
 obtain ⟨hA,h1,h2,c,d⟩:=s.old;exact ⟨s.le,ZK s.lt k.size,⟨hA,h1,fun j e a=>(k.same j (aw9 a s.lt) fun f=>by have:=b j f; omega).trans (h2 j e a),c,d⟩,s.ap⟩
variable {Y Z a b:cd}
def HU.up {hA hq:Hp} {lo:Nat} {u:bU} (o:HU hA lo Y Z a b u) (w:hA.size=hq.size) (e:Iw lo hA.size hA hq):HU hq lo Y Z a b u:=by
 have k:Ch (List.range lo) hA hq:=⟨ad,fun i hi hn=>e i (by rw [ap9] at hn; omega) hi⟩
 have f:∀ i,i∈List.range lo->i<hA.size->i<lo:=fun i hi _=>ap9.1 hi
 obtain ⟨⟨g,h,c1,j⟩,⟨l,m,n,p⟩,⟨u3,q,c3,r⟩,s,t⟩:=o;exact ⟨⟨g,h,c1,j.ai k f⟩,⟨l,m,n,p.ai k f⟩,⟨u3,q,c3,r.ai k f⟩,SL.tJ s k f,t⟩
def Cl.Wv {h:Hp} {u:bU} (s:Cl h U u):HC Xaz 25 #[qp U.a U.b U.c U.d] h (Ja U.lo U.hi h):=by
 obtain ⟨hA,h1,h2,g,m⟩:=s.old;have hl:=s.lt;have k:(h.extract 0 U.hi).size=U.hi:=by simp; omega
 have f:∀ i,i<U.hi->(h.extract 0 U.hi)[i]?=h[i]?:=fun i hi=>by
  rw [Array.getElem?_extract]
  simp
  omega
 have o:HU (h.extract 0 U.hi) U.lo U.a U.b U.c U.d u:=HU.up g ad fun j l n=>(f j ad).trans (h2 j l ad)
 have e:Ext (h.extract 0 U.hi) h:=⟨ad,fun i hi _=>(f i ad).symm⟩
 have:=K2 o s.ap e (by have:=s.le; omega)
 rwa [k] at this
def Xo {h':Hp} {w:Xab} {u:bU} (r:DT u H w h') (v:jU H Y Z a b u) (z:u.text.length<=2^20) (A:u.data.length<=2^20) (B:u.bf.length<=2^20) (p:u.aQ.length<=2^40) :
  ∃ x:Cp,w=qp x.a x.b x.c x.d/\x.lo=H.size/\x.hi=h'.size/\Cl h' x u:=by
 obtain ⟨⟨a',b',c',q,s,wD,t,rfl,m,lD,n,o,g,j,l,ap⟩,e⟩:=r;have hsz:=e.size;refine ⟨⟨a',b',c',q,H.size,h'.size⟩,rfl,rfl,rfl,hsz,Zc _,⟨h',rfl,fun _ _ _=>rfl,⟨⟨s,g,?_,m⟩,⟨wD,j,?_,lD⟩,⟨t,l,?_,n⟩,o,p⟩,?_⟩,ap⟩
 ·have:=Zg List.length g; rw [YY] at this; omega
 ·have:=Zg List.length j; rw [YY] at this; omega
 ·have:=Zg List.length l; rw [YY] at this; omega
 ·intro h'' hl y;have k:Ch (List.range H.size) h' h'':=⟨hl,fun i hi hn=>y i (by rw [ap9] at hn; show H.size<=i; omega) hi⟩
  have f:∀ i,i∈List.range H.size->i<h'.size->i<H.size:=fun i hi _=>ap9.1 hi
  exact ⟨Ak.at (m.ai k f) g v.text,Ak.at (lD.ai k f) j v.data,Tw.at (n.ai k f) l v.bf,SN.at (SL.tJ o k f) v.aQ⟩
structure WL (h0 h:Hp) (us:List bU) (n:Nat) (cs:List Cp) (p:Xac) (l c:Nat):Prop where
 ext:Ext h0 h
 len:cs.length=n
 sl:SL h h0.size 30 4 p l c (cs.map Cp.row)
 ok:∀ i,(hi:i<us.length)->(hc:i<cs.length)->Cl h cs[i] us[i]
 sep:cs.Pairwise fun x y=>x.hi<=y.lo
 low:∀ x,x∈cs->h0.size<=x.lo
 arr:∀ i,i∈aF p->∀ x,x∈cs->i<x.lo\/x.hi<=i
def WL.vw {h0:Hp} {us:List bU} {cs:List Cp} (s:WL h0 H us us.length cs O I V) (b:us.length<=2^60):wh H O I us :=
 VH s.sl (by rw [YY]; exact s.len) b fun i hi a=>by
  rw [Y7];rw [YY] at a;exact ⟨_,_,_,_,rfl,(s.ok i hi a).at⟩
def Jx (b:Xac) (a:Nat) (k:Xac->Nat->Nat->T):T :=
 T.loop [dp,aK] [aS,vI (0:Int)] <| fun (G:Xac) (H I:Nat) (c:Int) =>
 bn c a
  (T.need (dF c a) <|
  T.aR b <| fun (J:Xax) =>
  T.af (J.add (ay c 4)) [.slice 64,.slice 64,.slice 88,.slice 9] <| fun (K:Xac) (L M:Nat) (d:Xac) (e f:Nat) (g:Xac) (h i:Nat) (j:Xac) (l m:Nat) =>
  bz 23 [.agg #[.slice K L M,.slice d e f,.slice g h i,.slice j l m]] false [(true,[.slice 64,.slice 64,.slice 88,.slice 9])] <| fun (n:Xac) (o p:Nat) (q:Xac) (r s:Nat) (t:Xac) (u w:Nat) (x:Xac) (y z:Nat) =>
  bX (Instr.buildSlice 22 1 #[(0,.agg #[.slice n o p,.slice q r s,.slice t u w,.slice x y z])]) false [dp] <| fun (A:Xac) (B C:Nat) =>
  bX (Builtin.append_ #[22,22] 22 #[.slice G H I,.slice A B C]) false [dp] <| fun (D:Xac) (E F:Nat) =>
  T.again 0 [.slice D E F,vI (bC (c+(1:Int)))])
  (k G H I)
theorem JN {x:Nat}:∀ {l:List Nat},x∈l->x<=l.sum
 | [],h=>by simp at h
 | y::l,h=>by
  rw [ZX];rcases Zo.1 h with rfl | h
  ·omega
  ·have:=JN h
   omega
variable {c:cH}
def Fj {u:bU} (h:c∈u.text):c.e∈cO u:=Zq _ (Zq _ (Zm (f:=(·.e)) h))
def Fq {u:bU} (h:c∈u.data):c.e∈cO u:=Zq _ (Zv _ (Zm (f:=(·.e)) h))
def OO {u:bU} {x:oh} (h:x∈u.bf):x.2∈cO u:=Zv _ (Zm (f:=(·.2)) h)
def Ri {us:List bU} (sm:IJ us) {u:bU} (a:u∈us):u.text.length<=2^20/\u.data.length<=2^20/\u.bf.length<=2^20/\u.aQ.length<=2^40:=by
 have h:=sm.items
 have:u.text.length+u.data.length+u.bf.length+u.aQ.length<=uu us:=by
  unfold uu;exact JN (Zm (f:=fun u:bU=>u.text.length+u.data.length+u.bf.length+u.aQ.length) a)
 omega
variable {d:Xab->Hp->Prop}
def Mi {h0:Hp} {su:cd} {us:List bU} (v:wh h0 su.p su.l us) (sm:IJ us) {k:Xac->Nat->Nat->T} (hk:∀ J h' cs p c,WL h0 h' us us.length cs p us.length c->k p us.length c [J] d h') :
  Jx su.p su.l k [] d h0:=by
 unfold Jx bn ay bz bX bC dF aS aK dp;have hul:=v.len;have hmany:=sm.many;refine aU (cs:=uC) (fun y m h'=>∃ (n:Nat) (cs:List Cp),y.2.1=(n:Int)/\m=us.length-n/\n<=us.length/\WL h0 h' us n cs y.1.1 y.1.2.1 y.1.2.2) ((none,0,0),(0:Int),()) us.length rfl
  ⟨0,[],rfl,rfl,ad,Ch.refl _ _,rfl,SL.nil _ _ _ _,fun i _ hc=>absurd hc aj,List.Pairwise.nil,aj,aj⟩ ?_
 rintro ⟨⟨F,l3,G⟩,Q,⟨⟩⟩ m h1 ⟨n,cs,hi,rfl,H,s⟩;simp only at hi s;subst hi;refine ak ?_;have t:l3=n:=by have:=s.sl.1; rw [YY,s.len] at this; exact this
 subst t;have hw:=iC l3;refine aP ?_ ?_<;>intro q
 ·have hn:l3<us.length:=ad
  obtain ⟨a,sa,sb,sc,sd,I,hc,L⟩:=v.cells l3 hn;have hmem:=Y5 hn;have sz:=Ri sm hmem;have htm:=fun x (h:x∈cO us[l3])=>sm.len hmem h
  refine bP I ?_;rw [cB l3];refine av ((sa.p,sa.l,sa.c),(sb.p,sb.l,sb.c),(sc.p,sc.l,sc.c),(sd.p,sd.l,sd.c),()) (aX s.ext aj _ _ hc) (ak ?_);have hu1:=L.ai s.ext;refine aJ (EQ hu1 sz.1 sz.2.1 sz.2.2.1 sz.2.2.2 (fun x h=>?_) (fun x h=>?_) (fun x h=>?_)) ?_
  ·have:=htm x.e (Fj h); omega
  ·have:=htm x.e (Fq h); omega
  ·have:=htm x.2 (OO h); omega
  intro w h2 r;have e2:=r.2;obtain ⟨x,rfl,u,M,ok⟩:=Xo r hu1 sz.1 sz.2.1 sz.2.2.1 sz.2.2.2;refine ⟨((x.a.p,x.a.l,x.a.c),(x.b.p,x.b.l,x.b.c),(x.c.p,x.c.l,x.c.c),(x.d.p,x.d.l,x.d.c),()),rfl,ak ?_⟩;have z1:=s.ext.size;have z2:=e2.size;have bl:=fun i hi=>SL.cj s.sl (i:=i) hi
  refine kg (b:=h0.size) (vs:=x.row) UH W1 rfl ad ad (UW x.a x.b x.c x.d) rfl rfl (s.sl.br e2 aj) ad ad ad ?_;intro E c3 S N A B;have g:∀ y,y∈cs->y.hi<=h1.size:=by
   intro y f;obtain ⟨i,hi,rfl⟩:=Zt f;exact (s.ok i (by have:=s.len; omega) hi).lt
  have hlen:=s.len;refine aG (cs:=uC) ((E,l3+1,c3),((l3+1:Nat):Int),()) (us.length-(l3+1)) rfl ad (Zg (fun z=>[Value.slice E (l3+1) c3,Value.int .i64 z]) hw) ⟨l3+1,cs++[x],rfl,rfl,ad,?_,?_,?_,?_,?_,?_,?_⟩
  ·exact Ch.trans (s.ext.trans e2) A fun i hi hl=>by have:=bl i hi; omega
  ·rw [Y0,hlen]; rfl
  ·rw [Za]; exact N
  ·intro i hi hc
   by_cases o:i<cs.length
   ·rw [al9 o];exact ((s.ok i hi o).ai e2 aj).ai A fun j C=>s.arr j C _ (Y5 o)
   ·rw [Y0,List.length_singleton] at hc;have D:i=l3:=ad
    subst D;rw [bs9 ad];simp only [hlen,Nat.sub_self,List.getElem_cons_zero];exact ok.ai A fun j C=>by have:=bl j C; omega
  ·refine List.pairwise_append.2 ⟨s.sep,List.pairwise_singleton _ _,fun y f z O=>?_⟩;rw [Zh.1 O,u];exact g y f
  ·intro y f;rcases Zb.1 f with f | f
   ·exact s.low y f
   ·rw [Zh.1 f]; omega
  ·intro i hi y f;rcases B with rfl | ⟨a',rfl,P⟩
   ·rcases Zb.1 f with f | f
    ·exact s.arr i hi y f
    ·rw [Zh.1 f]; have:=bl i hi; omega
   ·simp only [aF,List.mem_singleton] at hi;subst hi;rcases Zb.1 f with f | f
    ·have:=g y f; omega
    ·rw [Zh.1 f]; omega
 ·have hn:l3=us.length:=ad
  subst hn;exact hk _ h1 cs F G s
def Jj (c:Xac) (b:Nat) (V:Xac) (W:Nat) (k:Bool->T):T :=
  T.loop [cr,aK] [.bool false,vI (0:Int)] <| fun (d:Bool) (a:Int) =>
  bn a b
  (T.need (dF a W) <|
  T.aR V <| fun (e:Xax) =>
  T.af (e.add (ay a 4)) [.slice 64,.slice 64,.slice 88,.slice 9] <| fun (f:Xac) (g h:Nat) (i:Xac) (j l:Nat) (m:Xac) (n o:Nat) (p:Xac) (q r:Nat) =>
  T.need (dF a b) <|
  T.aR c <| fun (s:Xax) =>
  T.af (s.add (ay a 4)) [.slice 64,.slice 64,.slice 88,.slice 9] <| fun (t:Xac) (u w:Nat) (x:Xac) (y z:Nat) (A:Xac) (B C:Nat) (D:Xac) (E F:Nat) =>
  bz 24 [.agg #[.slice f g h,.slice i j l,.slice m n o,.slice p q r],.agg #[.slice t u w,.slice x y z,.slice A B C,.slice D E F]] false [cr] <| fun (G:Bool) =>
  cond (!G)
   bH
   (T.need (dF a W) <|
   T.aR V <| fun (H:Xax) =>
   T.af (H.add (ay a 4)) [.slice 64,.slice 64,.slice 88,.slice 9] <| fun (I:Xac) (J K:Nat) (L:Xac) (M N:Nat) (O:Xac) (P Q:Nat) (R:Xac) (S U:Nat) =>
   bz 25 [.agg #[.slice I J K,.slice L M N,.slice O P Q,.slice R S U]] true [] <| T.again 1 [.bool d,.int .i64 (bC (a+(1:Int)))]))
  (k d)
def DC {E:List Xab->Hp->Prop} {h0 h5:Hp} {su:cd} {us:List bU} (v:wh h0 su.p su.l us) (u:us.length<=2^20) {cs:List Cp} (s:WL h0 H us us.length cs O us.length I) (f:Ext H h5) {k:Bool->T}
  (hk:∀ b J h',yu h0.size H.size h5 h'->Ext h0 h'->k b [E,J] d h'):Jj su.p su.l O us.length k [E] d h5:=by
 unfold Jj bn ay bz bC dF bH aK cr;have hul:=v.len;have hlen:=s.len;have bl:=fun i hi=>SL.cj s.sl (i:=i) hi
 have z0:=s.ext.size;have z3:=f.size;have e05:=s.ext.trans f;refine aU (cs:=ic) (fun y m h'=>∃ n:Nat,y.2.1=(n:Int)/\m=us.length-n/\n<=us.length/\yu h0.size H.size h5 h'/\SL h' h0.size 30 4 O us.length I (cs.map Cp.row)/\∀ i,n<=i->(hi:i<us.length)->(hc:i<cs.length)->Cl h' cs[i] us[i]) (false,(0:Int),()) us.length rfl
  ⟨0,rfl,rfl,ad,yu.refl _ _ _,s.sl.br f aj,fun i _ hi hc=>(s.ok i hi hc).ai f aj⟩ ?_
 rintro ⟨h,G,⟨⟩⟩ m h6 ⟨n,hi,rfl,L,w,sl,ok⟩;simp only at hi;subst hi;refine ak ?_;have o:Ext h0 h6:=Ch.trans e05 w.ch fun i hi hl=>by rw [bk9] at hi; omega
 have hw:=iC n;refine ao (fun q=>?_) (fun q=>hk h _ h6 w o);have q:=Y3 q;have hn:n<us.length:=ad
 have e:n<cs.length:=ad
 obtain ⟨a,F,hc⟩:=SL.cells sl (i:=n) (by rw [YY]; exact e);rw [Y7] at hc;obtain ⟨R,sa,sb,sc,sd,A,B,M⟩:=v.cells n hn;have okn:=ok n (Zc _) hn e;have hlow:=s.low _ (Y5 e);have hhi:=(s.ok n hn e).lt;have harr:=fun i hi=>s.arr i hi _ (Y5 e)
 have g:∀ i,n<i->(hc:i<cs.length)->cs[n].hi<=cs[i].lo:=fun i hi hc=>ag9.1 s.sep n i e hc hi
 generalize cs[n]=x at hc okn hlow hhi harr g;refine bP F ?_;rw [cB n];refine av ((x.a.p,x.a.l,x.a.c),(x.b.p,x.b.l,x.b.c),(x.c.p,x.c.l,x.c.c),(x.d.p,x.d.l,x.d.c),()) hc (ak ?_);refine bP A ?_;refine av ((sa.p,sa.l,sa.c),(sb.p,sb.l,sb.c),(sc.p,sc.l,sc.c),(sd.p,sd.l,sd.c),()) (aX o aj _ _ B) (ak ?_);refine aJ (FM okn.at (M.ai o)) ?_;rintro _ S ⟨bb,rfl,N,r⟩;obtain rfl:=N.2 rfl;refine ⟨(true,()),rfl,ak ?_⟩;refine cC rfl ?_;refine bP F ?_;refine av ((x.a.p,x.a.l,x.a.c),(x.b.p,x.b.l,x.b.c),(x.c.p,x.c.l,x.c.c),(x.d.p,x.d.l,x.d.c),()) (aX r aj _ _ hc) (ak ?_);refine aJ (okn.ai r aj).Wv ?_;rintro _ U ⟨rfl,C⟩;refine ⟨(),rfl,ak ?_⟩;refine aG (cs:=ic) (h,((n+1:Nat):Int),()) (us.length-(n+1)) rfl ad (Zg (fun z=>[Value.bool h,Value.int .i64 z]) hw) ⟨n+1,rfl,rfl,ad,?_,?_,?_⟩
 ·exact (w.step r aj).step C.ch fun i hi hl=>by rw [bk9] at hi; omega
 ·refine (sl.br r aj).br C.ch fun i hi P=>?_
  rw [bk9] at P
  have:=harr i hi
  omega
 ·intro i hi D t;refine ((ok i ad D t).ai r aj).ai C.ch fun j Q=>?_
  rw [bk9] at Q
  have:=g i ad t
  omega
end Go.Sx.Lk
namespace Go.Sx.BL
open Go.Proofs Go.Sx.Ob Go.Sx.Lk
variable {h':Hp}
variable {H I U:Nat} {O:Xac}
def zx {h:Hp} {b':Nat} {p0:Xac} {l0 c0 c1:Nat} {ts:List Lb} (a:ts.length<=2^48) (s0:SL h H 76 4 p0 l0 c0 (ts.map nS)) (c:SL h b' 76 4 O I c1 (ts.map nS)) :
  xL Xaz 31 [.slice p0 l0 c0,.slice O I c1] h (.bool true):=by
 have:=Mc s0 c ad
 rwa [Y4 rfl] at this
structure pK where
 p:Xac
 l:Nat
 c:Nat
 q:Xac
 d:Nat
 ts:List Lb
def pK.one (e:pK):List Xab:=[.slice e.p e.l e.c]
def pK.two (e:pK):List Xab:=[.slice e.q e.l e.d]
def pK.vz (e:pK):List Nat:=aF e.p++aF e.q
structure oU (h:Hp) (gb b:Nat) (pl:Xac) (cl:Nat) (pw:Xac) (cw:Nat) (es:List pK):Prop where
 box:∃ held:Int,bF h gb 73 [.slice pl es.length cl,.slice pw es.length cw,vI held,.bool false]
 ge:b<=gb
 one:SL h b 43 1 pl es.length cl (es.map pK.one)
 two:SL h b 43 1 pw es.length cw (es.map pK.two)
 GK:∀ e,e∈es->SL h b 76 4 e.p e.l e.c (e.ts.map Ob.nS)/\SL h b 76 4 e.q e.l e.d (e.ts.map Ob.nS)/\e.ts.length<=2^40
 Nt:gb∉aF pl
 Rr:gb∉aF pw
 VL:∀ i,i∈aF pl->i∉aF pw
 eg:∀ e,e∈es->∀ i,i∈e.vz->i≠gb/\i∉aF pl/\i∉aF pw
 pq:∀ e,e∈es->∀ i,i∈aF e.p->i∉aF e.q
 ee:es.Pairwise fun e f=>∀ i,i∈e.vz->i∉f.vz
def oU.lt {h:Hp} {gb b:Nat} {pl:Xac} {cl:Nat} {pw:Xac} {cw:Nat} {es:List pK} (B:oU h gb b pl cl pw cw es):gb<h.size/\(∀ i,i∈aF pl->i<h.size)/\(∀ i,i∈aF pw->i<h.size)/\∀ e,e∈es->∀ i,i∈e.vz->i<h.size:=by
 obtain ⟨held,c⟩:=B.box;refine ⟨c.lt,fun i hi=>(B.one.cj hi).2,fun i hi=>(B.two.cj hi).2,fun e a i hi=>?_⟩;rcases Zb.1 hi with hi | hi
 ·exact ((B.GK e a).1.cj hi).2
 ·exact ((B.GK e a).2.1.cj hi).2
def oU.ai {ws:List Nat} {h:Hp} {gb b:Nat} {pl:Xac} {cl:Nat} {pw:Xac} {cw:Nat} {es:List pK} (B:oU h gb b pl cl pw cw es) (k:Ch ws h h')
  (h1:gb∉ws) (h2:∀ i,i∈aF pl->i∉ws) (d:∀ i,i∈aF pw->i∉ws) (c:∀ e,e∈es->∀ i,i∈e.vz->i∉ws):oU h' gb b pl cl pw cw es:=by
 obtain ⟨held,f⟩:=B.box;exact ⟨⟨held,f.ai k h1⟩,B.ge,B.one.br k h2,B.two.br k d,fun e a=>⟨(B.GK e a).1.br k fun i hi=>c e a i (Zq _ hi),(B.GK e a).2.1.br k fun i hi=>c e a i (Zv _ hi),(B.GK e a).2.2⟩,
  B.Nt,B.Rr,B.VL,B.eg,B.pq,B.ee⟩
def oU.Jy {h:Hp} {gb:Nat} {pl : Xac} {cl : Nat} {pw : Xac} {cw : Nat} {es : List pK} (B : oU h gb H pl cl pw cw es) (k : Ch [gb] h h') {held : Int}
    (c : bF h' gb 73 [.slice pl es.length cl, .slice pw es.length cw, vI held, .bool false]) : oU h' gb H pl cl pw cw es :=
  ⟨⟨held, c⟩, B.ge, B.one.br k fun i hi => by simp; exact fun e => B.Nt (e ▸ hi), B.two.br k fun i hi => by simp; exact fun e => B.Rr (e ▸ hi),
    fun e a => ⟨(B.GK e a).1.br k fun i hi => by simp; exact (B.eg e a i (Zq _ hi)).1, (B.GK e a).2.1.br k fun i hi => by simp; exact (B.eg e a i (Zv _ hi)).1, (B.GK e a).2.2⟩,
    B.Nt, B.Rr, B.VL, B.eg, B.pq, B.ee⟩
def eW (p:Xac) (k:Nat):aF (p.map fun a=>a.add k)=aF p:=by
 cases p with
 | none=>rfl
 | some a=>simp [aF,fv]
def oU.tail {h:Hp} {gb:Nat} {pl:Xac} {cl:Nat} {pw:Xac} {cw:Nat} {es:List pK} (B:oU h gb H pl cl pw cw es) (k:Ch [gb] h h') (h1:1<=es.length) {held:Int}
  (f:bF h' gb 73 [.slice (pl.map fun a=>a.add 1) (es.length-1) (cl-1),.slice (pw.map fun a=>a.add 1) (es.length-1) (cw-1),vI held,.bool false]) :
  oU h' gb H (pl.map fun a=>a.add 1) (cl-1) (pw.map fun a=>a.add 1) (cw-1) (es.drop 1):=by
 have hl:(es.drop 1).length=es.length-1:=by rw [ZI]
 have d:∀ e,e∈es.drop 1->e∈es:=fun e c=>cl9 c
 have o1:=(B.one.drop (k:=1) h1).br k (fun i hi=>by rw [eW] at hi; simp; exact fun e=>B.Nt (e▸hi));have o2:=(B.two.drop (k:=1) h1).br k (fun i hi=>by rw [eW] at hi; simp; exact fun e=>B.Rr (e▸hi));rw [<- List.map_drop] at o1 o2;refine ⟨⟨held,by rw [hl]; exact f⟩,B.ge,by rw [hl]; exact o1,by rw [hl]; exact o2,
  fun e c=>⟨(B.GK e (d e c)).1.br k fun i hi=>by simp; exact (B.eg e (d e c) i (Zq _ hi)).1,(B.GK e (d e c)).2.1.br k fun i hi=>by simp; exact (B.eg e (d e c) i (Zv _ hi)).1,(B.GK e (d e c)).2.2⟩,
  by rw [eW]; exact B.Nt,by rw [eW]; exact B.Rr,by rw [eW,eW]; exact B.VL,?_,fun e c=>B.pq e (d e c),B.ee.sublist (List.drop_sublist 1 es)⟩
 intro e c i hi;rw [eW,eW];exact B.eg e (d e c) i hi
def vp (h:Hp) (gb b:Nat) (pl pw:Xac) (es:List pK) (p:Xac) (h':Hp) (a:List pK):Prop :=
 ∃ pl' d c g,oU h' gb b pl' d c g a/\Ch (gb::(aF pl++aF pw)) h h'/\(∀ i,i∈aF pl'->i∈aF pl\/h.size<=i)/\(∀ i,i∈aF c->i∈aF pw\/h.size<=i) /\
  ∀ e,e∈a->∀ i,i∈e.vz->i∈aF p\/h.size<=i\/∃ f,f∈es/\i∈f.vz
def K5 {h h1 h2:Hp} {gb:Nat} {l:List Nat} (a:Ch (gb::l) h h1) (c:Ch [gb] h1 h2):Ch (gb::l) h h2:=a.trans c (fun i hi _=>by simp at hi; simp [hi])
def Ks {h:Hp} {gb:Nat} {pl:Xac} {cl:Nat} {pw:Xac} {cw:Nat} {es:List pK} (B:oU h gb H pl cl pw cw es) (hlen:es.length<=4000) {ts:List Lb}
  (s:SL h H 76 4 O I U (ts.map Ob.nS)) (hts:ts.length<=2^40) (k:∀ i,i∈aF O->i≠gb/\i∉aF pl/\i∉aF pw/\∀ e,e∈es->i∉e.vz) (hbs:H<=h.size) :
  HC Xaz 27 #[.pointer (some ⟨gb,0,none⟩),.slice O I U] h fun v h'=>v=.tuple #[]/\∃ es',es'.length<=4000/\vp h gb H pl pw es O h' es':=by
 refine bi (args:=[.pointer (some ⟨gb,0,none⟩),.slice O I U]) mixed Tryz.func27 aw (gi (some ⟨gb,0,none⟩) O I U) ?_;unfold ej bd aT bC iW bK aS;have hll:I=ts.length:=by rw [s.1,YY]
 have hsz:=B.lt;obtain ⟨F,A⟩:=B.box;refine fJ (cs:=[]) (fun _ h2=>∃ N c1 h1,SL h1 H 43 1 N (es.length+1) c1 (es.map pK.one++[[.slice O I U]])/\Ch (aF pl) h h1/\(N=pl\/∃ a,N=some a/\h.size<=a.block)/\Ch [gb] h1 h2 /\
  bF h2 gb 73 [.slice N (es.length+1) c1,.slice pw es.length cw,vI F,.bool false]) ?_ ?_
 ·refine aH rfl (bm A ((pl,es.length,cl),()) rfl (ak ?_));refine kg (e:=43) (z:=.slice none 0 0) (sz:=1) (by':=24) (vs:=[.slice O I U]) aw aw rfl ad ad aw rfl rfl B.one hbs ad ad ?_;intro N c1 h1 o1 k1 R;have hb1:=A.ai k1 B.Nt;refine aH rfl (ct hb1 rfl aj ?_);intro h2 G P z2;exact dE (cs:=[]) () rfl rfl ⟨N,c1,h1,o1,k1,R,P,G⟩
 rintro ⟨⟩ h2 ⟨N,c1,h1,o1,k1,R,P,G⟩;refine fJ (cs:=[]) (fun _ h'=>∃ es',es'.length<=4001/\vp h gb H pl pw es O h' es') ?_ ?_
 ·refine aH rfl ?_;rw [aC];refine az G ((pw,es.length,cw),()) (ak ?_);have s2:SL h2 H 76 4 O I U (ts.map Ob.nS):=(s.br k1 fun i hi=>(k i hi).2.1).br P fun i hi=>by simp; exact (k i hi).1
  have hpl:(ts.map Ob.nS).flatten.all da=true:=by
   rw [Zx];intro v hv;obtain ⟨x,hx,hv⟩:=bn9.1 hv;obtain ⟨t,_,rfl⟩:=Y9.1 hx;simp only [Ob.nS,List.mem_cons,List.not_mem_nil,or_false] at hv;rcases hv with rfl | rfl | rfl | rfl <;> rfl
  have g1:=k1.size;have g2:=P.size;refine SR (e:=76) (z:=.agg #[vI 0,vI 0,vI 0,.string ⟨#[]⟩]) (sz:=4) (by':=40) (b':=H) aw aw rfl s2 hpl ad ad ad ?_;intro q d h3 sq k3 hq;have hb3:=G.ai k3 aj;refine ⟨⟨hb3.cells _ rfl,trivial⟩,?_⟩;have g3:=k3.size;have w3:SL h3 H 43 1 pw es.length cw (es.map pK.two):=((B.two.br k1 fun i hi g=>B.VL i g hi).br P fun i hi=>by simp; exact fun e=>B.Rr (e▸hi)).br k3 aj;refine gn (e:=43) (z:=.slice none 0 0) (sz:=1) (by':=24) (vs:=[.slice q I d]) aw aw rfl ad ad aw rfl rfl w3 ad ad ad (fun h' e=>⟨(hb3.ai e aj).cells _ rfl,trivial⟩) ?_;intro p2 X h4 o2 k4 hp2;have hb4:=hb3.ai k4 B.Rr;refine aH rfl ?_;rw [aC];refine bQ hb4 ?_;intro Y C V z5;have C:bF Y gb 73 [.slice N (es.length+1) c1,.slice p2 (es.length+1) X,vI F,.bool false]:=C;refine dE (cs:=[]) () rfl rfl ⟨es++[⟨O,I,U,q,d,ts⟩],by simp; omega,N,c1,p2,X,?_,?_,?_,?_,?_⟩
  ·
   have J:∀ i,i∈aF N->i∈aF pl\/h.size<=i:=by
    intro i hi;rcases R with rfl | ⟨a,rfl,ha⟩
    ·exact .inl hi
    ·simp [aF] at hi; right; omega
   have M:∀ i,i∈aF p2->i∈aF pw\/h3.size<=i:=by
    intro i hi;rcases hp2 with rfl | ⟨a,rfl,ha⟩
    ·exact .inl hi
    ·simp [aF] at hi; right; omega
   have bq:∀ i,i∈aF q->h2.size<=i/\i<h3.size:=by
    intro i hi;refine ⟨?_,(sq.cj hi).2⟩;rcases hq with rfl | ⟨a,rfl,ha⟩
    ·simp [aF] at hi
    ·simp [aF] at hi; omega
   have lp1:∀ i,i∈aF N->i<h1.size:=fun i hi=>(o1.cj hi).2
   have lp:∀ i,i∈aF O->i<h.size:=fun i hi=>(s.cj hi).2
   have o1':SL Y H 43 1 N (es.length+1) c1 (es.map pK.one++[[.slice O I U]]):=by
    refine (((o1.br P fun i hi=>?_).br k3 aj).br k4 fun i hi g=>?_).br V fun i hi=>?_
    ·simp; intro e; subst e
     rcases J i hi with g | g
     ·exact B.Nt g
     ·have:=hsz.1; omega
    ·rcases J i hi with h' | h'
     ·exact B.VL i h' g
     ·have:=hsz.2.2.1 i g; omega
    ·simp; intro e; subst e
     rcases J i hi with g | g
     ·exact B.Nt g
     ·have:=hsz.1; omega
   have o2':SL Y H 43 1 p2 (es.length+1) X (es.map pK.two++[[.slice q I d]]):=o2.br V fun i hi=>by
    simp; intro e; subst e
    rcases M i hi with g | g
    ·exact B.Rr g
    ·have:=hsz.1; omega
   have Q:∀ {e':TypeId} {sz:Nat} {p':Xac} {l' c':Nat} {xs:List (List Xab)},SL h H e' sz p' l' c' xs->(∀ i,i∈aF p'->i≠gb/\i∉aF pl/\i∉aF pw)->SL Y H e' sz p' l' c' xs:=by
    intro e' sz p' l' c' xs s' hd;exact ((((s'.br k1 fun i hi=>(hd i hi).2.1).br P fun i hi=>by simp; exact (hd i hi).1).br k3 aj).br k4 fun i hi=>(hd i hi).2.2).br V fun i hi=>by simp; exact (hd i hi).1
   have hsq:SL Y H 76 4 q I d (ts.map Ob.nS):=(sq.br k4 fun i hi g=>by have:=(bq i hi).1; have:=hsz.2.2.1 i g; omega).br V fun i hi=>by
    simp; intro e; subst e; have:=(bq i hi).1; have:=hsz.1; omega
   have K:(es++[(⟨O,I,U,q,d,ts⟩:pK)]).length=es.length+1:=aj
   refine ⟨⟨F,by rw [K]; exact C⟩,B.ge,by rw [K,Za]; exact o1',by rw [K,Za]; exact o2',?_,?_,?_,?_,?_,?_,?_⟩
   ·intro e j;rcases Zb.1 j with j | j
    ·have hd:=B.eg e j;exact ⟨Q (B.GK e j).1 fun i hi=>hd i (Zq _ hi),Q (B.GK e j).2.1 fun i hi=>hd i (Zv _ hi),(B.GK e j).2.2⟩
    ·have j:e=⟨O,I,U,q,d,ts⟩:=by simpa using j
     subst j;exact ⟨Q s fun i hi=>⟨(k i hi).1,(k i hi).2.1,(k i hi).2.2.1⟩,hsq,hts⟩
   ·intro hi;rcases J gb hi with g | g
    ·exact B.Nt g
    ·have:=hsz.1; omega
   ·intro hi;rcases M gb hi with g | g
    ·exact B.Rr g
    ·have:=hsz.1; omega
   ·intro i hi hi2;rcases J i hi with g | g <;> rcases M i hi2 with h' | h'
    ·exact B.VL i g h'
    ·have:=hsz.2.1 i g; omega
    ·have:=hsz.2.2.1 i h'; omega
    ·have:=lp1 i hi; omega
   ·intro e j i hi;rcases Zb.1 j with j | j
    ·have hd:=B.eg e j i hi;have hlt:=hsz.2.2.2 e j i hi;exact ⟨hd.1,fun g=>(J i g).elim hd.2.1 ad,fun g=>(M i g).elim hd.2.2 ad⟩
    ·have j:e=⟨O,I,U,q,d,ts⟩:=by simpa using j
     subst j;rcases Zb.1 hi with hi | hi
     ·have hd:=k i hi;have hlt:=lp i hi;exact ⟨hd.1,fun g=>(J i g).elim hd.2.1 ad,fun g=>(M i g).elim hd.2.2.1 ad⟩
     ·have:=bq i hi
      refine ⟨by have:=hsz.1; omega,fun g=>?_,fun g=>?_⟩
      ·have:=lp1 i g; omega
      ·rcases M i g with g | g
       ·have:=hsz.2.2.1 i g; omega
       ·omega
   ·intro e j i hi;rcases Zb.1 j with j | j
    ·exact B.pq e j i hi
    ·have j:e=⟨O,I,U,q,d,ts⟩:=by simpa using j
     subst j;intro g
     have:=(bq i g).1
     have:=lp i hi
     omega
   ·refine List.pairwise_append.2 ⟨B.ee,aj,?_⟩;intro e j f hf i hi g;have hf:f=⟨O,I,U,q,d,ts⟩:=by simpa using hf
    subst hf;rcases Zb.1 g with g | g
    ·exact (k i g).2.2.2 e j hi
    ·have:=(bq i g).1
     have:=hsz.2.2.2 e j i hi
     omega
  ·refine Ch.trans (Ch.trans (Ch.trans (Ch.trans (k1.mono fun i hi _=>by simp [hi]) P fun i hi _=>by simp at hi; simp [hi]) k3 aj) k4 fun i hi _=>by simp [hi]) V fun i hi _=>by simp at hi; simp [hi]
  ·intro i hi;rcases R with rfl | ⟨a,rfl,ha⟩
   ·exact .inl hi
   ·simp [aF] at hi; right; omega
  ·intro i hi;rcases hp2 with rfl | ⟨a,rfl,ha⟩
   ·exact .inl hi
   ·simp [aF] at hi; right; omega
  ·intro e j i hi;rcases Zb.1 j with j | j
   ·exact .inr (.inr ⟨e,j,hi⟩)
   ·have j:e=⟨O,I,U,q,d,ts⟩:=by simpa using j
    subst j;rcases Zb.1 hi with hi | hi
    ·exact .inl hi
    ·right; left
     rcases hq with rfl | ⟨a,rfl,ha⟩
     ·simp [aF] at hi
     ·simp [aF] at hi; omega
 ·rintro ⟨⟩ h1 ⟨r,Z,u,w,D,E,B1,k1,a1,a2,a3⟩;obtain ⟨held,A⟩:=B1.box;refine aH rfl ?_;rw [aC];refine az A (held,()) (ak ?_);refine aH rfl ?_;rw [aC];refine bQ A ?_;intro h2 G P z2;refine aU (cs:=[]) (fun _ n h'=>∃ es',es'.length<=4001/\n=es'.length/\vp h gb H pl pw es O h' es') () r.length rfl ⟨r,Z,rfl,u,w,D,E,B1.Jy P G,K5 k1 P,a1,a2,a3⟩ ?_;clear A P G z2 B1 k1 a1 a2 a3 Z r;rintro ⟨⟩ m h3 ⟨r,Z,rfl,hB⟩;refine fJ (cs:=[]) (fun _ h'=>∃ es',es'.length=r.length/\1<es'.length/\vp h gb H pl pw es O h' es') ?_ ?_
  ·have hB0:=hB;obtain ⟨u,w,D,E,B1,k1,a1,a2,a3⟩:=hB;obtain ⟨held,A⟩:=B1.box;refine aH rfl (bm A ((u,r.length,w),()) rfl (ak ?_));refine aP ?_ ?_<;>intro g1
   ·refine aH rfl ?_;rw [aC];refine az A (held,()) (ak ?_);have mt:∀ L,(T.again 1 []) [L,fun vs h'=>∃ y:qX (flat []),vs=parts [] (eA _ y)/\∃ es',es'.length=r.length/\1<es'.length/\vp h gb H pl pw es O h' es'] (fun v h'=>v=.tuple #[]/\∃ es',es'.length<=4000/\vp h gb H pl pw es O h' es') h3 :=
     fun L=>dE (cs:=[]) () rfl rfl ⟨r,rfl,ad,hB0⟩
    refine ao (fun g2=>mt _) (fun g2=>?_);refine aH rfl (bm A ((u,r.length,w),()) rfl (ak ?_));refine ao (fun g3=>mt _) (fun g3=>?_);have g3:=Zf g3;exact ⟨rfl,r,ad,hB0⟩
   ·exact ⟨rfl,r,ad,hB0⟩
  ·rintro ⟨⟩ h4 ⟨o,hl2,hg2,hB⟩;refine fJ (cs:=[]) (fun _ h'=>∃ es',es'.length=r.length/\1<es'.length/\vp h gb H pl pw es O h' es') ?_ ?_
   ·obtain ⟨u,w,D,E,B1,k1,a1,a2,a3⟩:=hB;obtain ⟨held,A⟩:=B1.box;refine aH rfl ?_;rw [aC];refine az A (false,()) (ak ?_);refine cC rfl (aH rfl (bm A ((u,o.length,w),()) rfl (ak ?_)));obtain ⟨q1,hq1,c1⟩:=B1.one.cells (i:=0) (by rw [YY]; omega);obtain ⟨q2,hq2,X⟩:=B1.two.cells (i:=0) (by rw [YY]; omega);rw [Y7] at c1 X;have hent:=B1.GK o[0] (Y5 ad);generalize o[0]=e at c1 X hent;refine dO (aH hq1 (av ((e.p,e.l,e.c),()) c1 (ak ?_)));refine aH rfl ?_;rw [aC];refine az A ((D,o.length,E),()) (ak ?_);refine dO (aH hq2 (av ((e.q,e.l,e.d),()) X (ak ?_)));refine aM (zx (by have:=hent.2.2; omega) hent.1 hent.2.1) ?_;refine ⟨⟨A.cells _ rfl,A.cells _ rfl,?_,trivial⟩,?_⟩
    ·exact A.cells _ rfl
    refine aH rfl ?_;rw [aC];refine bQ A ?_;intro Y C V z5;exact dE (cs:=[]) () rfl rfl ⟨o,hl2,hg2,u,w,D,E,B1.Jy V C,K5 k1 V,a1,a2,a3⟩
   ·clear hB hl2 hg2 o;rintro ⟨⟩ Y ⟨o,hl2,hg2,u,w,D,E,B0,k0,a1,a2,a3⟩;obtain ⟨held5,C⟩:=B0.box;refine aH rfl ?_;rw [aC];refine az C (held5,()) (ak ?_);refine aH rfl (bm C ((u,o.length,w),()) rfl (ak ?_));obtain ⟨q1,hq1,c1⟩:=B0.one.cells (i:=0) (by rw [YY]; omega);rw [Y7] at c1;generalize o[0]=e at c1;refine dO (aH hq1 (av ((e.p,e.l,e.c),()) c1 (ak ?_)));refine aH rfl ?_;rw [aC];refine bQ C ?_;intro h6 hb6 k6 z6;have B1:=B0.Jy k6 hb6;have k1:=K5 k0 k6;obtain ⟨held,A⟩:=B1.box;have W:∀ {p':Xac} {c':Nat} {xs:List (List Xab)},SL h6 H 43 1 p' o.length c' xs->o.length<=c':=by
     intro p' c' xs s';cases p' with
     | none =>
      have h1:=s'.2.2.2;have h2:=s'.1;rw [h1,List.length_nil] at h2; omega
     | some a=>obtain ⟨_,_,_,_,_,g,_⟩:=s'.2.2; exact g.1
    have hc1:=W B1.one;have hc2:=W B1.two;refine aH rfl (bm A ((u,o.length,w),()) rfl (ak ?_));refine dA ⟨ad,ad,ad⟩ (aH rfl ?_);rw [Y1 ad];refine bQ A ?_;intro h7 S k7 z7;have S:bF h7 gb 73 [.slice (u.map fun a=>a.add 1) (o.length-1) (w-1),.slice D o.length E,vI held,.bool false]:=S;refine aH rfl ?_;rw [aC];refine az S ((D,o.length,E),()) (ak ?_);refine dA ⟨ad,ad,ad⟩ (aH rfl ?_);rw [Y1 ad,aC];refine bQ S ?_;intro h8 hb8 k8 z8;have hb8:bF h8 gb 73 [.slice (u.map fun a=>a.add 1) (o.length-1) (w-1),.slice (D.map fun a=>a.add 1) (o.length-1) (E-1),vI held,.bool false]:=hb8;have k78:Ch [gb] h6 h8:=k7.trans k8 (fun i hi _=>hi);refine aG (cs:=[]) () (o.length-1) rfl ad rfl ⟨o.drop 1,by simp; omega,aj,_,_,_,_,B1.tail k78 ad hb8,K5 k1 k78,?_,?_,fun e j=>a3 e (cl9 j)⟩
    ·rw [eW]; exact a1
    ·rw [eW]; exact a2
def dY (b:Nat) (h h':Hp):Prop:=h.size<=h'.size/\∀ i,i<b->i<h.size->h'[i]?=h[i]?
def dY.of {ws:List Nat} {h:Hp} (k:Ch ws h h') (a:∀ i,i∈ws->i<h.size->H<=i):dY H h h' :=
 ⟨k.size,fun i hi hl=>k.same i hl fun c=>by have:=a i c hl; omega⟩
def dY.trans {b:Nat} {h h1 h2:Hp} (a:dY b h h1) (c:dY b h1 h2):dY b h h2 :=
 ⟨ZK a.1 c.1,fun i hi hl=>(c.2 i hi (aw9 hl a.1)).trans (a.2 i hi hl)⟩
def Oq {h:Hp} {gb:Nat} {pl:Xac} {cl:Nat} {pw:Xac} {cw:Nat} {es:List pK} (B:oU h gb H pl cl pw cw es) (s:es.length<=4000) :
  HC Xaz 66 #[.pointer (some ⟨gb,0,none⟩)] h fun v h'=>v=.bool true/\oU h' gb H pl cl pw cw es/\Ch [gb] h h':=by
 refine bi (args:=[.pointer (some ⟨gb,0,none⟩)]) mixed Tryz.func66 aw (fY (some ⟨gb,0,none⟩)) ?_;unfold eb aY bj bn ay bd aK;refine aU (cs:=cn) (fun x n h'=>∃ i:Nat,x.1=(i:Int)/\i<=es.length/\n=es.length-i/\oU h' gb H pl cl pw cw es/\Ch [gb] h h') ((0:Int),()) es.length rfl ⟨0,rfl,ad,ad,B,Ch.refl _ _⟩ ?_;clear B;rintro ⟨C,⟨⟩⟩ m h1 ⟨i,hi,t,rfl,B,u⟩;simp only at hi;subst hi;refine ak ?_;obtain ⟨held,a⟩:=B.box;refine aH rfl (bm a ((pl,es.length,cl),()) rfl (ak ?_));refine aP ?_ ?_<;>intro y
 ·have f:i<es.length:=ad
  refine aH rfl ?_;rw [aC];refine az a (false,()) (ak ?_);refine cC rfl (aH rfl (bm a ((pl,es.length,cl),()) rfl (ak ?_)));obtain ⟨D,g,c1⟩:=B.one.cells (i:=i) (by rw [YY]; omega);obtain ⟨E,k,o⟩:=B.two.cells (i:=i) (by rw [YY]; omega);rw [Y7] at c1 o;have hent:=B.GK es[i] (Y5 f);generalize es[i]=e at c1 o hent;rw [cB i];refine dO (aH g (av ((e.p,e.l,e.c),()) c1 (ak ?_)));refine aH rfl ?_;rw [aC];refine az a ((pw,es.length,cw),()) (ak ?_);refine dO (aH k (av ((e.q,e.l,e.d),()) o ?_));refine aM (zx (by have:=hent.2.2; omega) hent.1 hent.2.1) ?_;refine ⟨⟨a.cells _ rfl,a.cells _ rfl,a.cells _ rfl,trivial⟩,?_⟩;refine aH rfl ?_;rw [aC];refine bQ a ?_;intro F r w G;have hw:=iC i;exact aG (cs:=cn) (((i+1:Nat):Int),()) (es.length-(i+1)) rfl ad (Zg (fun z=>[Value.int .i64 z]) hw) ⟨i+1,rfl,ad,rfl,B.Jy w r,u.trans w (fun j A _=>A)⟩
 ·refine aH rfl ?_;rw [aC];refine az a (false,()) ?_;exact ⟨rfl,B,u⟩
def II (x y:Operand) (a b c:Int) (s:Xaa) (h:Hp) (K:Xab->Hp->Prop) (hk:K (.bool false) h) :
  aZ Xaz (Sx.jk (BinOp.neq) 76 x y (.agg #[vI a,vI b,vI c,.string s]) (.agg #[vI a,vI b,vI c,.string s])) h K:=by
 refine rZ S8 aw aw aw K ?_;rw [TL,show (s==s)=true by rw [bytes_beq]];simpa using hk
def VN (k j:Nat):List Xab:=[vI (IntKind.wrap .i64 (-100-(k:Int))),vI 0,vI (IntKind.wrap .i64 (0-(j:Int))),.string ⟨#[]⟩]
def Room (h:Hp) (b:Nat) (p:Xac) (c k m:Nat):Prop :=
 match p with
 | none=>c=0
 | some a=>∃ g o cells,a=⟨g,o,none⟩/\b<=g/\c<9223372036854775808/\bF h g 76 cells/\o+c*4<=cells.length/\∀ j,j<m->(cells.drop (o+j*4)).take 4=VN k j
def Room.TU {h:Hp} {m:List (List Xab)} (s:SL h H 76 4 O I U m) (k:Nat):Room h H O U k 0:=by
 cases O with
 | none=>exact s.2.2.1
 | some a =>
  obtain ⟨g,e,rest,rfl,f,i,d,n⟩:=s.2.2;have hx:=cU m s.2.1
  have:=s.1
  refine ⟨g,e.length,_,rfl,f,i.2,d,?_,fun j o=>ad⟩;rw [Y0,Y0,hx,n,<- this];omega
def Room.ai {ws:List Nat} {h:Hp} {b:Nat} {p:Xac} {c k m:Nat} (r:Room h b p c k m) (f:Ch ws h h') (j:∀ i,i∈aF p->i∉ws):Room h' b p c k m:=by
 cases p with
 | none=>exact r
 | some a =>
  obtain ⟨g,o,cells,rfl,e,hc,d,l,n⟩:=r;exact ⟨g,o,cells,rfl,e,hc,d.ai f (j g (by simp [aF])),l,n⟩
def ym {cells vs:List Xab} (hv:vs.length=I) (h:H+I<=cells.length):((gK cells H vs).drop H).take I=vs:=by
 rw [gZ _ _ _ ad,Zp];rw [ac9 (by rw [Zi]; omega),ar9 (by rw [Zi]; omega),Z8,ad9 ad,Zu ad]
def sf {cells vs:List Xab} {o' n:Nat} (h:H+vs.length<=cells.length) (h':o'+n<=H):((gK cells H vs).drop o').take n=(cells.drop o').take n:=by
 rw [gZ _ _ _ ad,Zp];rw [ac9 (by rw [Zi]; omega),ad9 (by rw [ZI,Zi]; omega)];rw [List.drop_take,List.take_take,ZQ ad]
def KG (i j:Int) (h:Hp):HC Xaz 29 #[vI i,vI j] h fun v h'=>v=.agg #[vI (IntKind.wrap .i64 (-100-i)),vI 0,vI (IntKind.wrap .i64 (0-j)),.string ⟨#[]⟩]/\Ext h h':=by
 refine bi (args:=[vI i,vI j]) mixed Tryz.func29 aw (pI i j) ?_;unfold kE bC cm;refine bG ?_;intro h1 b1 a z1;refine bQ b1 ?_;intro h2 b2 b z2;have b2:bF h2 h.size 76 [vI (IntKind.wrap .i64 (-100-i)),vI 0,vI (IntKind.wrap .i64 (0-j)),.string ⟨#[]⟩]:=b2;refine az b2 (IntKind.wrap .i64 (-100-i),(0:Int),IntKind.wrap .i64 (0-j),(⟨#[]⟩:Xaa),()) ?_;exact ⟨rfl,bZ a b⟩
structure oa (h:Hp) (gb b:Nat) (pl:Xac) (cl:Nat) (es:List pK) (i m:Nat):Prop where
 box:∃ (v w:Xab),bF h gb 73 [.slice pl es.length cl,v,w,.bool false]
 one:SL h b 43 1 pl es.length cl (es.map pK.one)
 room:∀ k,(hk:k<es.length)->Room h b es[k].p es[k].c k (if k<i then es[k].c else if k=i then m else 0)
def oa.ai {ws:List Nat} {h:Hp} {gb b:Nat} {pl:Xac} {cl:Nat} {es:List pK} {i m:Nat} (M:oa h gb b pl cl es i m) (k:Ch ws h h') (h1:gb∉ws) (h2:∀ i,i∈aF pl->i∉ws) (c:∀ e,e∈es->∀ i,i∈e.vz->i∉ws) :
  oa h' gb b pl cl es i m:=by
 obtain ⟨v,w,d⟩:=M.box;exact ⟨⟨v,w,d.ai k h1⟩,M.one.br k h2,fun j a=>(M.room j a).ai k fun x f=>c es[j] (Y5 a) x (Zq _ f)⟩
def PS {h:Hp} {gb:Nat} {pl:Xac} {cl:Nat} {pw:Xac} {cw:Nat} {es:List pK} (B:oU h gb H pl cl pw cw es) (I:es.length<=4000) (hbs:H<=h.size) :
  HC Xaz 28 #[.pointer (some ⟨gb,0,none⟩),.func (Fn.func 29) #[] #[]] h fun v h'=>v=.bool true/\dY H h h':=by
 refine bi (args:=[.pointer (some ⟨gb,0,none⟩),.func (Fn.func 29) #[] #[]]) mixed Tryz.func28 aw (fo (some ⟨gb,0,none⟩)) ?_;unfold dM aY bj bn ay bd ei bH aS aK cr;refine aJ (Oq B I) ?_;rintro _ h0 ⟨rfl,Q,U⟩;refine ⟨(true,()),rfl,ak ?_⟩;refine cC rfl ?_;have s0:dY H h h0:=dY.of U fun i hi _=>by simp at hi; subst hi; exact B.ge
 have M0:oa h0 gb H pl cl es 0 0:=by
  obtain ⟨held,f⟩:=Q.box;refine ⟨⟨_,_,f⟩,Q.one,fun k hk=>?_⟩
  have:=Room.TU (Q.GK es[k] (Y5 hk)).1 k
  rw [Y1 ad]
  by_cases h:k=0
  ·rw [Y8 h]; exact this
  ·rw [Y1 h]; exact this
 have J:h.size<=h0.size:=U.size;have Nt:=B.Nt;have eg:=B.eg;have hge:=B.ge;have V:∀ i j (hi:i<es.length) (t:j<es.length),i≠j->∀ x,x∈es[i].vz->x∉es[j].vz:=by
  intro i j hi t hij x s;rcases ZP i j with h1 | h1
  ·exact (ag9.1 B.ee) i j hi t h1 x s
  ·intro W;exact (ag9.1 B.ee) j i t hi ad x W s
 have hlt:=B.lt;clear B Q;refine aU (cs:=cn) (fun x n h'=>∃ i:Nat,x.1=(i:Int)/\i<=es.length/\n=es.length-i/\oa h' gb H pl cl es i 0/\dY H h h'/\h.size<=h'.size) ((0:Int),()) es.length rfl ⟨0,rfl,ad,ad,M0,s0,J⟩ ?_;clear M0 s0 J U h0;rintro ⟨n1,⟨⟩⟩ m0 h1 ⟨i,hi,hile,rfl,M,A,z1⟩;simp only at hi;subst hi;refine ak ?_;obtain ⟨v,w,f⟩:=M.box;refine aH rfl (bm f ((pl,es.length,cl),()) rfl (ak ?_));refine aP ?_ ?_<;>intro g1
 ·have d:i<es.length:=ad
  obtain ⟨X,m,c1⟩:=M.one.cells (i:=i) (by rw [YY]; omega);rw [Y7] at c1;rw [cB i];refine aH rfl (bm f ((pl,es.length,cl),()) rfl (ak ?_));refine dO (aH m (av ((es[i].p,es[i].l,es[i].c),()) c1 (ak ?_)));refine aH rfl (bm f ((pl,es.length,cl),()) rfl (ak ?_));refine dO (aH m (av ((es[i].p,es[i].l,es[i].c),()) c1 (ak ?_)));refine dA ⟨ad,ad,ad⟩ ?_;clear f c1 m X;refine aU (cs:=cn) (fun x n h'=>∃ j:Nat,x.1=(j:Int)/\j<=es[i].c/\n=es[i].c-j/\oa h' gb H pl cl es i j/\dY H h h'/\h.size<=h'.size) ((0:Int),()) es[i].c rfl ⟨0,rfl,ad,ad,M,A,z1⟩ ?_;clear M A z1 v w;rintro ⟨n2,⟨⟩⟩ m1 h2 ⟨j,t,K,rfl,M,L,z2⟩;simp only at t;subst t;refine ak ?_;refine aP ?_ ?_<;>intro Y
  ·have u:j<es[i].c:=ad
   refine pF (cap:=[]) aw rfl (KG i j h2) ?_;rintro _ Z ⟨rfl,e3⟩;refine ⟨(IntKind.wrap .i64 (-100-(i:Int)),(0:Int),IntKind.wrap .i64 (0-(j:Int)),(⟨#[]⟩:Xaa),()),rfl,ak ?_⟩;have M3:=M.ai e3 aj aj aj;refine dO ?_;have hroom:=M3.room i d;rw [Y1 ad,Y8 rfl] at hroom;cases C:es[i].p with
   | none =>
    rw [C] at hroom
    have:es[i].c=0:=hroom
    omega
   | some a =>
    rw [C] at hroom;obtain ⟨g,o,cells,rfl,D,N,q,hr,R⟩:=hroom;have E:g∈es[i].vz:=by unfold pK.vz; rw [C]; simp [aF]
    rw [Y1 ad];refine aH (a:=⟨g,o,none⟩) (by rw [bt9,aC,cc9]) ?_;rw [aC,cB j];refine ct q rfl (by simp; omega) ?_;intro h4 F G z4;have hw:=iC j;have hcl:(gK cells (o+j*4) (VN i j)).length=cells.length:=gS _ _ _;refine aG (cs:=cn) (((j+1:Nat):Int),()) (es[i].c-(j+1)) rfl ad (Zg (fun z=>[Value.int .i64 z]) hw) ⟨j+1,rfl,ad,rfl,?_,?_,?_⟩
    ·obtain ⟨v,w,f⟩:=M3.box;refine ⟨⟨v,w,f.ai G ?_⟩,M3.one.br G fun x s=>?_,fun k hk=>?_⟩
     ·simp; exact fun e=>(eg es[i] (Y5 d) g E).1 e.symm
     ·simp; intro e; subst e; exact (eg es[i] (Y5 d) x E).2.1 s
     ·by_cases r:k=i
      ·subst r;rw [Y1 ad,Y8 rfl,C];refine ⟨g,o,_,rfl,D,N,F,by rw [gS]; exact hr,fun j' hj'=>?_⟩
       by_cases hjj:j'=j
       ·subst hjj;exact ym rfl ad
       ·rw [<- R j' ad];exact sf (vs:=VN k j) (by show _+4<=_; omega) ad
      ·have:=M3.room k hk
       rw [Y1 r] at this ⊢;refine this.ai G fun x s=>?_
       simp; intro e; subst e
       exact V k i hk d r x (Zq _ s) E
    ·exact (L.trans (dY.of e3 aj)).trans (dY.of G fun x s _=>by simp at s; subst s; exact D)
    ·have:=e3.size; have:=G.size; omega
  ·have t:j=es[i].c:=ad
   subst t;have hw:=iC i;refine aG (cs:=cn) (((i+1:Nat):Int),()) (es.length-(i+1)) rfl ad (Zg (fun z=>[Value.int .i64 z]) hw) ⟨i+1,rfl,ad,rfl,⟨M.box,M.one,fun k hk=>?_⟩,L,z2⟩
   have:=M.room k hk
   by_cases r:k<i
   ·rw [Y8 r] at this;rw [Y8 ad]; exact this
   ·rw [Y1 r] at this
    by_cases O:k=i
    ·subst O;rw [Y8 rfl] at this;rw [Y8 ad]; exact this
    ·rw [Y1 O] at this;rw [Y1 ad]
     by_cases P:k=i+1
     ·rw [Y8 P]; exact this
     ·rw [Y1 P]; exact this
 ·have hi:i=es.length:=ad
  subst hi;clear f;refine aU (cs:=ic) (fun x n h'=>∃ i:Nat,x.2.1=(i:Int)/\i<=es.length/\n=es.length-i/\oa h' gb H pl cl es es.length 0/\dY H h h'/\h.size<=h'.size) (false,(0:Int),()) es.length rfl ⟨0,rfl,ad,ad,M,A,z1⟩ ?_;clear M A z1 v w;rintro ⟨b7,n8,⟨⟩⟩ m0 h2 ⟨i,hi,hile',rfl,M,A,z1⟩;simp only at hi;subst hi;refine ak ?_;obtain ⟨v,w,f⟩:=M.box;refine aH rfl (bm f ((pl,es.length,cl),()) rfl (ak ?_));refine aP ?_ ?_<;>intro Y
  ·have d:i<es.length:=ad
   obtain ⟨X,m,c1⟩:=M.one.cells (i:=i) (by rw [YY]; omega);rw [Y7] at c1;rw [cB i];refine aH rfl (bm f ((pl,es.length,cl),()) rfl (ak ?_));refine dO (aH m (av ((es[i].p,es[i].l,es[i].c),()) c1 (ak ?_)));refine aH rfl (bm f ((pl,es.length,cl),()) rfl (ak ?_));refine dO (aH m (av ((es[i].p,es[i].l,es[i].c),()) c1 (ak ?_)));refine dA ⟨ad,ad,ad⟩ ?_;clear f c1 m X;refine aU (cs:=ic) (fun x n h'=>∃ j:Nat,x.2.1=(j:Int)/\j<=es[i].c/\n=es[i].c-j/\oa h' gb H pl cl es es.length 0/\dY H h h'/\h.size<=h'.size) (b7,(0:Int),()) es[i].c rfl ⟨0,rfl,ad,ad,M,A,z1⟩ ?_;clear M A z1 v w;rintro ⟨y,n30,⟨⟩⟩ m1 Z ⟨j,t,K,rfl,M,L,z2⟩;simp only at t;subst t;refine ak ?_;refine aP ?_ ?_<;>intro g3
   ·have u:j<es[i].c:=ad
    refine dO ?_;have hroom:=M.room i d;rw [Y8 d] at hroom;cases C:es[i].p with
    | none =>
     rw [C] at hroom
     have:es[i].c=0:=hroom
     omega
    | some a =>
     rw [C] at hroom;obtain ⟨g,o,cells,rfl,D,N,q,hr,R⟩:=hroom;rw [Y1 ad];refine aH (a:=⟨g,o,none⟩) (by rw [bt9,aC,cc9]) ?_;rw [aC,cB j];refine bm q (IntKind.wrap .i64 (-100-(i:Int)),(0:Int),IntKind.wrap .i64 (0-(j:Int)),(⟨#[]⟩:Xaa),()) (R j u) (ak ?_);refine pF (cap:=[]) aw rfl (KG i j Z) ?_;rintro _ h4 ⟨rfl,S⟩;refine ⟨(IntKind.wrap .i64 (-100-(i:Int)),(0:Int),IntKind.wrap .i64 (0-(j:Int)),(⟨#[]⟩:Xaa),()),rfl,ak ?_⟩;refine ⟨⟨(q.ai S aj).cells _ (R j u),trivial⟩,?_⟩;refine mU (b:=false) (fun K' hk=>II _ _ _ _ _ _ _ _ hk) ?_;refine cC rfl ?_;have hw:=iC j;exact aG (cs:=ic) (y,((j+1:Nat):Int),()) (es[i].c-(j+1)) rfl ad (Zg (fun z=>[Value.bool y,vI z]) hw)
      ⟨j+1,rfl,ad,rfl,M.ai S aj aj aj,L.trans (dY.of S aj),by have:=S.size; omega⟩
   ·have hw:=iC i;exact aG (cs:=ic) (y,((i+1:Nat):Int),()) (es.length-(i+1)) rfl ad (Zg (fun z=>[Value.bool y,vI z]) hw) ⟨i+1,rfl,ad,rfl,M,L,z2⟩
  ·refine aH rfl (ct f rfl aj ?_);intro Z hb3 k3 z3;refine aH rfl ?_;rw [aC];refine ct hb3 rfl (by simp [gK]) ?_;intro h4 F G z4;refine aH rfl ?_;rw [aC];refine ct F rfl (by simp [gK]) ?_;intro h5 hb5 k5 z5;have hs:∀ {a c:Hp},Ch [gb] a c->dY H a c:=fun k=>dY.of k fun x s _=>by simp at s; subst s; exact hge
   exact ⟨rfl,((A.trans (hs k3)).trans (hs G)).trans (hs k5)⟩
end Go.Sx.BL
namespace Go.Sx.Lk
open Go.Proofs Go.Sx.Ob
def TH (n:Nat) (u o:Xac) (w:Bool) (k:T):T :=
   T.loop [cr,aK] [.bool w,vI (0:Int)] <| fun (x:Bool) (a:Int) =>
   bn a n
    (bz 17 [.pointer u,vI a,vI (0:Int)] false [(false,[.slice 64])] <| fun (y:Xac) (z I:Nat) =>
    Ex 3 y z
    (T.aR o <| fun (b:Xax) =>
    T.af (b.add 2) [.slice 26] <| fun (c:Xac) (d e:Nat) =>
    T.need (dF a d) <|
    T.aR c <| fun (f:Xax) =>
    T.af (f.add (ay a 1)) [.slice 64] <| fun (g:Xac) (h i:Nat) =>
    bz 17 [.pointer u,vI a,vI (0:Int)] false [(false,[.slice 64])] <| fun (A:Xac) (B C:Nat) =>
    T.aD [((f.add (ay a 1)),[.slice g h i]),((b.add 2),[.slice c d e])] <|
    bz 15 [.slice A B C,.slice g h i] false [cr] <| fun (D:Bool) =>
    T.aD [((b.add 2),[.slice c d e])] <|
    cond (!D)
     bH
     (T.aR o <| fun (j:Xax) =>
     T.af (j.add 3) [.slice 26] <| fun (l:Xac) (m p:Nat) =>
     T.need (dF a m) <|
     T.aR l <| fun (q:Xax) =>
     T.af (q.add (ay a 1)) [.slice 64] <| fun (r:Xac) (s t:Nat) =>
     bz 17 [.pointer u,vI a,vI (1:Int)] false [(false,[.slice 64])] <| fun (E:Xac) (F G:Nat) =>
     T.aD [((q.add (ay a 1)),[.slice r s t]),((j.add 3),[.slice l m p]),((f.add (ay a 1)),[.slice g h i]),((b.add 2),[.slice c d e])] <|
     bz 15 [.slice E F G,.slice r s t] false [cr] <| fun (H:Bool) =>
     T.aD [((j.add 3),[.slice l m p]),((f.add (ay a 1)),[.slice g h i]),((b.add 2),[.slice c d e])] <|
     cond (!H)
     bH
     (T.again 2 [.bool x,vI (bC (a+(1:Int)))]))))
    k
variable {H O:Nat} {I:Nat->kZ}
def NE {V W:List Xab->Hp->Prop} {K:Xab->Hp->Prop} {h0 h:Hp} {us:List bU} {su:cd} {P:LP} {usl lb:cd} {b':Nat} {lb2 st sd:cd} {tw dw:List (cd × List (cd × cH))}
  (b:Cs h0 h us su P H usl lb I O b' lb2 st sd tw dw) (r:us.length<=64) (v:wh h su.p su.l us) (s:Bool) {k:T} (hk:∀ L h',Ext h h'->k L K h') :
  TH us.length (some ⟨H+3,0,none⟩) (some ⟨O,0,none⟩) s k [V,W] K h:=by
 unfold TH bn ay bz bC dF bH aK cr;refine aU (cs:=ic) (fun y k h'=>∃ n:Nat,y.2.1=(n:Int)/\k=us.length-n/\n<=us.length/\Ext h h') (s,(0:Int),()) us.length rfl
  ⟨0,rfl,rfl,ad,Ch.refl _ _⟩ ?_
 rintro ⟨u,X,⟨⟩⟩ m h1 ⟨n,hi,rfl,Y,A⟩;simp only at hi;subst hi;refine ak ?_;have hw:=iC n;refine ao (fun q=>?_) (fun q=>hk _ h1 A);have q:=Y3 q;have hn:n<us.length:=ad
 have b1:=b.ext A;have v1:=v.ai A;refine aJ (b1.one.out ad v1 hn (j:=0) ad) ?_;rintro _ h2 ⟨Q,C,ws,rfl,o,Z,vt1⟩;refine ⟨((C.p,C.l,C.c),()),rfl,ak ?_⟩;have hmn:=b1.one.many hn (j:=0) ad;have E:ws.length<=2^40:=by
  have:=Zg List.length Z
  rw [YY,YY] at this;omega
 have z2:=Q.size;refine vq (L0:=[_,_,_]) (dd:=3) rfl (hq:=h2) (h:=h2) (lo:=h1.size) (us:=ws) (c:=C.c) ⟨o.out,o.fI,fun _ _=>trivial⟩ E z2 (Zc _) (fun _=>True) (fun _ _ _ _ _ _ _=>trivial) (yu.refl _ _ _) (fun O cells bx=>⟨cells,bx,rfl⟩) o.out trivial ?_;intro h3 J bt _ _;have f:Ext h1 h3:=Ch.trans Q bt.ch fun i hi hl=>by rw [bk9] at hi; omega
 have b3:=b1.ext f;have v3:=v1.ai f;obtain ⟨a,t,R,hl,hc,vt⟩:=b3.Yo v3 hn (j:=0) ad;obtain ⟨a2,D,w,F,G,M⟩:=b3.Yo v3 hn (j:=1) ad;simp only [if_true] at R hl;simp only [show ¬ (1=0) from bY,if_false] at w F;have c1:∀ {h':Hp},Ext h3 h'->aI h' (a.add (n*1)) 0 [t.v]:=fun e=>aX e aj _ _ hc
 have U:∀ {h':Hp},Ext h3 h'->aI h' (a2.add (n*1)) 0 [D.v]:=fun e=>aX e aj _ _ G
 have x:∀ {h':Hp},Ext h3 h'->aI h' ⟨O,0+2,none⟩ 0 [st.v]:=fun e=>(b3.ext e).pr.box.cells _ rfl
 have N:∀ {h':Hp},Ext h3 h'->aI h' ⟨O,0+3,none⟩ 0 [sd.v]:=fun e=>(b3.ext e).pr.box.cells _ rfl
 refine aH rfl ?_;rw [aC];refine av ((st.p,st.l,st.c),()) (x (Ch.refl _ _)) (ak ?_);refine bP R ?_;rw [cB n];refine av ((t.p,t.l,t.c),()) (c1 (Ch.refl _ _)) (ak ?_);refine GO b3 r v3 hn (j:=0) ad vt ?_ ?_ ?_
 ·intro h' e; exact ⟨c1 e,x e,trivial⟩
 ·intro h' e; exact ⟨x e,trivial⟩
 intro h4 d;refine cC rfl ?_;refine aH rfl ?_;rw [aC];refine av ((sd.p,sd.l,sd.c),()) (N d) (ak ?_);refine bP w ?_;refine av ((D.p,D.l,D.c),()) (U d) (ak ?_);refine GO (b3.ext d) r (v3.ai d) hn (j:=1) ad (M.ai d) ?_ ?_ ?_
 ·intro h' e; exact ⟨U (d.trans e),N (d.trans e),c1 (d.trans e),x (d.trans e),trivial⟩
 ·intro h' e; exact ⟨N (d.trans e),c1 (d.trans e),x (d.trans e),trivial⟩
 intro h5 e5;refine cC rfl ?_;exact aG (cs:=ic) (u,((n+1:Nat):Int),()) (us.length-(n+1)) rfl ad (Zg (fun z=>[Value.bool u,Value.int .i64 z]) hw) ⟨n+1,rfl,rfl,ad,((A.trans f).trans d).trans e5⟩
open Go.Proofs Go.Sx.Ob Go.Sx.BL
variable {U:Hp}
def oU.empty {gb:Nat} (b:bF U gb 73 [.slice none 0 0,.slice none 0 0,vI (0:Int),.bool false]):oU U gb gb none 0 none 0 [] :=
 ⟨⟨0,b⟩,Zc _,SL.nil _ _ _ _,SL.nil _ _ _ _,aj,by simp [aF],by simp [aF],by simp [aF],aj,aj,List.Pairwise.nil⟩
def Td (j:Xac):T :=
    (T.new [aS,aS,vI (0:Int),.bool false] 73 <| fun (a:Xax) =>
    bz 18 [.pointer j] false [(false,[.slice 76])] <| fun (b:Xac) (c d:Nat) =>
    bz 27 [.pointer (some a),.slice b c d] true [] <| bz 18 [.pointer j] false [(false,[.slice 76])] <| fun (e:Xac) (f g:Nat) =>
    bz 27 [.pointer (some a),.slice e f g] true [] <| bz 28 [.pointer (some a),.func (Fn.func 29) #[] #[]] false [cr] <| fun (h:Bool) =>
    cond h
    (bz 9 [] false [cr] <| fun (i:Bool) =>
    T.ret (.bool i))
    bH)
def O7 {L:Lp} {h0 h:Hp} (g:∃ e f,h0[0]?=some (.cells Cr.opsV.toArray e f)) (e0:Ext h0 h) {w:LW} {usl lb:cd} {sp:Int} {M:Nat} (pg:rn h H w usl lb sp O M I) (hl:w.lb.length<=2^30) :
  Td (some ⟨H+3,0,none⟩) L (fun w h'=>w=.bool true/\Ext h0 h') h:=by
 unfold Td bz bH aS cr;refine bG ?_;intro h1 b1 q z1;refine aJ (pP (pg.ext q) hl) ?_;rintro _ h2 ⟨j,p,l,x,rfl,r⟩;refine ⟨((p,l,x),()),rfl,ak ?_⟩;have q2:=j.size;have bk:=oU.empty (b1.ai j aj);have bl:=fun i hi=>Ob.SL.cj r i hi
 refine aJ (Ks bk aj (Sx.SL.mono r ad) ad (fun i hi=>⟨by have:=bl i hi; omega,by simp [aF],by simp [aF],aj⟩) ad) ?_;rintro _ h3 ⟨rfl,es,k,pl,cl,pw,cw,s,d,y,z,P⟩;refine ⟨(),rfl,ak ?_⟩;have q3:=d.size;have d:Ch [h.size] h2 h3:=d.mono (by simp [aF]);have a:Ext h h3:=bZ (q.trans j) d;refine aJ (pP (pg.ext a) hl) ?_;rintro _ Q ⟨m,p',l',n,rfl,t⟩;refine ⟨((p',l',n),()),rfl,ak ?_⟩;have q4:=m.size;have B4:=s.ai m aj aj aj aj;have bl':=fun i hi=>Ob.SL.cj t i hi
 have lt3:=s.lt;refine aJ (Ks B4 k (Sx.SL.mono t ad) ad (fun i hi=>?_) ad) ?_
 ·have h1:=bl' i hi;refine ⟨ad,fun b=>?_,fun b=>?_,fun e A b=>?_⟩
  ·have:=lt3.2.1 i b; omega
  ·have:=lt3.2.2.1 i b; omega
  ·have:=lt3.2.2.2 e A i b; omega
 rintro _ h5 ⟨rfl,C,c,pl',D,E,F,G,u,R,U,V⟩;refine ⟨(),rfl,ak ?_⟩;have q5:=u.size;have o:Ext h h5:=by
  refine Ch.trans (a.trans m) u (fun i hi hl=>?_);rcases Zo.1 hi with rfl | hi
  ·omega
  ·rcases Zb.1 hi with hi | hi
   ·rcases y i hi with h | h
    ·simp [aF] at h
    ·omega
   ·rcases z i hi with h | h
    ·simp [aF] at h
    ·omega
 refine aJ (PS G c ad) ?_;rintro _ W ⟨rfl,J⟩;refine ⟨(true,()),rfl,ak ?_⟩;refine cL rfl ?_;refine aJ (FV g (e0.trans (dY.ext o J))) ?_;rintro _ X ⟨rfl,K⟩;exact ⟨(true,()),rfl,rfl,K⟩
def Qz (pw:iV U) (E:Cw U) (n:∃ e f,U[0]?=some (.cells Cr.opsV.toArray e f)) {su:cd} {us:List bU} (v:wh U su.p su.l us) (sm:IJ us) :
  HC Xaz 5 #[.slice su.p su.l su.c] U fun w h'=>w=.bool true/\Ext U h':=by
 refine bi (args:=[.slice su.p su.l su.c]) mixed Tryz.func5 aw (lL su.p su.l su.c) ?_;unfold iA aY bj bn ay bd bz aT ax bH aS cm aK cr dp;have j:∀ {L:Lp} {h1:Hp},Ext U h1->(T.call Xaz 9 [] false [(false,[.bool])] fun (m:Bool)=>T.ret (.bool m)) L (fun w h'=>w=.bool true/\Ext U h') h1:=by
  intro L h1 W;refine aJ (FV n W) ?_;rintro _ h2 ⟨rfl,X⟩;exact ⟨(true,()),rfl,rfl,X⟩
 have hul:=v.len;refine aM (MS (c:=su.c) v) ?_;refine ao (fun q=>j (Ch.refl _ _)) (fun q=>?_);refine Mi v sm ?_;intro J1 Y cs p c s;have e03:=s.ext;have v3:=s.vw (by have:=sm.many; omega);refine aJ (RQ (c:=c) (pw.ai e03 aj) (E.ai e03 aj) v3 sm) ?_;rintro w4 F ⟨D,hl⟩;have ag:=Iv (us:=us) sm.num;have e04:=e03.trans D;have z03:=e03.size;have z4:=D.size;cases o:ry us with
 | error f =>
  rw [o] at hl ag;have hl:_=Jz f.vD f.unit f.name:=hl;subst hl;obtain ⟨Z,ha⟩:=ag;refine ⟨(none,(f.vD:Int),(f.unit:Int),f.name,()),rfl,ak ?_⟩;refine bG ?_;intro h5 G H z5;refine bQ G ?_;intro h6 m I z6;have m:bF h6 F.size 37 [vI (f.vD:Int),vI (f.unit:Int),.string f.name]:=m;have b:Ext F h6:=bZ H I;refine DC v sm.many s (D.trans b) ?_;intro t J h7 K d;have b7:=K.box m (.inr ad);refine cL rfl ?_;refine az b7 ((f.vD:Int),()) (ak ?_);refine cL (by have:¬ (f.vD:Int)=0:=ad; simpa using this) ?_;exact j d
 | ok P =>
  rw [o] at hl ag;obtain ⟨B,usl,lb,S,hB,hv,pg,U8,hz⟩:=hl;subst hv;have ag':=ag;obtain ⟨z1,k,u1,d1,M,b1,c1,f1⟩:=ag;have r:Hb us:=⟨M.right,k⟩
  have hLl:=r.eO;refine ⟨(some ⟨B+3,0,none⟩,(0:Int),(0:Int),(⟨#[]⟩:Xaa),()),rfl,ak ?_⟩;refine bG ?_;intro h5 G H z5;refine bQ G ?_;intro h6 m I z6;have b:Ext F h6:=bZ H I;refine DC v sm.many s (D.trans b) ?_;intro t J h7 K d;have pg7:=(pg.ext b).iy K.ch fun i hi=>by rw [bk9] at hi; omega
  refine cC rfl ?_;refine aJ (K9 (v.ai d) (fun _=>OW sm k M b1)) ?_;rintro _ h8 ⟨R,N⟩;unfold G0 at N;rw [Y1 ad] at N;rcases N with ⟨i',x',y,_⟩ | ⟨g,b',lb2,st,sd,tw,dw,ms,_,hw,z,pr,tx,dx,ti,di⟩
  ·rw [f1] at y;cases y
  subst hw;refine ⟨(some ⟨g,0,none⟩,(0:Int),(0:Int),(⟨#[]⟩:Xaa),()),rfl,ak ?_⟩;refine bG ?_;intro h9 b9 e9 z9;refine bQ b9 ?_;intro h10 b10 O z10;have a:Ext h8 h10:=bZ e9 O;refine cC rfl ?_;have e010:=(d.trans R).trans a;have V:Cs Y h10 us su P B usl lb S g b' lb2 st sd tw dw:=⟨hB,pg7.ext (R.trans a),U8,hz,pr.ai a,tx.ext a,dx.ext a,Pd ag' sm z (fun u x Q=>Fj Q) ti,Pd ag' sm z (fun u x Q=>Fq Q) di⟩
  have v10:=v.ai e010;rw [hul];refine NE V k v10 t ?_;intro L h11 A;have C:P.w.lb=cy 0 us:=M.wi.lb;exact O7 n (e010.trans A) ((V.ext A).pg) (by rw [C]; omega)
end Go.Sx.Lk
namespace Go.Sx.Ob
open Go.Proofs Go.Proofs.YtlpcncdglfjnoaaGreatDoor
open Go.ChangeShapes Go.WideShapes Go.ChangeAt Go.WideMaps Go.WideElems Go.RowKit
def xi (P:Program) (t:TypeId):Option (List (TypeId × Nat)):=(P.underlying t).bind fun d=>match d with | .struct a=>some (a.toList.map fun f=>(f.type,f.offset)) | _=>none
section
variable {H:Type} {enc:TypeId × Xab->H} {P:Program} {W:World} {base fuel:Nat} {sp:Nat->Bool} {held:Bool} {t:TypeId} {cs:List Xab} {y:DataW H × List MemPlace}
def gT {l:List (TypeId × Nat)} (a:xi P t=some l) (h:DataW.trod enc P W base sp held fuel t cs=some y) :
  ∃ (c:List (DataW H × List MemPlace)) (n:Nat),y.1=.agg (c.map (·.1))/\cs.length=P.cellsOf t/\c.length=l.length/\∀ (i:Nat) (p:TypeId × Nat),l[i]?=some p->∃ x,c[i]?=some x/\DataW.trod enc P W base sp held n p.1 ((cs.drop p.2).take (P.cellsOf p.1))=some x:=by
 unfold xi at a;cases j:P.underlying t with
 | none=>rw [j] at a; cases a
 | some d =>
  rw [j] at a;simp only [Option.bind_some] at a;split at a
  ·rename_i k;simp only [Option.some.injEq] at a;obtain ⟨c,n,_,q,hl,e,r⟩:=DataW.trod_struct j h;refine ⟨c,n,by rw [q],hl,by rw [<- a,YY,e,ab9],fun i p m=>?_⟩;rw [<- a,ZL,cf9] at m;obtain ⟨f,b,rfl⟩:=m;rw [an9] at b;have h1:=r i f b;cases o:c[i]? with
   | none =>
    rw [List.getElem?_eq_none_iff] at o
    have:i<k.size:=by
     by_cases g:i<k.size
     ·exact g
     ·rw [ZY ad] at b;cases b
    omega
   | some x=>rw [o] at h1; exact ⟨x,rfl,h1⟩
  ·cases a
theorem jZ {h:Hp} {a:Xax}:∀ (b:List Xab) (i:Nat),(∀ j,(c:j<b.length)->jj h (a.add (i+j))=some b[j])->aI h a i b
 | [],_,_=>trivial
 | v::b,i,d=>⟨by have:=d 0 aj; rw [cc9] at this; exact this,jZ b (i+1) fun j c=>by
  have:=d (j+1) (by simpa using c)
  rw [show i+1+j=i+(j+1) from ad];simpa using this⟩
def Vq {a:Xax} {n:Nat} (h:W.cells? base a n=some cs):cs.length=n/\aI W.heap a 0 cs:=by
 unfold World.cells? at h;split at h
 ·have hl:cs.length=n:=by simpa using Lib.mapM_length h
  refine ⟨hl,jZ cs 0 fun j d=>?_⟩;obtain ⟨b,c,e⟩:=Lib.mapM_at h j j (am9 ad);rw [YZ d] at c;cases c;rw [ZH,<- LO];exact e
 ·cases h
theorem zn {α:Type} (Q:Nat->α->Prop):∀ n,(∀ i,i<n->∃ x,Q i x)->∃ l:List α,l.length=n/\∀ i (hi:i<l.length),Q i l[i]
 | 0,_=>⟨[],rfl,fun i hi=>by simp at hi⟩
 | n+1,h=>by
  obtain ⟨l,hl,c⟩:=zn Q n (fun i hi=>h i ad);obtain ⟨x,d⟩:=h n ad;refine ⟨l++[x],by simp [hl],fun i hi=>?_⟩
  by_cases a:i<l.length
  ·rw [al9 a];exact c i a
  ·have b:i=n:=by simp at hi; omega
   subst b;rw [bs9 ad];simpa using d
def PY {ds:List (DataW H)} {ks:List Nat} (hl:ds.length=ks.length) (h:∀ i,(hi:i<ks.length)->(a:i<ds.length)->ks[i]=Rows.uptoBulk ds[i]):Rows.uptoBulkAll ds=ks.sum:=by
 induction ds generalizing ks with
 | nil =>
  cases ks with
  | nil=>rfl
  | cons k ks=>simp at hl
 | cons d ds b =>
  cases ks with
  | nil=>simp at hl
  | cons k ks =>
   have h0:=h 0 aj aj;simp only [List.getElem_cons_zero] at h0
   have:=b (ks:=ks) (by simpa using hl) (fun i hi a=>h (i+1) (by simpa using hi) (by simpa using a))
   unfold Rows.uptoBulkAll;rw [this,ZX,h0]
structure ET {α:Type} (Q:α->List Xab->Nat->Prop) (h:Hp) (sz:Nat) (p:Xac) (l c:Nat) (us:List α) (ks:List Nat):Prop where
 len:l=us.length
 B9:ks.length=us.length
 cells:∀ i,(hi:i<us.length)->(hk:i<ks.length)->∃ a cs,p=some a/\aI h (a.add (i*sz)) 0 cs/\Q us[i] cs ks[i]
 cap:l<=c
 V0:c<=maxLen
 nil:p=none->c=0
def open_slice {α:Type} {e:TypeId} {sz:Nat} (D:P.underlying t=some (.slice e)) (hc:P.cellsOf e=sz) (Q:α->List Xab->Nat->Prop)
  (q:∀ (cs:List Xab) (y:DataW H × List MemPlace) (n:Nat),DataW.trod enc P W base sp held n e cs=some y->∃ x:α,Q x cs (Rows.uptoBulk y.1))
  (h:DataW.trod enc P W base sp held fuel t cs=some y) :
  ∃ (p:Xac) (l c:Nat) (us:List α) (ks:List Nat),cs=[.slice p l c]/\ET Q W.heap sz p l c us ks/\ks.sum+1<=Rows.uptoBulk y.1:=by
 rcases DataW.trod_slice D h with ⟨e0,f⟩ | ⟨a,len,cap,b,rest,n,_,e0,f,r,s,u,g,w,_,_⟩
 ·refine ⟨none,0,0,[],[],e0,⟨rfl,rfl,fun i hi=>by simp at hi,Zc _,cm9 _,fun _=>rfl⟩,?_⟩;rw [f];simp only [Rows.uptoBulk];decide
 ·have j:∀ i,i<len->∃ x:α × Nat,∃ d,aI W.heap (a.add (i*sz)) 0 d/\Q x.1 d x.2/\∃ y,b[i]?=some y/\x.2=Rows.uptoBulk y.1:=by
   intro i hi;have he:=w i hi;cases k:b[i]? with
   | none=>rw [List.getElem?_eq_none_iff] at k; omega
   | some y =>
    rw [k,hc] at he;simp only [Option.bind_eq_some_iff] at he;obtain ⟨d,z,A⟩:=he;obtain ⟨hl,jj⟩:=Vq z;obtain ⟨x,E⟩:=q _ _ _ A;exact ⟨(x,Rows.uptoBulk y.1),d,jj,E,y,rfl,rfl⟩
  obtain ⟨B,m,o⟩:=zn _ len j;refine ⟨some a,len,cap,B.map (·.1),B.map (·.2),e0,⟨by rw [YY,m],by rw [YY,YY],fun i hi hk=>?_,s,u,fun h=>by cases h⟩,?_⟩
  ·rw [YY] at hi;obtain ⟨d,h1,h2,_⟩:=o i hi;rw [Y7,Y7];exact ⟨a,d,rfl,h1,h2⟩
  ·have:=PY (ds:=b.map (·.1)) (ks:=B.map (·.2)) (by rw [YY,YY,g,m]) (fun i hi C=>by
    rw [YY] at hi C;obtain ⟨d,_,_,y,k,hk⟩:=o i hi;rw [YZ C] at k;rw [Y7,Y7,hk,Zl k])
   rw [f];simp only [Rows.uptoBulk];rw [this];omega
end
variable {Z:Program} {Y:FuncId} {V:World}
def PC {args:Array Xab} {R:Xab->Hp->Prop} (h:HC Z Y args V.heap R) (c:∀ v h',R v h'->Ext V.heap h'):Calls Z Y args V fun e w'=>∃ v,e=.returned v/\Below V.heap.size V w'/\R v w'.heap:=by
 refine (h V rfl).mono fun e w' ⟨v,hv,a,b⟩=>⟨v,hv,⟨a.os,a.tape,a.output,(c v _ b).size,fun k hk=>(c v _ b).same k hk aj⟩,b⟩
def Ik {a:World} (c:Below V.heap.size V a) {p:MemPlace} (d:p.block<V.heap.size):V.sameAt a p:=by
 cases p with
 | cell b off =>
  show a.cell? _=V.cell? _;unfold World.cell?;rw [c.block b d]
 | map b=>exact c.block b d
def XX:ownKnob Tryz.prog.godebug=none:=aw
def u9:Tryz.prog.underlying 9=some .string:=aw
def u4:Tryz.prog.underlying 4=some .bool:=aw
def u3:Tryz.prog.underlying 3=some (.int .i64):=aw
def u5:Tryz.prog.underlying 5=some (.int .u8):=aw
def XM:Tryz.prog.underlying 193=some (.array 43 165):=aw
def WY:Tryz.prog.cellsOf 165=3:=aw
def X5:Tryz.prog.cellsOf 193=129:=aw
def c9:Tryz.prog.cellsOf 9=1:=aw
def c5:Tryz.prog.cellsOf 5=1:=aw
def c3:Tryz.prog.cellsOf 3=1:=aw
def Yf:xi Xaz 165=some [(9,0),(5,1),(3,2)]:=aw
def Fa:List (DataW Unit):=match (Rows.laid_spandrel_isa_table:DataW Unit) with | .agg l=>l | _=>[]
def NY:DataW Unit->Int
 | .agg [_,_,.lit (.int _ n)]=>n
 | _=>0
def Rw:(Rows.laid_spandrel_isa_table:DataW Unit)=.agg Fa:=aw
def OA:Fa.map NY=(List.range 43).map fun k=>((pf.getD k 0:Nat):Int):=aw
theorem FE {α β:Type} (f:α->List β) (m:Nat) (a:∀ x,(f x).length=m):∀ l:List α,(l.flatMap f).length=l.length*m
 | []=>aj
 | x::l=>by rw [ZN,Y0,a,FE f m a l,Z1,Nat.succ_mul,Nat.add_comm]
def Ee (a:Nat->Xaa) (by_:Nat->Int):(mf a by_).length=129:=by
 unfold mf;rw [FE _ 3 (fun x=>rfl),as9]
def Vm:DataW Unit->List UInt8
 | .agg [.lit (.string s),_,_]=>s
 | _=>[]
def Vo:DataW Unit->Int
 | .agg [_,.lit (.int _ n),_]=>n
 | _=>0
def QH:Fa.map Vm=(List.range 43).map fun k=>XE k:=aw
def RO:Fa.map Vo=(List.range 43).map fun k=>xv k:=aw
variable {H U:Nat}
def Dj {enc:TypeId × Xab->Unit} {base:Nat} {sp:Nat->Bool} {held:Bool} {cs:List Xab} {p:List MemPlace}
  (h:DataW.trod enc Xaz V base sp held H 193 cs=some (Rows.laid_spandrel_isa_table,p)):cs=mf wB xv:=by
 obtain ⟨g,m,_,F,hl,B,G⟩:=DataW.trod_array XM h;rw [X5] at hl;have r:g.map (·.1)=Fa:=by
  have:=Zg Prod.fst F
  rw [show (Rows.laid_spandrel_isa_table,p).1=DataW.agg Fa from Rw] at this;simpa using this.symm
 have l:∀ i,i<43->(cs.drop (i*3)).take 3=[.string (wB i),.int .u8 (xv i),vI ((pf.getD i 0:Nat):Int)]:=by
  intro i hi;have h1:=G i hi;rw [WY] at h1;rw [YZ ad] at h1;obtain ⟨I,n,t,o,u,f⟩:=gT Yf h1;obtain ⟨J,K,C⟩:=f 0 _ rfl;obtain ⟨L,M,D⟩:=f 1 _ rfl;obtain ⟨N,O,E⟩:=f 2 _ rfl;rw [WY] at o;generalize hc:(cs.drop (i*3)).take 3=c at *
  match c,o with
  | [S,U,X],_ =>
   rw [show Tryz.prog.cellsOf (9,0).1=1 from c9] at C;rw [show Tryz.prog.cellsOf (5,1).1=1 from c5] at D;rw [show Tryz.prog.cellsOf (3,2).1=1 from c3] at E;obtain ⟨s,e0,w,_⟩:=DataW.trod_string u9 C;obtain ⟨b,P,y,_⟩:=DataW.trod_int u5 D;obtain ⟨k,Q,z,_⟩:=DataW.trod_int u3 E;cases e0; cases P; cases Q;have d:I=[J,L,N]:=by
    apply Z9;intro j
    match j with
    | 0=>exact K
    | 1=>exact M
    | 2=>exact O
    | j+3=>rw [ZC (by rw [u]; simp),ZC aj]
   have h2:(g.map (·.1))[i]?=some (g[i]'ad).1:=by rw [ZL,YZ ad]; rfl
   rw [r] at h2;have hk:k=((pf.getD i 0:Nat):Int):=by
    have e:(Fa.map NY)[i]?=some (NY (g[i]'ad).1):=by rw [ZL,h2]; rfl
    rw [OA,ZL,am9 hi] at e;rw [t,d,w,y,z] at e;exact (Zl e).symm
   have q:b=xv i:=by
    have e:(Fa.map Vo)[i]?=some (Vo (g[i]'ad).1):=by rw [ZL,h2]; rfl
    rw [RO,ZL,am9 hi] at e;rw [t,d,w,y,z] at e;exact (Zl e).symm
   have R:s=wB i:=by
    have e:(Fa.map Vm)[i]?=some (Vm (g[i]'ad).1):=by rw [ZL,h2]; rfl
    rw [QH,ZL,am9 hi] at e;rw [t,d,w,y,z] at e;exact DV (Zl e).symm
   rw [hk,q,R]
 apply Z9;intro j
 by_cases Y:j<129
 ·obtain ⟨a,b,A,q⟩:∃ a b,j=a*3+b/\b<3:=⟨j / 3,j % 3,ad,ad⟩
  subst A;unfold mf;rw [xt (fun k=>[Value.string (wB k),.int .u8 (xv k),vI (pf.getD k 0:Nat)]) 3 (fun x=>rfl) _ a b q,am9 ad];show cs[a*3+b]?=[Value.string (wB a),.int .u8 (xv a),vI ((pf.getD a 0:Nat):Int)][b]?
  have:=l a ad
  rw [<- this,bo9,Y8 q,bf9]
 ·have Z:(mf wB xv).length=129:=Ee _ _;rw [ZC ad,ZC ad]
def D8 {name:String} {cs:Array Xab} (a:Z.globalNamed name=some H) (hv:V.var? Z name=some cs):∃ e f,V.heap[H]?=some (.cells cs e f):=by
 unfold World.var? at hv;rw [a] at hv;have hv:(match (V.heap[H]?:Option Obj) with | some (.cells cs _ _)=>some cs | _=>none)=some cs:=hv;split at hv
 ·rename_i b e f c;cases hv;exact ⟨e,f,c⟩
 ·cases hv
def Jp (h:laidMetH Xaz Rows.linkNumbersRow.laid V):Cw V.heap/\Go.Sx.iV V.heap:=by
 rw [MakeChecks.laidMetH_plain _ _ _ aw] at h;obtain ⟨ps,⟨G,H,q,I,p0,J,r,s,t,u,⟨K,L,w,M,N,O,x,y,z,A,⟨P,Q,B,R,S,U,a,c,d,f,⟨X,Y,C,Z,p3,q3,b,g,i,j,_,_⟩,_⟩,_⟩,_⟩,_,_⟩:=h;obtain rfl:=Zl ((show Tryz.prog.globalNamed _=some 1 from aw).symm.trans a);obtain rfl:=Zl ((show Tryz.prog.globalNamed _=some 0 from aw).symm.trans b);have h2:(Tryz.prog.globals[1]?).map (·.type)=some 228:=aw
 obtain rfl:=Zl (h2.symm.trans c);have D:(Tryz.prog.globals[0]?).map (·.type)=some 193:=aw
 obtain rfl:=Zl (D.symm.trans g);have hc:=Lib.cells_of_tab (n:=20) (e:=207) (k:=.u64) (zs:=Lib.pow10Tab) aw aw aw aw f;have hr:=Dj j;obtain ⟨E,l,m⟩:=D8 a d;obtain ⟨F,o,p⟩:=D8 b i;refine ⟨⟨wB,xv,F,o,?_⟩,⟨E,l,?_⟩⟩
 ·rw [p,<- hr]
 ·rw [m,<- hc]
def PO (os:Os) (args:Array Xab):laidMetH Xaz Rows.linkNumbersRow.laid ((World.doorLaid Xaz 400 os).forCall (fun _ _=>0) ⟨#[],args,[]⟩).memory :=
 laidMetH_of_parts3 (fuel:=8) (laidMet_of_run' 8 aw aw) aw aw
def WD:Kids Xaz (·<Tryz.prog.types.size):=kids_rows aw aw
def sliceB:((List.range Tryz.prog.types.size).all fun t=>match Tryz.prog.underlying t with | some (.slice e)=>decide (0<Tryz.prog.cellsOf e) | _=>true)=true:=aw
def UI {t e:TypeId} (a:t<Tryz.prog.types.size) (b:Tryz.prog.underlying t=some (.slice e)):0<Tryz.prog.cellsOf e:=by
 have:=Zx.1 sliceB t (ap9.2 a)
 rw [b] at this;exact Y3 this
theorem uW {H:Type} {enc:TypeId × Xab->H} {W e:World} {sp:Nat->Bool} (f:Below W.heap.size W e):∀ {ts:List TypeId} {g:List Xab} {i:List (DataW H)} {ps:List MemPlace},(∀ t∈ts,t<Tryz.prog.types.size) ->
  DataW.TrodAll enc Xaz W 0 (fun _=>true) true ts g i ps->(∀ p∈ps,p.block<W.heap.size)->(∀ p∈ps,sp p.block=true)->DataW.TrodAll enc Xaz e 0 sp true ts g i ps
 | [],_,_,_,_,h,_,_=>by
  obtain ⟨rfl,rfl,rfl⟩:=trodAll_nil h;exact trodAll_mk0
 | t::ts,_,_,_,j,h,hl,k=>by
  obtain ⟨v,l,d,m,a,b,rfl,rfl,rfl,⟨n,h1⟩,h2⟩:=trodAll_cons h;exact ⟨a,b,⟨n,DataW.trod_stays WD (fun h o=>UI h o) (fun h=>by cases h) (j t (bg9 ..)) h1 (fun p c=>Ik f (hl p (Zq _ c))) (fun p c=>k p (Zq _ c))⟩,
   uW f (fun t h=>j t (Ze _ h)) h2 (fun p c=>hl p (Zv _ c)) (fun p c=>k p (Zv _ c)),rfl⟩
def Oa {H:Type} {enc:TypeId × Xab->H} {f:Func} {s:ChangeSpec} {apart fresh handsOn:Bool} {W':World} {args:Array Xab} {v:Xab} {c g:List (DataW H)} {before:List MemPlace} (d:s.vars=[])
  (i:DataW.Whole enc Xaz f.params.toList s.vars apart V args.toList c g before)
  (e:∀ (b:Nat) (sp:Nat->Bool) (m:Bool),DataW.TrodAll enc Xaz W' b sp m f.resultTypes.toList (v.resultList f.resultTypes.size) (s.fn H (c++g)).results [])
  (a:(s.fn H (c++g)).args=c) (eA:(s.fn H (c++g)).vars=[]) (j:∀ t∈f.params.toList,t<Tryz.prog.types.size) (k:Below V.heap.size V W') :
  s.post enc Xaz f apart fresh handsOn false V args v W':=by
 have hlt:=i.lt;have hW':=i;obtain ⟨p,q,hA,l,rfl,o,hn⟩:=i;rw [d] at l;obtain ⟨rfl,rfl⟩:=trodVars_none l;rw [Z2] at hlt hW';refine ⟨c,[],p,[],p,[],hW',e _ _ _,?_,?_,k.frame _,fun h=>by cases h⟩
 ·rw [a];exact uW k j hA hlt (fun p n=>Y4 (hlt p n))
 ·rw [eA,d] <;> rfl
variable {a:OpenSpec}
def NB {H:Type} {enc:TypeId × Xab->H} {b:Assume} {C:Checked} {os:Os} {fn:Func} {k:(H:Type)->List (DataW H)->Bool} (hk:a.cond=some k) {F:Stop.Interp} {conds:List PathCond} {apart fresh handsOn again:Bool} {X:World->Array Xab->Prop}
  (z:∀ (w w':World) (args:Array Xab),w.heap=w'.heap->X w args->X w' args)
  (own:ownKnob C.prog.godebug=none) (started:os.Started) (d:C.prog.inits.idxOf? Y=none) (p:C.prog.funcs[Y]?=some fn)
  (witness:∃ (w:World) (tape:Tape) (i:Input),w.os=os/\(w.forCall tape i).Shaped C.prog/\i.vars=[]/\Input.okWide C.prog (w.forCall tape i) .any w.heap.size Y i /\
   ((a.pre enc C.prog fn conds apart (w.forCall tape i).memory i.args/\X (w.forCall tape i).memory i.args)/\sizedMet enc C.prog fn a apart (w.forCall tape i).memory i.args)/\b.holds C.prog (lone (Frame.enter C.prog Y i.args .normal) [] (w.forCall tape i)))
  (c:∀ (W:World) (base:Nat) (args:Array Xab) (m n:List (DataW H)) (before:List MemPlace),
   (∀ (j:Nat) t v,fn.params[j]?=some t->args[j]?=some v->Value.okWide C.prog W .any base t v) ->
   DataW.Whole enc C.prog fn.params.toList a.vars apart W args.toList m n before->k H (m++n)=true->X W args ->
   Calls C.prog Y args W fun e y=>∃ v,e=.returned v/\(a.at F).post enc C.prog fn apart fresh handsOn again W args v y) :
  ReturnsInHanded b C os Y .any (fun w args=>(a.pre enc C.prog fn conds apart w args/\X w args)/\sizedMet enc C.prog fn a apart w args) ((a.at F).post enc C.prog fn apart fresh handsOn again):=by
 refine returnsInHanded_of_calls own started d witness ?_;intro w tape i _ _ _ q g o;obtain ⟨_,_,_,r,h,_,_,_,_,l⟩:=q;have e:r=fn:=Zl (h.symm.trans p);subst e;obtain ⟨⟨u,A⟩,E⟩:=g;obtain ⟨m,n,before,B,hc,x⟩:=(OpenSpec.pre_some hk conds apart _ _).1 u;have hw':=DataW.Whole.of_heap (w':=w.forCall tape i) (by rfl) B;refine (c (w.forCall tape i) w.heap.size i.args m n before l hw' x (z _ _ _ (by rfl) A)).mono fun e y ⟨v,D,u⟩=>?_
 subst D;exact ChangeSpec.post_blind u
def HN {H:Type} {enc:TypeId × Xab->H} {C:Checked} {os:Os} {fn:Func} {k:(H:Type)->List (DataW H)->Bool} (hk:a.cond=some k) {apart:Bool} {X:World->Array Xab->Prop} (c:World) (args:Array Xab) (b:Nat) (e:c.os=os)
  (g:(c.forCall (fun _ _=>0) ⟨#[],args,[]⟩).Shaped C.prog)
  (d:Input.okWideB C.prog (c.forCall (fun _ _=>0) ⟨#[],args,[]⟩) Y ⟨#[],args,[]⟩=true)
  {x:List (DataW H) × List (DataW H) × List MemPlace} (l:DataW.whole enc C.prog (c.forCall (fun _ _=>0) ⟨#[],args,[]⟩).memory fn.params.toList a.vars apart args.toList b=some x) (h:k H (x.1++x.2.1)=true)
  (j:a.bare.sizedB enc C.prog fn apart (c.forCall (fun _ _=>0) ⟨#[],args,[]⟩).memory args b=true)
  (m:X (c.forCall (fun _ _=>0) ⟨#[],args,[]⟩).memory args) :
  ∃ (w:World) (tape:Tape) (i:Input),w.os=os/\(w.forCall tape i).Shaped C.prog/\i.vars=[]/\Input.okWide C.prog (w.forCall tape i) .any w.heap.size Y i /\
   ((a.pre enc C.prog fn [] apart (w.forCall tape i).memory i.args/\X (w.forCall tape i).memory i.args)/\sizedMet enc C.prog fn a apart (w.forCall tape i).memory i.args)/\({}:Assume).holds C.prog (lone (Frame.enter C.prog Y i.args .normal) [] (w.forCall tape i)) :=
 ⟨c,fun _ _=>0,⟨#[],args,[]⟩,e,g,(Input.okWide_of_okWideB (base:=0) d).1,(Input.okWide_of_okWideB d).2,
  ⟨⟨(OpenSpec.pre_some hk [] apart _ _).2 ⟨x.1,x.2.1,x.2.2,DataW.Whole_of_whole l,rfl,h⟩,m⟩,sizedMet_of_sizedB j⟩,by
  simp only [Assume.holds];exact ⟨aj,aj,aj,aj,aj⟩⟩
structure yf (x:cE):Prop where
 GF:∀ t,t∈x.ah->t.2<4294967296
 num:x.num<4294967296
structure Vd (u:bU):Prop where
 text:∀ x,x∈u.text->yf x.e
 data:∀ x,x∈u.data->yf x.e
 bf:∀ x,x∈u.bf->yf x.2
def Yv:Tryz.prog.underlying 58=some (.int .u32):=aw
def YB:Tryz.prog.underlying 21=some (.int .i32):=aw
def YC:Tryz.prog.underlying 57=some (.slice 66):=aw
def Yy:Tryz.prog.cellsOf 66=2:=aw
def XC:Tryz.prog.cellsOf 60=2:=aw
def YW:Tryz.prog.cellsOf 57=1:=aw
def Yp:Tryz.prog.cellsOf 58=1:=aw
def YH:Tryz.prog.cellsOf 21=1:=aw
def Yw:Tryz.prog.cellsOf 62=5:=aw
def X4:Tryz.prog.cellsOf 64=10:=aw
def Yx:Tryz.prog.cellsOf 88=3:=aw
def Yh:Tryz.prog.cellsOf 26=1:=aw
def YA:Tryz.prog.cellsOf 27=1:=aw
def YN:Tryz.prog.cellsOf 28=1:=aw
def Ys:Tryz.prog.cellsOf 30=4:=aw
def XD:xi Xaz 66=some [(9,0),(58,1)]:=aw
def YR:xi Xaz 60=some [(57,0),(58,1)]:=aw
def YK:xi Xaz 62=some [(3,0),(3,1),(3,2),(21,3),(3,4)]:=aw
def XR:xi Xaz 64=some [(3,0),(9,1),(62,2),(60,7),(3,9)]:=aw
def VZ:xi Xaz 88=some [(9,0),(60,1)]:=aw
def Xv:xi Xaz 30=some [(26,0),(26,1),(27,2),(28,3)]:=aw
section
variable {H:Type} {enc:TypeId × Xab->H} {W:World} {base n:Nat} {sp:Nat->Bool} {held:Bool} {cs:List Xab} {y:DataW H × List MemPlace}
def MY {α:Type} {c:List α} {a b:α} (hl:c.length=2) (h0:c[0]?=some a) (h1:c[1]?=some b):c=[a,b]:=by
 match c,hl with
 | [x,y],_ =>
  simp only [List.getElem?_cons_zero,List.getElem?_cons_succ,Option.some.injEq] at h0 h1;subst h0 h1;rfl
def QT (t:Xaa × Nat) (cs:List Xab) (k:Nat):Prop:=cs=dh t/\t.1.size<=maxLen/\t.2<4294967296/\k=t.1.size+3
def Mp (h:DataW.trod enc Xaz W base sp held n 66 cs=some y):∃ t,QT t cs (Rows.uptoBulk y.1):=by
 obtain ⟨p,m,e,hl,b,a⟩:=gT XD h;obtain ⟨q,f,c⟩:=a 0 _ rfl;obtain ⟨r,g,d⟩:=a 1 _ rfl;have hys2:=MY b f g;rw [Yy] at hl
 match cs,hl with
 | [v,u],_ =>
  rw [show Tryz.prog.cellsOf (9,0).1=1 from c9] at c;rw [show Tryz.prog.cellsOf (58,1).1=1 from Yp] at d;obtain ⟨s,e0,i,j⟩:=DataW.trod_string u9 c;obtain ⟨k,l,o,hk⟩:=DataW.trod_int Yv d;have hb:=bounds_u32 hk;cases e0; cases l;refine ⟨(s,k.toNat),?_,j,by show k.toNat<_; omega,?_⟩
  ·unfold dh;simp only [List.cons.injEq,Value.int.injEq,true_and,and_true];omega
  ·rw [e,hys2,i,o];simp only [List.map_cons,List.map_nil,Rows.uptoBulk,Rows.uptoBulkAll];rw [ab9];show s.data.size+1+(1+0)+1=s.data.size+3;omega
structure MW (h:Hp) (p:Xac) (l c:Nat) (x:cE) (k:Nat):Prop where
 vw:ik h p l x.ah
 names:∀ t,t∈x.ah->t.1.size<=maxLen
 num:yf x
 many:3*x.ah.length<=k
 size:(mK x).length<=2*k
 cap:l<=c
theorem BH:∀ (ts:dz) (ks:List Nat),ks.length=ts.length->(∀ i,(hi:i<ts.length)->(hk:i<ks.length)->ks[i]=ts[i].1.size+3)->(ts.flatMap GP).length=2*ks.sum-(ts.map (·.1.size)).sum/\(ts.map (·.1.size)).sum+3*ts.length=ks.sum
 | [],ks,hl,_=>by
  have:ks=[]:=ax9.1 hl
  subst this
  simp
 | t::ts,[],hl,_=>by simp at hl
 | t::ts,k::ks,hl,h=>by
  have h0:=h 0 aj aj;simp only [List.getElem_cons_zero] at h0;obtain ⟨a,c⟩:=BH ts ks (by simpa using hl) (fun i hi hk=>h (i+1) (by simpa using hi) (by simpa using hk));have b:(GP t).length=t.1.size+6:=by
   unfold GP jJ;simp only [List.length_append,dN]
   have:t.1.data.toList.length=t.1.size:=aj
   omega
  rw [ZN,Y0,ZX,ZF,ZX,Z1,b,a];omega
def Ho (h:DataW.trod enc Xaz W base sp held n 60 cs=some y) :
  ∃ p l c x,cs=[.slice p l c,.int .u32 ((x:cE).num:Int)]/\MW W.heap p l c x (Rows.uptoBulk y.1):=by
 obtain ⟨L,m,w,hl,e,b⟩:=gT YR h;obtain ⟨z,A,q⟩:=b 0 _ rfl;obtain ⟨M,B,r⟩:=b 1 _ rfl;have hys2:=MY e A B;rw [XC] at hl
 match cs,hl with
 | [v,u],_ =>
  rw [show Tryz.prog.cellsOf (57,0).1=1 from YW] at q;rw [show Tryz.prog.cellsOf (58,1).1=1 from Yp] at r;obtain ⟨p,l,c,us,ks,e0,d,s⟩:=open_slice YC Yy QT (fun cs y n h=>Mp h) q;obtain ⟨k,C,D,hk⟩:=DataW.trod_int Yv r;have hb:=bounds_u32 hk;cases e0; cases C;have f:((k.toNat:Nat):Int)=k:=ad
  have g:Rows.uptoBulk y.1=Rows.uptoBulk z.1+2:=by
   rw [w,hys2,D];simp only [List.map_cons,List.map_nil,Rows.uptoBulk,Rows.uptoBulkAll]
  have j:∀ i,(hi:i<us.length)->(hk:i<ks.length)->us[i].1.size<=maxLen/\us[i].2<4294967296/\ks[i]=us[i].1.size+3:=by
   intro i hi hk;obtain ⟨a,cs,_,_,_,E,F,G⟩:=d.cells i hi hk;exact ⟨E,F,G⟩
  have hkl:=d.B9;obtain ⟨I,N⟩:=BH us ks hkl (fun i hi hk=>(j i hi hk).2.2);refine ⟨p,l,c,⟨us,k.toNat⟩,by rw [show ((⟨us,k.toNat⟩:cE).num:Int)=k from f],⟨d.len,fun i hi=>?_⟩,?_,⟨?_,by show k.toNat<_; omega⟩,?_,?_,d.cap⟩
  ·have hi:i<us.length:=hi;obtain ⟨a,cs,J,hc,K,_⟩:=d.cells i hi ad;rw [K] at hc;exact ⟨a,J,hc⟩
  ·intro t (o:t∈us);obtain ⟨i,hi,rfl⟩:=Zt o;exact (j i hi ad).1
  ·intro t (o:t∈us);obtain ⟨i,hi,rfl⟩:=Zt o;exact (j i hi ad).2.1
  ·show 3*us.length<=_;omega
  ·show (vR us.length 2++(us.flatMap GP++vR k.toNat 4)).length<=_;rw [Y0,Y0,dN,dN,I];omega
def TT {α:Type} {f:List α} {a b c d e:α} (hl:f.length=5) (h0:f[0]?=some a) (h1:f[1]?=some b) (h2:f[2]?=some c) (g:f[3]?=some d) (h:f[4]?=some e):f=[a,b,c,d,e]:=by
 match f,hl with
 | [i,j,k,l,m],_ =>
  simp only [List.getElem?_cons_zero,List.getElem?_cons_succ,Option.some.injEq] at h0 h1 h2 g h;subst h0 h1 h2 g h;rfl
def Ww {α:Type} {e:List α} {a b c d:α} (hl:e.length=4) (h0:e[0]?=some a) (h1:e[1]?=some b) (h2:e[2]?=some c) (f:e[3]?=some d):e=[a,b,c,d]:=by
 match e,hl with
 | [g,h,i,j],_ =>
  simp only [List.getElem?_cons_zero,List.getElem?_cons_succ,Option.some.injEq] at h0 h1 h2 f;subst h0 h1 h2 f;rfl
def Nv (h:DataW.trod enc Xaz W base sp held n 62 cs=some y):∃ i:Ins,cs=pX i/\Sm i.op/\Rows.uptoBulk y.1=6:=by
 obtain ⟨J,m,j,hl,b,a⟩:=gT YK h;obtain ⟨K,k,c⟩:=a 0 _ rfl;obtain ⟨L,l,d⟩:=a 1 _ rfl;obtain ⟨M,o,e⟩:=a 2 _ rfl;obtain ⟨N,p,f⟩:=a 3 _ rfl;obtain ⟨O,q,g⟩:=a 4 _ rfl;have hys5:=TT b k l o p q;rw [Yw] at hl
 match cs,hl with
 | [P,Q,R,S,U],_ =>
  rw [show Tryz.prog.cellsOf (3,0).1=1 from c3] at c;rw [show Tryz.prog.cellsOf (3,1).1=1 from c3] at d;rw [show Tryz.prog.cellsOf (3,2).1=1 from c3] at e;rw [show Tryz.prog.cellsOf (21,3).1=1 from YH] at f;rw [show Tryz.prog.cellsOf (3,4).1=1 from c3] at g;obtain ⟨r,e0,s,t⟩:=DataW.trod_int u3 c;obtain ⟨u,w,x,V⟩:=DataW.trod_int u3 d;obtain ⟨z,A,B,X⟩:=DataW.trod_int u3 e;obtain ⟨C,D,E,Y⟩:=DataW.trod_int YB f;obtain ⟨F,G,I,Z⟩:=DataW.trod_int u3 g;cases e0; cases w; cases A; cases D; cases G;refine ⟨⟨r,u,z,C,F⟩,rfl,bounds_i64 t,?_⟩;rw [j,hys5,s,x,B,E,I];simp only [List.map_cons,List.map_nil,Rows.uptoBulk,Rows.uptoBulkAll]
def QI (h:Hp) (x:cH) (cs:List Xab) (k:Nat):Prop:=∃ p l c b,cs=encI p l c x/\MW h p l c x.e b/\x.name.size<=maxLen/\Sm x.inst.op/\k=x.name.size+b+10
def CI (h:DataW.trod enc Xaz W base sp held n 64 cs=some y):∃ x,QI W.heap x cs (Rows.uptoBulk y.1):=by
 obtain ⟨N,m,o,hl,b,a⟩:=gT XR h;obtain ⟨O,q,d⟩:=a 0 _ rfl;obtain ⟨P,r,e⟩:=a 1 _ rfl;obtain ⟨Q,t,f⟩:=a 2 _ rfl;obtain ⟨g,u,j⟩:=a 3 _ rfl;obtain ⟨R,w,k⟩:=a 4 _ rfl;have hys5:=TT b q r t u w;rw [X4] at hl
 match cs,hl with
 | [S,U,V,X,Y,Z,v6,v7,v8,v9],_ =>
  rw [show Tryz.prog.cellsOf (3,0).1=1 from c3] at d;rw [show Tryz.prog.cellsOf (9,1).1=1 from c9] at e;rw [show Tryz.prog.cellsOf (62,2).1=5 from Yw] at f;rw [show Tryz.prog.cellsOf (60,7).1=2 from XC] at j;rw [show Tryz.prog.cellsOf (3,9).1=1 from c3] at k;obtain ⟨z,e0,A,w0⟩:=DataW.trod_int u3 d;obtain ⟨s,B,C,D⟩:=DataW.trod_string u9 e;obtain ⟨i,E,F,G⟩:=Nv f;obtain ⟨p,l,c,x,I,J⟩:=Ho j;obtain ⟨K,L,M,w4⟩:=DataW.trod_int u3 k;cases e0; cases B; cases E; cases I; cases L;refine ⟨⟨z,s,i,x,K⟩,p,l,c,_,rfl,J,D,F,?_⟩;rw [o,hys5,A,C,M];simp only [List.map_cons,List.map_nil,Rows.uptoBulk,Rows.uptoBulkAll,G];rw [ab9];show 1+(s.data.size+1+(6+(Rows.uptoBulk g.1+(1+0))))+1=s.data.size+Rows.uptoBulk g.1+10;omega
def QE (h:Hp) (x:oh) (cs:List Xab) (k:Nat):Prop:=∃ p l c b,cs=zX p l c x/\MW h p l c x.2 b/\x.1.size<=maxLen/\k=x.1.size+b+2
def Pu (h:DataW.trod enc Xaz W base sp held n 88 cs=some y):∃ x,QE W.heap x cs (Rows.uptoBulk y.1):=by
 obtain ⟨u,m,g,hl,b,a⟩:=gT VZ h;obtain ⟨w,i,d⟩:=a 0 _ rfl;obtain ⟨e,j,f⟩:=a 1 _ rfl;have hys2:=MY b i j;rw [Yx] at hl
 match cs,hl with
 | [z,A,B],_ =>
  rw [show Tryz.prog.cellsOf (9,0).1=1 from c9] at d;rw [show Tryz.prog.cellsOf (60,1).1=2 from XC] at f;obtain ⟨s,k,o,q⟩:=DataW.trod_string u9 d;obtain ⟨p,l,c,x,r,t⟩:=Ho f;cases k; cases r;refine ⟨(s,x),p,l,c,_,rfl,t,q,?_⟩;rw [g,hys2,o];simp only [List.map_cons,List.map_nil,Rows.uptoBulk,Rows.uptoBulkAll];rw [ab9];show (s.data.size+1+(Rows.uptoBulk e.1+0))+1=s.data.size+Rows.uptoBulk e.1+2;omega
def QS (x:Xaa) (cs:List Xab) (k:Nat):Prop:=cs=[.string x]/\x.size<=maxLen/\k=x.size+1
def NH (h:DataW.trod enc Xaz W base sp held n 9 cs=some y):∃ x,QS x cs (Rows.uptoBulk y.1):=by
 obtain ⟨s,a,b,c⟩:=DataW.trod_string u9 h;refine ⟨s,a,c,?_⟩;rw [b];simp only [Rows.uptoBulk];rw [ab9] <;> rfl
theorem iM {α:Type} (f:α->Nat) (m:Nat):∀ (us:List α) (ks:List Nat),ks.length=us.length->(∀ i,(hi:i<us.length)->(hk:i<ks.length)->f us[i]<=m*ks[i])->(us.map f).sum<=m*ks.sum
 | [],ks,hl,_=>aj
 | u::us,[],hl,_=>by simp at hl
 | u::us,k::ks,hl,h=>by
  have h0:=h 0 aj aj;simp only [List.getElem_cons_zero] at h0;have ih:=iM f m us ks (by simpa using hl) (fun i hi hk=>h (i+1) (by simpa using hi) (by simpa using hk));rw [ZF,ZX,ZX,Nat.mul_add];omega
variable {I:Hp}
def OJ {x:cH} {cs:List Xab} {k:Nat} (q:QI I x cs k):(Jb x).length<=2*k:=by
 obtain ⟨p,l,c,b,_,a,_,_,rfl⟩:=q;have h1:=a.size;have d:(jJ x.name).length=x.name.size+2:=by
  unfold jJ;rw [Y0,dN]
  have:x.name.data.toList.length=x.name.size:=aj
  omega
 have hi:∀ (n:Int) (w:Nat),(DZ n w).length=w:=fun n w=>by unfold DZ; rw [dN]
 unfold Jb;rw [Y0,hi];split
 ·omega
 ·split
  ·rw [Y0,Y0,Y0,Y0,hi,hi,hi,hi];split
   ·omega
   ·simp
    omega
  ·split
   ·rw [hi]; omega
   ·split
    ·omega
    ·split
     ·rw [hi]; omega
     ·simp
      omega
def NC {x:oh} {cs:List Xab} {k:Nat} (q:QE I x cs k):(Nh x).length<=2*k:=by
 obtain ⟨p,l,c,b,_,a,_,rfl⟩:=q;have h1:=a.size;unfold Nh jJ;rw [Y0,Y0,dN]
 have:x.1.data.toList.length=x.1.size:=aj
 omega
def KK {x:Xaa} {cs:List Xab} {k:Nat} (q:QS x cs k):(jJ x).length<=2*k:=by
 obtain ⟨_,_,rfl⟩:=q;unfold jJ;rw [Y0,dN]
 have:x.data.toList.length=x.size:=aj
 omega
def IH {α:Type} (f:α->Bt) (us:List α):(us.flatMap f).length=(us.map fun u=>(f u).length).sum:=by rw [bw9]
end
theorem tN:∀ (ks:List Nat) (i:Nat) (h:i<ks.length),ks[i]<=ks.sum
 | k::ks,0,_=>aj
 | k::ks,i+1,h=>by
  have:=tN ks i (by simpa using h)
  simp only [List.getElem_cons_succ,List.sum_cons];omega
theorem kJ {α:Type}:∀ us:List α,(us.map fun _=>1).sum=us.length
 | []=>rfl
 | u::us=>by rw [ZF,ZX,kJ us,Z1,Nat.add_comm]
def wR {α:Type} {P:α->Prop} {us:List α} (h:∀ i,(hi:i<us.length)->P us[i]):∀ x,x∈us->P x:=fun x a=>by
 obtain ⟨i,hi,rfl⟩:=Zt a;exact h i hi
variable {I:Hp} {O:Xac}
def MW.at {x:cE} {k:Nat} (q:MW I O H U x k) (hk:k<=2^60):pV I O H x:=⟨q.vw,by have:=q.many; omega,q.names⟩
def Jk {us:List cH} {ks:List Nat} (s:ET (QI I) I 10 O H U us ks) (k:ks.sum<=2^58):zV I O H us/\(∀ x,x∈us->yf x.e)/\(us.flatMap Jb).length<=2*ks.sum:=by
 have hl:=s.B9;have q:∀ i,(hi:i<us.length)->∃ a cs,O=some a/\aI I (a.add (i*10)) 0 cs/\QI I us[i] cs ks[i]:=fun i hi=>s.cells i hi ad
 have one:∀ i,(hi:i<us.length)->1<=1*ks[i]:=fun i hi=>by
  obtain ⟨_,_,_,_,_,_,_,_,_,_,_,_,hk⟩:=q i hi;omega
 have m:us.length<=ks.sum:=by
  have:=iM (fun _=>1) 1 us ks hl (fun i hi hk=>one i hi)
  rw [kJ] at this;omega
 refine ⟨⟨s.len,ad,fun i hi=>?_⟩,wR fun i hi=>?_,?_⟩
 ·obtain ⟨a,cs,d,hc,p',l',c',b,rfl,f,hn,g,hk⟩:=q i hi
  have:=tN ks i ad
  exact ⟨a,p',l',c',d,hc,f.at ad,hn,g⟩
 ·obtain ⟨a,cs,d,hc,p',l',c',b,rfl,f,hn,g,hk⟩:=q i hi;exact f.num
 ·rw [IH];refine iM _ 2 us ks hl (fun i hi hk=>?_);obtain ⟨a,cs,d,hc,j⟩:=q i hi;exact OJ j
def SO {us:List oh} {ks:List Nat} (s:ET (QE I) I 3 O H U us ks) (g:ks.sum<=2^58):rW I O H us/\(∀ x,x∈us->yf x.2)/\(us.flatMap Nh).length<=2*ks.sum:=by
 have hl:=s.B9;have q:∀ i,(hi:i<us.length)->∃ a cs,O=some a/\aI I (a.add (i*3)) 0 cs/\QE I us[i] cs ks[i]:=fun i hi=>s.cells i hi ad
 have one:∀ i,(hi:i<us.length)->1<=1*ks[i]:=fun i hi=>by
  obtain ⟨_,_,_,_,_,_,_,_,_,_,_,hk⟩:=q i hi;omega
 have j:us.length<=ks.sum:=by
  have:=iM (fun _=>1) 1 us ks hl (fun i hi hk=>one i hi)
  rw [kJ] at this;omega
 refine ⟨⟨s.len,ad,fun i hi=>?_⟩,wR fun i hi=>?_,?_⟩
 ·obtain ⟨a,cs,d,hc,p',l',c',b,rfl,e,hn,hk⟩:=q i hi
  have:=tN ks i ad
  exact ⟨a,p',l',c',d,hc,e.at ad,hn⟩
 ·obtain ⟨a,cs,d,hc,p',l',c',b,rfl,e,hn,hk⟩:=q i hi;exact e.num
 ·rw [IH];refine iM _ 2 us ks hl (fun i hi hk=>?_);obtain ⟨a,cs,d,hc,f⟩:=q i hi;exact NC f
def SS {us:List Xaa} {ks:List Nat} (s:ET QS I 1 O H U us ks) (e:ks.sum<=2^58):Mg I O H us/\(us.flatMap jJ).length<=2*ks.sum:=by
 have hl:=s.B9;have q:∀ i,(hi:i<us.length)->∃ a cs,O=some a/\aI I (a.add (i*1)) 0 cs/\QS us[i] cs ks[i]:=fun i hi=>s.cells i hi ad
 have one:∀ i,(hi:i<us.length)->1<=1*ks[i]:=fun i hi=>by
  obtain ⟨_,_,_,_,_,_,hk⟩:=q i hi;omega
 have f:us.length<=ks.sum:=by
  have:=iM (fun _=>1) 1 us ks hl (fun i hi hk=>one i hi)
  rw [kJ] at this;omega
 refine ⟨⟨s.len,ad,fun i hi=>?_⟩,?_⟩
 ·obtain ⟨a,cs,b,hc,rfl,hn,hk⟩:=q i hi;exact ⟨a,b,hc,hn⟩
 ·rw [IH];refine iM _ 2 us ks hl (fun i hi hk=>?_);obtain ⟨a,cs,b,hc,d⟩:=q i hi;exact KK d
def ye {us:List cH} {ks:List Nat} (s:ET (QI I) I 10 O H U us ks):(∀ x,x∈us->x.e.ah.length<=ks.sum)/\us.length<=ks.sum:=by
 have hl:=s.B9;have q:∀ i,(hi:i<us.length)->∃ a cs,O=some a/\aI I (a.add (i*10)) 0 cs/\QI I us[i] cs ks[i]:=fun i hi=>s.cells i hi ad
 refine ⟨wR fun i hi=>?_,?_⟩
 ·obtain ⟨a,cs,f,hc,p',l',c',b,rfl,d,hn,g,hk⟩:=q i hi
  have:=tN ks i ad
  have:=d.many
  omega
 ·have:=iM (fun _=>1) 1 us ks hl (fun i hi hk=>by
   obtain ⟨_,_,_,_,_,_,_,_,_,_,_,_,hk⟩:=q i hi;omega)
  rw [kJ] at this;omega
theorem Vj {α:Type} (g:α->Nat):∀ us:List α,(us.map fun x=>3*g x).sum=3*(us.map g).sum
 | []=>rfl
 | u::us=>by rw [ZF,ZX,ZF,ZX,Vj g us,Nat.mul_add]
def NX {us:List cH} {ks:List Nat} (s:ET (QI I) I 10 O H U us ks):(us.map fun x=>3*x.e.ah.length).sum<=ks.sum:=by
 have:=iM (fun x:cH=>3*x.e.ah.length) 1 us ks s.B9 (fun i hi hk=>by
  obtain ⟨a,cs,f,hc,p',l',c',b,_,d,hn,g,hk⟩:=s.cells i hi hk
  have:=d.many
  omega)
 omega
def Uj {us:List oh} {ks:List Nat} (s:ET (QE I) I 3 O H U us ks):(us.map fun x=>3*x.2.ah.length).sum<=ks.sum:=by
 have:=iM (fun x:oh=>3*x.2.ah.length) 1 us ks s.B9 (fun i hi hk=>by
  obtain ⟨a,cs,e,hc,p',l',c',b,_,d,hn,hk⟩:=s.cells i hi hk
  have:=d.many
  omega)
 omega
def H9 {us:List oh} {ks:List Nat} (s:ET (QE I) I 3 O H U us ks):(∀ x,x∈us->x.2.ah.length<=ks.sum)/\us.length<=ks.sum:=by
 have hl:=s.B9;have q:∀ i,(hi:i<us.length)->∃ a cs,O=some a/\aI I (a.add (i*3)) 0 cs/\QE I us[i] cs ks[i]:=fun i hi=>s.cells i hi ad
 refine ⟨wR fun i hi=>?_,?_⟩
 ·obtain ⟨a,cs,e,hc,p',l',c',b,rfl,d,hn,hk⟩:=q i hi
  have:=tN ks i ad
  have:=d.many
  omega
 ·have:=iM (fun _=>1) 1 us ks hl (fun i hi hk=>by
   obtain ⟨_,_,_,_,_,_,_,_,_,_,_,hk⟩:=q i hi;omega)
  rw [kJ] at this;omega
def PP {us:List Xaa} {ks:List Nat} (s:ET QS I 1 O H U us ks):us.length<=ks.sum:=by
 have hl:=s.B9;have q:∀ i,(hi:i<us.length)->∃ a cs,O=some a/\aI I (a.add (i*1)) 0 cs/\QS us[i] cs ks[i]:=fun i hi=>s.cells i hi ad
 have:=iM (fun _=>1) 1 us ks hl (fun i hi hk=>by
  obtain ⟨_,_,_,_,_,_,hk⟩:=q i hi;omega)
 rw [kJ] at this;omega
structure Kn (h:Hp) (a b c d:cd) (u:bU) (N:Nat):Prop where
 at_:jU h a b c d u
 num:Vd u
 size:(XI u).length<=2*N+13
 small:(∀ x,x∈u.text->x.e.ah.length<=N)/\(∀ x,x∈u.data->x.e.ah.length<=N)/\(∀ x,x∈u.bf->x.2.ah.length<=N)/\u.aQ.length<=N/\u.text.length<=N/\u.data.length<=N/\u.bf.length<=N
 cap:a.l<=a.c
 WG:3*((Lk.cO u).flatMap (·.ah)).length<=N
 j6:u.text.length+u.data.length+u.bf.length+u.aQ.length<=N
 pos:1<=N
def Ua {a b c d:cd} {u:bU} {N:Nat} (s:Kn I a b c d u N):1<=N:=s.pos
section
variable {H:Type} {enc:TypeId × Xab->H} {W:World} {base n:Nat} {sp:Nat->Bool} {held:Bool} {cs:List Xab} {y:DataW H × List MemPlace}
def zM (h:DataW.trod enc Xaz W base sp held n 30 cs=some y) (hN:Rows.uptoBulk y.1<=2^50):∃ a b c d u,cs=[cd.v a,cd.v b,cd.v c,cd.v d]/\Kn W.heap a b c d u (Rows.uptoBulk y.1):=by
 obtain ⟨ys,m,z,hl,p,f⟩:=gT Xv h;obtain ⟨A,B,r⟩:=f 0 _ rfl;obtain ⟨C,D,s⟩:=f 1 _ rfl;obtain ⟨E,F,t⟩:=f 2 _ rfl;obtain ⟨G,I,w⟩:=f 3 _ rfl;have hys4:=Ww p B D F I;rw [Ys] at hl
 match cs,hl with
 | [v0,v1,v2,v3],_ =>
  rw [show Tryz.prog.cellsOf (26,0).1=1 from Yh] at r;rw [show Tryz.prog.cellsOf (26,1).1=1 from Yh] at s;rw [show Tryz.prog.cellsOf (27,2).1=1 from YA] at t;rw [show Tryz.prog.cellsOf (28,3).1=1 from YN] at w;obtain ⟨p0,l0,J,g,b0,e0,s0,m0⟩:=open_slice T7 X4 (QI W.heap) (fun cs y n h=>CI h) r;obtain ⟨K,L,M,i,b1,N,k,m1⟩:=open_slice T7 X4 (QI W.heap) (fun cs y n h=>CI h) s;obtain ⟨O,P,Q,j,b2,R,l,m2⟩:=open_slice TR Yx (QE W.heap) (fun cs y n h=>Pu h) t;obtain ⟨S,U,V,u3,b3,X,q,m3⟩:=open_slice y5 c9 QS (fun cs y n h=>NH h) w;cases e0; cases N; cases R; cases X;have hb:Rows.uptoBulk y.1=Rows.uptoBulk A.1+Rows.uptoBulk C.1+Rows.uptoBulk E.1+Rows.uptoBulk G.1+1:=by
   rw [z,hys4];simp only [List.map_cons,List.map_nil,Rows.uptoBulk,Rows.uptoBulkAll];omega
  obtain ⟨Y,Z,w0⟩:=Jk s0 ad;obtain ⟨x1,n1,w1⟩:=Jk k ad;obtain ⟨x2,n2,w2⟩:=SO l ad;obtain ⟨x3,w3⟩:=SS q ad;refine ⟨⟨p0,l0,J⟩,⟨K,L,M⟩,⟨O,P,Q⟩,⟨S,U,V⟩,⟨g,i,j,u3⟩,rfl,⟨Y,x1,x2,x3⟩,⟨Z,n1,n2⟩,?_,⟨fun x o=>by have:=(ye s0).1 x o; omega,fun x o=>by have:=(ye k).1 x o; omega,fun x o=>by have:=(H9 l).1 x o; omega,by have:=PP q; show u3.length<=_; omega,by have:=(ye s0).2; show g.length<=_; omega,by have:=(ye k).2; show i.length<=_; omega,by have:=(H9 l).2; show j.length<=_; omega⟩,s0.cap,?_,?_,ad⟩
  ·show (O5++(DK Jb g++(DK Jb i++(DK Nh j++DK jJ u3)))).length<=_;unfold DK;simp only [List.length_append,dN];rw [show O5.length=5 from rfl];omega
  ·show 3*((Lk.cO ⟨g,i,j,u3⟩).flatMap (·.ah)).length<=_;have i0:=NX s0;have i1:=NX k;have i2:=Uj l;rw [Vj] at i0 i1 i2;unfold Lk.cO;rw [bb9,bb9,Y0,Y0,List.flatMap_map,List.flatMap_map,List.flatMap_map,bw9,bw9,bw9];show 3*((g.map fun x=>x.e.ah.length).sum+(i.map fun x=>x.e.ah.length).sum+(j.map fun x=>x.2.ah.length).sum)<=_;omega
  ·have i0:=(ye s0).2;have i1:=(ye k).2;have i2:=(H9 l).2;have i3:=PP q;show g.length+i.length+j.length+u3.length<=_;omega
def N1:Tryz.prog.underlying 22=some (.slice 30):=aw
def QU (h:Hp) (u:bU) (cs:List Xab) (k:Nat):Prop:=k<=2^50->∃ a b c d,cs=[cd.v a,cd.v b,cd.v c,cd.v d]/\Kn h a b c d u k
def O' (h:DataW.trod enc Xaz W base sp held n 30 cs=some y):∃ u,QU W.heap u cs (Rows.uptoBulk y.1):=by
 by_cases hk:Rows.uptoBulk y.1<=2^50
 ·obtain ⟨a,b,c,d,u,h1,h2⟩:=zM h hk;exact ⟨u,fun _=>⟨a,b,c,d,h1,h2⟩⟩
 ·exact ⟨⟨[],[],[],[]⟩,fun h=>absurd h hk⟩
structure V9 (h:Hp) (p:Xac) (l c:Nat) (us:List bU) (N:Nat):Prop where
 vw:wh h p l us
 sm:N<=2^20->Lk.IJ us
 WG:3*((us.flatMap Lk.cO).flatMap (·.ah)).length<=N
 cap:l<=c
 V0:c<=maxLen
 nil:p=none->c=0
def IK {b0:Nat} {v:Xab} {d:DataW H} {ps:List MemPlace} (j:Value.okWide Xaz W .any b0 22 v) (h:DataW.Trod enc Xaz W base sp held 22 v d ps) (z:Rows.uptoBulk d<=2^50) :
  ∃ p l c us,v=.slice p l c/\V9 W.heap p l c us (Rows.uptoBulk d):=by
 obtain ⟨p,l,c,rfl⟩:=okWide_slice N1 j;obtain ⟨m,h⟩:=h;have f:(Value.slice p l c).cells.toList=[.slice p l c]:=rfl;rw [f] at h;obtain ⟨p',l',c',us,ks,e0,s,o⟩:=open_slice N1 Ys (QU W.heap) (fun cs y n h=>O' h) h;cases e0;have hl:=s.B9;have o:ks.sum+1<=Rows.uptoBulk d:=o;have q:∀ i,(hi:i<us.length)->∃ a sa sb sc sd,p=some a/\aI W.heap (a.add (i*4)) 0 [cd.v sa,cd.v sb,cd.v sc,cd.v sd]/\Kn W.heap sa sb sc sd us[i] (ks[i]'ad):=by
  intro i hi;obtain ⟨a,cs,g,hc,r⟩:=s.cells i hi ad
  have:=tN ks i ad
  obtain ⟨sa,sb,sc,sd,rfl,b⟩:=r ad;exact ⟨a,sa,sb,sc,sd,g,hc,b⟩
 have pos:∀ i,(hi:i<us.length)->1<=ks[i]'ad:=by
  intro i hi;obtain ⟨a,sa,sb,sc,sd,g,hc,b⟩:=q i hi;exact Ua b
 have A:us.length<=ks.sum:=by
  have:=iM (fun _=>1) 1 us ks hl (fun i hi hk=>by have:=pos i hi; omega)
  rw [kJ] at this;omega
 have t:3*((us.flatMap Lk.cO).flatMap (·.ah)).length<=ks.sum:=by
  have:=iM (fun u:bU=>3*((Lk.cO u).flatMap (·.ah)).length) 1 us ks hl (fun i hi hk=>by
   obtain ⟨a,sa,sb,sc,sd,g,hc,b⟩:=q i hi
   have:=b.WG
   omega)
  rw [Vj] at this;rw [List.flatMap_assoc,bw9];omega
 refine ⟨p,l,c,us,rfl,⟨⟨s.len,ad,fun i hi=>?_⟩,fun w=>⟨ad,?_,?_,ad⟩,ad,s.cap,s.V0,s.nil⟩⟩
 ·obtain ⟨a,sa,sb,sc,sd,g,hc,b⟩:=q i hi;exact ⟨a,sa,sb,sc,sd,g,hc,b.at_⟩
 ·have:=iM (fun u:bU=>u.text.length+u.data.length+u.bf.length+u.aQ.length) 1 us ks hl (fun i hi hk=>by
   obtain ⟨a,sa,sb,sc,sd,g,hc,b⟩:=q i hi
   have:=b.j6
   omega)
  unfold Lk.uu;omega
 ·refine wR fun i hi=>?_
  obtain ⟨a,sa,sb,sc,sd,g,hc,b⟩:=q i hi;intro x k;unfold Lk.cO at k;simp only [List.mem_append,List.mem_map] at k;rcases k with (⟨y,e,rfl⟩ | ⟨y,e,rfl⟩) | ⟨y,e,rfl⟩
  ·exact ⟨(b.num.text y e).num,(b.num.text y e).GF⟩
  ·exact ⟨(b.num.data y e).num,(b.num.data y e).GF⟩
  ·exact ⟨(b.num.bf y e).num,(b.num.bf y e).GF⟩
end
def MP (h:laidMetH Xaz Rows.linkNumbersRow.laid V):∃ e f,V.heap[0]?=some (.cells Cr.opsV.toArray e f):=by
 rw [MakeChecks.laidMetH_plain _ _ _ aw] at h;obtain ⟨ps,⟨C,D,j,E,p0,F,k,l,m,n,⟨G,H,o,I,J,K,p,q,r,s,⟨L,M,t,N,O,P,u,w,x,y,⟨Q,R,z,S,U,X,a,b,c,d,_,_⟩,_⟩,_⟩,_⟩,_,_⟩:=h;obtain rfl:=Zl ((show Tryz.prog.globalNamed _=some 0 from aw).symm.trans a);have A:(Tryz.prog.globals[0]?).map (·.type)=some 193:=aw
 obtain rfl:=Zl (A.symm.trans b);have hr:=Dj d;obtain ⟨B,g,i⟩:=D8 a c;exact ⟨B,g,by rw [i,show Cr.opsV=mf wB xv from rfl,<- hr]⟩
open Go.ChangeMaps
def Bg:(Tryz.f5.params.toList.all fun t=>decide (t<Tryz.prog.types.size))=true:=aw
def By:Tryz.prog.inPlace 5=Rows.linkKeptUptoRow.inPlace:=aw
def AS:Tryz.prog.unfollowed 5=Rows.linkKeptUptoRow.unfollowed:=aw
def BP:Tryz.prog.recurses 5=Rows.linkKeptUptoRow.recurses:=aw
def BE:Tryz.prog.varsNamed 5=Rows.linkKeptUptoRow.named:=aw
def Bz:joinedFacts Xaz 5 Tryz.f5 (Rows.OpenSpec.upto Rows.linkKeptSpec).bare Rows.linkKeptUptoRow=true:=by
 unfold joinedFacts;rw [By,AS,BP,BE]
 kernel_rfl
def zZ (os:Os) (started:os.Started) (H:Type) (enc:TypeId × Xab->H) (F:Stop.Interp) :
  ReturnsInHanded {} Tryz.checked os 5 .any (fun w args=>((Rows.OpenSpec.upto Rows.linkKeptSpec).pre enc Xaz Tryz.f5 [] false w args/\laidMetH Xaz Rows.linkKeptUptoRow.laid w)/\sizedMet enc Xaz Tryz.f5 (Rows.OpenSpec.upto Rows.linkKeptSpec) false w args)
   (((Rows.OpenSpec.upto Rows.linkKeptSpec).at F).post enc Xaz Tryz.f5 false true false false):=by
 refine NB (k:=Rows.uptoSmall) rfl (C:=Tryz.checked) (X:=fun w _=>laidMetH Xaz Rows.linkKeptUptoRow.laid w) (fun _ _ _ m h=>h.of_heap m) XX started aw Tryz.func5
  (HN (k:=Rows.uptoSmall) rfl (C:=Tryz.checked) (os:=os) (X:=fun w _=>laidMetH Xaz Rows.linkKeptUptoRow.laid w) (World.doorLaid Xaz 400 os) #[.slice none 0 0] 8 rfl (World.shaped_of_RefB aw aw) aw (x:=([.nil],[],[])) aw rfl aw (PO os _)) ?_
 intro W base args n I before a l hk f;have b:∀ (j:Nat) t v,Tryz.f5.params[j]?=some t->args[j]?=some v->Value.okWide Xaz W .any base t v:=a
 have hW':=l;obtain ⟨p,q,c,o,rfl,r,s⟩:=l;have hA:DataW.TrodAll enc Xaz W 0 (fun _=>true) true Tryz.f5.params.toList args.toList n p:=c;have g:Tryz.f5.params=#[22]:=aw
 rw [g] at hA b;clear c a;obtain ⟨u,y,J,z,p0,K,d,rfl,rfl,A,i⟩:=trodAll_cons hA;obtain ⟨rfl,rfl,rfl⟩:=trodAll_nil i;obtain ⟨args⟩:=args;simp only at d;subst d;have hk:=Y3 hk;have hkb:=hk;simp only [List.append_nil,nA,cA] at hkb;obtain ⟨rfl,rfl⟩:=trodVars_none o;obtain ⟨B,l0,c0,L,rfl,h0⟩:=IK (b 0 22 u rfl rfl) A (by simp only [Rows.uptoBulkAll] at hkb; omega);simp only [List.append_nil] at hW';simp only [List.append_nil,List.nil_append,List.cons_append,Rows.uptoBulkAll] at hk;refine (PC (Lk.Qz (Jp f).2 (Jp f).1 (MP f) (su:=⟨B,l0,c0⟩) h0.vw (h0.sm ad)) (fun _ _ h=>h.2)).mono fun e M ⟨v,D,E,hv,_⟩=>?_
 subst D hv;exact ⟨_,rfl,Oa rfl hW' (fun _ _ _=>trodAll_mk1 (shut_bool u4 _)) rfl rfl (fun t G=>Y3 (Zx.1 Bg t G)) E⟩
def Ay:Rows.LinkKeptUptoSaid :=
 OpenClaim.holds_of_cond 5 Tryz.f5 rfl rfl rfl rfl rfl rfl rfl ⟨rfl,rfl,rfl,rfl,rfl⟩ rfl rfl rfl rfl rfl aw Tryz.func5 Bz
  (Y3 aw) (by unfold Func.isWrapper; first | (rw [Y8 (by decide +kernel)]; kernel_rfl) | (rw [Y1 (by decide +kernel)]; exact ⟨rfl,rfl⟩))
  (fun os started H enc _ F=>zZ os started H enc F)
end Go.Sx.Ob
