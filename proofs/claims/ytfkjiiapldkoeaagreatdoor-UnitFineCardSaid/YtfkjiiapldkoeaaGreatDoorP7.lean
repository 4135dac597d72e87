/- Contracts over heaps, and plain laws, for the functions that the laws of chapter 9 call, part 7: slices.Sort of texts over heaps; append to a list that is clipped; unit.Names. a Condition: as each statement says. -/
import Derived.Test.YtfkjiiapldkoeaaGreatDoorP6
import Derived.Test.YtfkjiiapldkoeaaGreatDoorAtP
import Derived.Test.YtfkjiiapldkoeaaGreatDoorAtT
import Derived.Test.YtfkjiiapldkoeaaGreatDoorAtU
import Derived.HandedShaped
import Derived.Shelf.Vars
import Derived.LaidHandle
import Derived.Test.YtfkjiiapldkoeaaGreatDoorTie
import Derived.Test.YtfkjiiapldkoeaaGreatDoorCards
import Derived.SevenTiedAt
set_option linter.unusedVariables false
set_option linter.unusedSimpArgs false
set_option maxRecDepth 100000
namespace Go.Sx
open Go.Proofs Go.Sort Go.Maps Go.Sx.Ob
namespace Ob
end Ob
end Go.Sx
set_option linter.unusedVariables false
set_option linter.unusedSimpArgs false
set_option maxRecDepth 100000
namespace Go.Sx.Ob
open Go.Proofs
theorem vg {h:Hp} {a:Addr}:∀ (vs:List Value) (o i:Nat),aH h (a.add o) i vs→aH h a (o+i) vs
 | [],o,i,_=>trivial
 | v::vs,o,i,⟨h1,h2⟩=>⟨by rw [← add_add]; exact h1,by have:=vg vs o (i+1) h2; rwa [← Nat.add_assoc] at this⟩
theorem yg {h:Hp} {a:Addr}:∀ (A B:List Value) (i:Nat),aH h a i A→aH h a (i+A.length) B→aH h a i (A++B)
 | [],B,i,_,hb=>by simpa using hb
 | v::A,B,i,⟨h1,h2⟩,hb=>⟨h1,yg A B (i+1) h2 (by rw [show i+1+A.length=i+(v::A).length by simp; omega]; exact hb)⟩
theorem uO {h:Hp} {a:Addr} {sz:Nat} {P:Nat→List Value→Prop}:∀ n:Nat,(∀ i,i<n→∃ ys,ys.length=sz∧aH h (a.add (i*sz)) 0 ys∧P i ys) →
  ∃ xs:List (List Value),xs.length=n∧(∀ y,y∈xs→y.length=sz)∧aH h a 0 xs.flatten∧xs.flatten.length=n*sz∧∀ i,(hi:i<xs.length)→P i xs[i]
 | 0,_=>⟨[],rfl,by simp,trivial,by simp,fun i hi=>absurd hi (by simp)⟩
 | n+1,hc=>by
  obtain ⟨xs,h1,h2,h3,h4,h5⟩:=uO n fun i hi=>hc i (by omega)
  obtain ⟨ys,g1,g2,g3⟩:=hc n (by omega);refine ⟨xs++[ys],by simp [h1],fun y hy=>?_,?_,?_,fun i hi=>?_⟩
  ·rcases List.mem_append.1 hy with hy | hy
   ·exact h2 y hy
   ·rw [List.mem_singleton.1 hy]; exact g1
  ·rw [List.flatten_append];refine yg _ _ _ h3 ?_
   have:=vg _ _ _ g2
   simpa [h4] using this
  ·rw [List.flatten_append,List.length_append,h4];simp [g1,Nat.add_mul]
  ·rw [List.length_append] at hi
   by_cases hl:i<xs.length
   ·rw [List.getElem_append_left hl];exact h5 i hl
   ·have:i=n:=by simp at hi; omega
    subst this;rw [List.getElem_append_right (by omega)];simpa [h1] using g3
def G2 (h:Hp) (p:Option Addr) (us:List bC):Prop:=∀ i,(hi:i<us.length)→∃ a q m c,p=some a∧aH h (a.add (i*10)) 0 (encI q m c us[i])
theorem G2.ah {h h':Hp} {p:Option Addr} {us:List bC} (v:G2 h p us) (k:Ext h h'):G2 h' p us:=fun i hi=>by
 obtain ⟨a,q,m,c,ha,hc⟩:=v i hi;exact ⟨a,q,m,c,ha,bt k (by simp) _ _ hc⟩
theorem G2.join {h:Hp} {p:Option Addr} {us:List bC} (v:G2 h p us) (hn:0<us.length):∃ (a:Addr) (xs:List (List Value)),p=some a∧xs.length=us.length∧(∀ y,y∈xs→y.length=10)∧aH h a 0 xs.flatten∧∀ i,(hi:i<us.length)→(hi':i<xs.length)→∃ q m c,xs[i]=encI q m c us[i]:=by
 obtain ⟨a,q,m,c,ha,hc⟩:=v 0 hn;obtain ⟨xs,h1,h2,h3,h4,h5⟩:=uO (h:=h) (a:=a) (sz:=10) (P:=fun i ys=>∀ hi:i<us.length,∃ q m c,ys=encI q m c us[i]) us.length (fun i hi=>by
  obtain ⟨a',q,m,c,ha',hc⟩:=v i hi;rw [ha] at ha';cases ha';exact ⟨_,rfl,hc,fun _=>⟨q,m,c,rfl⟩⟩)
 exact ⟨a,xs,ha,h1,h2,h3,fun i hi hi'=>h5 i hi' hi⟩
end Go.Sx.Ob
set_option linter.unusedVariables false
set_option maxRecDepth 100000
namespace Go.Sx
open Go.Proofs
end Go.Sx
set_option linter.unusedVariables false
set_option linter.unusedSimpArgs false
set_option maxRecDepth 100000
namespace Go.Sx.Ob
open Go.Proofs
abbrev Kl:=Ls 96 10 (fun s x=>encI s.p s.l s.c x) (fun x:bC=>x.e.aw) (fun _=>True)
abbrev LD:=Ls 99 3 (fun s (x:lz)=>Ho s.p s.l s.c x) (fun x=>x.2.aw) (fun _=>True)
theorem py {h:Hp} {a:Addr}:∀ (xs:List ByteArray) (k:Nat),(∀ i,(hi:i<xs.length)→aH h (a.add ((k+i)*1)) 0 [.string xs[i]])→aH h a k (xs.map Hv).flatten
 | [],_,_=>trivial
 | x::xs,k,hc=>by
  refine ⟨?_,?_⟩
  ·have:=(hc 0 (by simp)).1
   rw [add_add] at this;simpa using this
  ·refine py xs (k+1) fun i hi=>?_
   have:=hc (i+1) (by simpa using hi)
   rw [show k+1+i=k+(i+1) by omega];simpa using this
theorem Fp.flat {h:Hp} {a:Addr} {l:Nat} {xs:List ByteArray} (v:Fp h (some a) l xs):aH h a 0 (xs.map Hv).flatten :=
 py xs 0 fun i hi=>by
  obtain ⟨b,hb,hc,_⟩:=v.cells i hi;cases hb;rw [Nat.zero_add];exact hc
structure CU (h0:Hp) (a b c d:bL) (h:Hp):Prop where
 b1:aO h h0.size 27 [a.v,b.v,c.v,d.v]
 b2:aO h (h0.size+1) 27 zU
 ext:Ext h0 h
section
variable {h0 h h':Hp} {a b c d:bL}
theorem CU.ah (s:CU h0 a b c d h) (e:Ext h h'):CU h0 a b c d h':=⟨s.b1.ah e (by simp),s.b2.ah e (by simp),s.ext.trans e⟩
theorem CU.c0 (s:CU h0 a b c d h):aH h ⟨h0.size,0,none⟩ 0 [a.v]:=s.b1.cells _ rfl
theorem CU.c1 (s:CU h0 a b c d h):aH h (Addr.add ⟨h0.size,0,none⟩ 1) 0 [b.v]:=by rw [ao]; exact s.b1.cells _ rfl
theorem CU.c3 (s:CU h0 a b c d h):aH h (Addr.add ⟨h0.size,0,none⟩ 3) 0 [d.v]:=by rw [ao]; exact s.b1.cells _ rfl
theorem CU.sz (s:CU h0 a b c d h):h0.size+2≤h.size:=by have:=s.b2.lt; omega
end
def Ji (u:ig) (h:Hp) (w:Value) (h':Hp):Prop :=
 (∃ (a b c d:bL) (wT wD:List (bL × bC)) (wE:List (bL × lz)),w=oD a b c d∧Kl h' h.size a.p a.l a.c wT∧Kl h' h.size b.p b.l b.c wD∧LD h' h.size c.p c.l c.c wE∧SN h' h.size d.p d.l d.c u.aF∧wT.map (·.2)=u.text∧wD.map (·.2)=u.data∧wE.map (·.2)=u.aV)∧Ext h h'
section
variable {L:Lp} {K:Value→Hp→Prop} {h0 h:Hp}
end
theorem SL.LA {h:Hp} {b:Nat} {e:TypeId} {sz:Nat} {p:Option Addr} {l c:Nat} {xs:List (List Value)} (s:SL h b e sz p l c xs):l≤c:=by
 cases p with
 | none =>
  have h2:=s.2.2.2;have h3:=s.1;rw [h2] at h3;simp at h3;omega
 | some a =>
  obtain ⟨g,pre,rest,rfl,hbg,hlc,_⟩:=s.2.2;exact hlc.1
theorem Hz.take {h:Hp} {p:Option Addr} {l:Nat} {bs:Bt} (v:Hz h p l bs) {n:Nat} (hn:n≤l):Hz h p n (bs.take n):=by
 have hl:=v.len;refine ⟨by rw [List.length_take]; omega,fun i hi=>?_⟩;rw [List.length_take] at hi;obtain ⟨a,ha,hc⟩:=v.cells i (by omega);rw [List.getElem_take];exact ⟨a,ha,hc⟩
theorem ph {h:Hp} {a:Addr}:∀ (bs:Bt) (k:Nat),(∀ i,(hi:i<bs.length)→aH h (a.add ((k+i)*1)) 0 [.int .u8 (bs[i].toNat:Int)])→aH h a k (to bs).flatten
 | [],_,_=>trivial
 | t::us,k,hc=>by
  have h0:=hc 0 (by simp);obtain ⟨h1,_⟩:=h0;rw [add_add] at h1;refine ⟨by simpa using h1,ph us (k+1) fun i hi=>?_⟩
  have:=hc (i+1) (by simpa using hi)
  rw [show k+(i+1)=k+1+i by omega] at this;exact this
theorem Hz.flat {h:Hp} {a:Addr} {l:Nat} {bs:Bt} (v:Hz h (some a) l bs):aH h a 0 (to bs).flatten:=by
 refine ph bs 0 fun i hi=>?_
 obtain ⟨a',e,hc⟩:=v.cells i hi;cases e;rw [Nat.zero_add];exact hc
theorem fO.zero (h:Hp):fO h fW fW fW fW oK:=⟨⟨rfl,by decide,fun i hi=>by cases hi⟩,⟨rfl,by decide,fun i hi=>by cases hi⟩,⟨rfl,by decide,fun i hi=>by cases hi⟩,⟨rfl,by decide,fun i hi=>by cases hi⟩⟩
end Go.Sx.Ob
set_option linter.unusedVariables false
set_option maxRecDepth 100000
namespace Go.Sx.BB
open Go.Sx Go.Sx.Ob
open Go.Proofs
structure rS where
 p:Option Addr
 l:Nat
 c:Nat
 q:Option Addr
 d:Nat
 ts:Bt
def rS.one (e:rS):List Value:=[.slice e.p e.l e.c]
def rS.two (e:rS):List Value:=[.slice e.q e.l e.d]
def rS.Bq (e:rS):List Nat:=az e.p++az e.q
theorem sn (p:Option Addr) (k:Nat):az (p.map fun a=>a.add k)=az p:=by
 cases p with
 | none=>rfl
 | some a=>simp [az,gN]
def dK (b:Nat) (h h':Hp):Prop:=h.size≤h'.size∧∀ i,i<b→i<h.size→h'[i]?=h[i]?
theorem dK.of {ws:List Nat} {b:Nat} {h h':Hp} (k:Ch ws h h') (hw:∀ i,i∈ws→i<h.size→b≤i):dK b h h' :=
 ⟨k.size,fun i hi hl=>k.same i hl fun hm=>by have:=hw i hm hl; omega⟩
theorem dK.trans {b:Nat} {h h1 h2:Hp} (a:dK b h h1) (c:dK b h1 h2):dK b h h2 :=
 ⟨Nat.le_trans a.1 c.1,fun i hi hl=>(c.2 i hi (Nat.lt_of_lt_of_le hl a.1)).trans (a.2 i hi hl)⟩
theorem dK.ext {h h1 h2:Hp} (a:Ext h h1) (c:dK h.size h1 h2):Ext h h2 :=
 ⟨Nat.le_trans a.size c.1,fun i hi _=>(c.2 i hi (Nat.lt_of_lt_of_le hi a.size)).trans (a.same i hi (by simp))⟩
def LW (i j:Int):Int:=IntKind.wrap .u8 (Int.fdiv (IntKind.wrap .i64 (i+(1:Int))) ((2:Int)^(min (IntKind.u64.wrap (IntKind.i64.wrap (8*j.tmod 3))).toNat IntKind.i64.bits)))
def KE (k j:Nat):List Value:=[.int .u8 (LW k j)]
def Room (h:Hp) (b:Nat) (p:Option Addr) (c k m:Nat):Prop :=
 match p with
 | none=>c=0
 | some a=>∃ g o cells,a=⟨g,o,none⟩∧b≤g∧c<9223372036854775808∧aO h g 5 cells∧o+c*1≤cells.length∧∀ j,j<m→(cells.drop (o+j*1)).take 1=KE k j
theorem Room.ah {ws:List Nat} {h h':Hp} {b:Nat} {p:Option Addr} {c k m:Nat} (r:Room h b p c k m) (kk:Ch ws h h') (hw:∀ i,i∈az p→i∉ws):Room h' b p c k m:=by
 cases p with
 | none=>exact r
 | some a =>
  obtain ⟨g,o,cells,rfl,hbg,hc,hbox,hr,hm⟩:=r;exact ⟨g,o,cells,rfl,hbg,hc,hbox.ah kk (hw g (by simp [az])),hr,hm⟩
end Go.Sx.BB
set_option linter.unusedVariables false
set_option linter.unusedSimpArgs false
set_option maxRecDepth 100000
namespace Go.Sx.Ob
open Go.Proofs
variable {h2 h1:Hp}
def Ix (lo hi:Nat) (h h':Hp):Prop:=h.size≤h'.size∧∀ i,i<h.size→(i<lo∨hi≤i)→h'[i]?=h[i]?
theorem Ix.refl (lo hi:Nat) (h:Hp):Ix lo hi h h:=⟨Nat.le_refl _,fun _ _ _=>rfl⟩
theorem Ix.step {lo hi:Nat} {h:Hp} {ws:List Nat} (b:Ix lo hi h h1) (k:Ch ws h1 h2) (hw:∀ i,i∈ws→i<h.size→lo≤i∧i<hi):Ix lo hi h h2 :=
 ⟨Nat.le_trans b.1 k.size,fun i hi hb=>(k.same i (Nat.lt_of_lt_of_le hi b.1) (fun hm=>by have:=hw i hm hi; omega)).trans (b.2 i hi hb)⟩
theorem Ix.box {lo hi:Nat} {h h':Hp} (b:Ix lo hi h h') {g:Nat} {e:TypeId} {xs:List Value} (bx:aO h g e xs) (hg:g<lo∨hi≤g):aO h' g e xs:=(b.2 g bx.lt hg).trans bx
def Kp (hq h':Hp):Prop:=∀ g cells,aO hq g 109 cells→∃ cells',aO h' g 109 cells'∧cells'.length=cells.length
theorem Kp.ah {hq:Hp} {ws:List Nat} (s:Kp hq h1) (k:Ch ws h1 h2) (hw:∀ i,i∈ws→i<h1.size→∃ e ys,aO h1 i e ys∧e≠109):Kp hq h2:=by
 intro g cells b;obtain ⟨c',b',hl⟩:=s g cells b;refine ⟨c',b'.ah k (fun hm=>?_),hl⟩;obtain ⟨e,ys,b2,he⟩:=hw g hm b'.lt;unfold aO at b' b2;rw [b'] at b2;simp only [Option.some.injEq,Obj.cells.injEq] at b2;exact he b2.2.1.symm
theorem Kp.store {hq:Hp} {g:Nat} {cells cells':List Value} (s:Kp hq h1) (b1:aO h1 g 109 cells) (b2:aO h2 g 109 cells') (hl:cells'.length=cells.length) (k:Ch [g] h1 h2):Kp hq h2:=by
 intro g' cs b;obtain ⟨c',b',hc⟩:=s g' cs b
 by_cases hg:g'=g
 ·subst hg;refine ⟨cells',b2,?_⟩;unfold aO at b1 b';rw [b1] at b';simp only [Option.some.injEq,Obj.cells.injEq] at b'
  have:=congrArg Array.size b'.1
  simp at this;omega
 ·exact ⟨c',b'.ah k (by simpa using hg),hc⟩
theorem Gv {L:Lp} {K:Value→Hp→Prop} {h:Hp} {a:Addr} {l c:Nat} {bs:List UInt8} {k:ByteArray→T} (hl:l=bs.length) (hc:aH h a 0 (bs.map fun b=>Value.int .u8 (b.toNat:Int))) (hk:k ⟨bs.toArray⟩ L K h) :
  T.aY Tryz.prog (convert 42 9 (.slice (some a) l c)) false [(false,[.string])] k L K h:=by
 subst hl;show aD Tryz.prog (convert 42 9 (.slice (some a) bs.length c)) h _;unfold convert;rw [aj,ay Cz,aj,ay Jd];show aD Tryz.prog (do match ← underlying 5 with
  | .int .u8=>Conv.bytesToString (.slice (some a) bs.length c)
  | .int .i32=>Conv.runesToString (.slice (some a) bs.length c)
  | _ => stuck "Convert: a slice of what to string?") h _
 rw [aj,ay Jq];exact xN a bs c _ hc ⟨(⟨bs.toArray⟩,()),rfl,hk⟩
end Go.Sx.Ob
set_option linter.unusedVariables false
set_option maxRecDepth 100000
namespace Go.Sx.BS
open Go.Sx Go.Sx.Ob
open Go.Proofs
variable {h':Hp} {ws:List Nat}
structure rS where
 p:Option Addr
 l:Nat
 c:Nat
 q:Option Addr
 d:Nat
 ts:List ByteArray
def rS.one (e:rS):List Value:=[.slice e.p e.l e.c]
def rS.two (e:rS):List Value:=[.slice e.q e.l e.d]
def rS.Bq (e:rS):List Nat:=az e.p++az e.q
structure G9 (h:Hp) (gb b:Nat) (pl:Option Addr) (cl:Nat) (pw:Option Addr) (cw:Nat) (es:List rS):Prop where
 box:∃ held:Int,aO h gb 55 [.slice pl es.length cl,.slice pw es.length cw,.int .i64 held,.bool false]
 ge:b≤gb
 one:SL h b 25 1 pl es.length cl (es.map rS.one)
 two:SL h b 25 1 pw es.length cw (es.map rS.two)
 KH:∀ e,e∈es→SL h b 9 1 e.p e.l e.c (e.ts.map Hv)∧SL h b 9 1 e.q e.l e.d (e.ts.map Hv)∧e.ts.length≤2^40
 MT:gb∉az pl
 MP:gb∉az pw
 MV:∀ i,i∈az pl→i∉az pw
 eg:∀ e,e∈es→∀ i,i∈e.Bq→i≠gb∧i∉az pl∧i∉az pw
 pq:∀ e,e∈es→∀ i,i∈az e.p→i∉az e.q
 ee:es.Pairwise fun e f=>∀ i,i∈e.Bq→i∉f.Bq
theorem G9.lt {h:Hp} {gb b:Nat} {pl:Option Addr} {cl:Nat} {pw:Option Addr} {cw:Nat} {es:List rS} (B:G9 h gb b pl cl pw cw es):gb<h.size∧(∀ i,i∈az pl→i<h.size)∧(∀ i,i∈az pw→i<h.size)∧∀ e,e∈es→∀ i,i∈e.Bq→i<h.size:=by
 obtain ⟨held,hb⟩:=B.box;refine ⟨hb.lt,fun i hi=>(B.one.bO hi).2,fun i hi=>(B.two.bO hi).2,fun e he i hi=>?_⟩;rcases List.mem_append.1 hi with hi | hi
 ·exact ((B.KH e he).1.bO hi).2
 ·exact ((B.KH e he).2.1.bO hi).2
theorem G9.ah {h:Hp} {gb b:Nat} {pl:Option Addr} {cl:Nat} {pw:Option Addr} {cw:Nat} {es:List rS} (B:G9 h gb b pl cl pw cw es) (k:Ch ws h h')
  (h1:gb∉ws) (h2:∀ i,i∈az pl→i∉ws) (h3:∀ i,i∈az pw→i∉ws) (h4:∀ e,e∈es→∀ i,i∈e.Bq→i∉ws):G9 h' gb b pl cl pw cw es:=by
 obtain ⟨held,hb⟩:=B.box;exact ⟨⟨held,hb.ah k h1⟩,B.ge,B.one.aT k h2,B.two.aT k h3,fun e he=>⟨(B.KH e he).1.aT k fun i hi=>h4 e he i (List.mem_append_left _ hi),(B.KH e he).2.1.aT k fun i hi=>h4 e he i (List.mem_append_right _ hi),(B.KH e he).2.2⟩,
  B.MT,B.MP,B.MV,B.eg,B.pq,B.ee⟩
theorem sn (p:Option Addr) (k:Nat):az (p.map fun a=>a.add k)=az p:=by
 cases p with
 | none=>rfl
 | some a=>simp [az,gN]
def dK (b:Nat) (h h':Hp):Prop:=h.size≤h'.size∧∀ i,i<b→i<h.size→h'[i]?=h[i]?
theorem dK.of {b:Nat} {h:Hp} (k:Ch ws h h') (hw:∀ i,i∈ws→i<h.size→b≤i):dK b h h' :=
 ⟨k.size,fun i hi hl=>k.same i hl fun hm=>by have:=hw i hm hl; omega⟩
theorem dK.trans {b:Nat} {h h1 h2:Hp} (a:dK b h h1) (c:dK b h1 h2):dK b h h2 :=
 ⟨Nat.le_trans a.1 c.1,fun i hi hl=>(c.2 i hi (Nat.lt_of_lt_of_le hl a.1)).trans (a.2 i hi hl)⟩
theorem dK.ext {h h1 h2:Hp} (a:Ext h h1) (c:dK h.size h1 h2):Ext h h2 :=
 ⟨Nat.le_trans a.size c.1,fun i hi _=>(c.2 i hi (Nat.lt_of_lt_of_le hi a.size)).trans (a.same i hi (by simp))⟩
def b8 (x:Int):UInt8:=UInt8.ofNat (IntKind.wrap .u8 x).toNat
def LW (i:Int):ByteArray:=(⟨#[109,97,114,107,32]⟩:ByteArray)++(⟨[b8 i,b8 (Int.fdiv i 256),b8 (Int.fdiv i 65536)].toArray⟩:ByteArray)
def KE (k j:Nat):List Value:=[.string (LW k)]
def Room (h:Hp) (b:Nat) (p:Option Addr) (c k m:Nat):Prop :=
 match p with
 | none=>c=0
 | some a=>∃ g o cells,a=⟨g,o,none⟩∧b≤g∧c<9223372036854775808∧aO h g 9 cells∧o+c*1≤cells.length∧∀ j,j<m→(cells.drop (o+j*1)).take 1=KE k j
theorem Room.ah {h:Hp} {b:Nat} {p:Option Addr} {c k m:Nat} (r:Room h b p c k m) (kk:Ch ws h h') (hw:∀ i,i∈az p→i∉ws):Room h' b p c k m:=by
 cases p with
 | none=>exact r
 | some a =>
  obtain ⟨g,o,cells,rfl,hbg,hc,hbox,hr,hm⟩:=r;exact ⟨g,o,cells,rfl,hbg,hc,hbox.ah kk (hw g (by simp [az])),hr,hm⟩
structure zc (h:Hp) (gb b:Nat) (pl:Option Addr) (cl:Nat) (es:List rS) (i m:Nat):Prop where
 box:∃ (v w:Value),aO h gb 55 [.slice pl es.length cl,v,w,.bool false]
 one:SL h b 25 1 pl es.length cl (es.map rS.one)
 room:∀ k,(hk:k<es.length)→Room h b es[k].p es[k].c k (if k<i then es[k].c else if k=i then m else 0)
theorem zc.ah {h:Hp} {gb b:Nat} {pl:Option Addr} {cl:Nat} {es:List rS} {i m:Nat} (M:zc h gb b pl cl es i m) (k:Ch ws h h') (h1:gb∉ws) (h2:∀ i,i∈az pl→i∉ws) (h3:∀ e,e∈es→∀ i,i∈e.Bq→i∉ws) :
  zc h' gb b pl cl es i m:=by
 obtain ⟨v,w,hb⟩:=M.box;exact ⟨⟨v,w,hb.ah k h1⟩,M.one.aT k h2,fun j hj=>(M.room j hj).ah k fun x hx=>h3 es[j] (List.getElem_mem hj) x (List.mem_append_left _ hx)⟩
end Go.Sx.BS
set_option linter.unusedVariables false
set_option linter.unusedSimpArgs false
set_option maxRecDepth 100000
namespace Go.Sx.Ob
open Go.Proofs Go.Sx.BB
variable {p0:Option Addr} {l0:Nat}
theorem Kl.at {h h0:Hp} {b:Nat} {p:Option Addr} {l c:Nat} {ws:List (bL × bC)} {us:List bC} (s:Kl h b p l c ws) (hu:ws.map (·.2)=us) (v:Cs h0 p0 l0 us):Cs h p l us:=by
 subst hu;refine ⟨by rw [s.len,List.length_map],v.many,fun i hi=>?_⟩;obtain ⟨_,_,_,_,_,_,v0⟩:=v.cells i hi;rw [List.length_map] at hi;obtain ⟨a,ha,hc⟩:=SL.at_ s.sl (i:=i) (by rw [List.length_map]; exact hi);rw [List.getElem_map] at hc v0 ⊢;exact ⟨a,_,_,_,ha,hc,⟨⟨Sx.SL.FL (s.own _ (List.getElem_mem hi)),v0.wZ.many,v0.wZ.names⟩,v0.name,v0.op⟩⟩
theorem LD.at {h h0:Hp} {b:Nat} {p:Option Addr} {l c:Nat} {ws:List (bL × lz)} {us:List lz} (s:LD h b p l c ws) (hu:ws.map (·.2)=us) (v:IV h0 p0 l0 us):IV h p l us:=by
 subst hu;refine ⟨by rw [s.len,List.length_map],v.many,fun i hi=>?_⟩;obtain ⟨_,_,_,_,_,_,v0,n0⟩:=v.cells i hi;rw [List.length_map] at hi;obtain ⟨a,ha,hc⟩:=SL.at_ s.sl (i:=i) (by rw [List.length_map]; exact hi);rw [List.getElem_map] at hc v0 n0 ⊢;exact ⟨a,_,_,_,ha,hc,⟨Sx.SL.FL (s.own _ (List.getElem_mem hi)),v0.many,v0.names⟩,n0⟩
theorem SN.at {h h0:Hp} {b:Nat} {p:Option Addr} {l c:Nat} {us:List ByteArray} (s:SN h b p l c us) (v:Fp h0 p0 l0 us):Fp h p l us:=by
 refine ⟨SN.len s,v.many,fun i hi=>?_⟩;obtain ⟨_,_,_,n0⟩:=v.cells i hi;obtain ⟨a,ha,hc⟩:=SN.cell s hi;exact ⟨a,ha,hc,n0⟩
theorem Ji.at {u:ig} {h h':Hp} {w:Value} {a b c d:bL} (r:Ji u h w h') (v:fO h a b c d u):∃ a' b' c' d':bL,w=oD a' b' c' d'∧fO h' a' b' c' d' u:=by
 obtain ⟨⟨a',b',c',d',wT,wD,wE,rfl,lT,lD,lE,lS,eT,eD,eE⟩,e⟩:=r;exact ⟨a',b',c',d',rfl,⟨Kl.at lT eT v.text,Kl.at lD eD v.data,LD.at lE eE v.aV,SN.at lS v.aF⟩⟩
theorem Ix.ch {lo hi:Nat} {h h':Hp} (b:Ix lo hi h h'):Ch (List.range' lo (hi-lo)) h h' :=
 ⟨b.1,fun i hi hn=>b.2 i hi (by rw [List.mem_range'_1] at hn; omega)⟩
open Go.Proofs
open Go.Proofs Go.Sx.BS
def MH {α:Type} (e:Option α):Bool:=match e with | none=>true | some _=>false
theorem K5 {L:Lp} {K:Value→Hp→Prop} {h h0:Hp} {ev:Value} {e:Option (Nat × Nat)} (E:lX h0 ev e) (o:Nat) {k:Bool→T} (hk:k (MH e) L K h) :
  T.aY Tryz.prog (Sx.bM (BinOp.eql) 29 (Operand.tmp o) (Operand.const Value.nilIface) ev .nilIface) false [(false,[.bool])] k L K h:=by
 cases e with
 | none =>
  have E:ev=.nilIface:=E;subst E;refine bw (b:=true) (fun K' hk'=>?_) hk;rw [J1]; exact hk'
 | some q =>
  obtain ⟨a,rfl,_⟩:=E;refine bw (b:=false) (fun K' hk'=>?_) hk;rw [HK]; exact hk'
theorem G7 {L:Lp} {K:Value→Hp→Prop} {h:Hp} (f:Fx h) {s:ByteArray} (z:rP (sj (df s)).1) {k:Option Addr→Nat→Nat→Option Addr→Nat→Nat→Option Addr→Nat→Nat→Option Addr→Nat→Nat→Value→Addr→T}
  (hk:∀ (a b c d:bL) (ev:Value) h' h'',Ext h h'→ie h' h.size a b c d (sj (df s)).1→LH a b→fO h' a b c d (sj (df s)).1→lX h' ev (qZ (df s))→Ext h' h''→aO h'' h'.size 27 [a.v,b.v,c.v,d.v]→a.l≤a.c→b.l≤b.c →
   k a.p a.l a.c b.p b.l b.c c.p c.l c.c d.p d.l d.c ev ⟨h'.size,0,none⟩ L K h'') :
  T.call Tryz.prog 10 [.string s] true [(true, [.slice 96, .slice 96, .slice 99, .slice 9]), (false, [.interface #[("Error", 85)]])] (fun (p2 : Option Addr) (l3 : Nat) (l4 : Nat) (p5 : Option Addr) (l6 : Nat) (l7 : Nat) (p8 : Option Addr) (l9 : Nat) (l10 : Nat) (p11 : Option Addr) (l12 : Nat) (l13 : Nat) (v14 : Value) =>
   T.new [.slice none 0 0,.slice none 0 0,.slice none 0 0,.slice none 0 0] 27 <| fun (a15:Addr) =>
   T.ap a15 [.slice p2 l3 l4,.slice p5 l6 l7,.slice p8 l9 l10,.slice p11 l12 l13] (k p2 l3 l4 p5 l6 l7 p8 l9 l10 p11 l12 l13 v14 a15)) L K h:=by
 refine aC (f.Ma s) ?_;rintro _ h1 ⟨e1,a,b,c,d,ev,rfl,U,E⟩;refine ⟨((a.p,a.l,a.c),(b.p,b.l,b.c),(c.p,c.l,c.c),(d.p,d.l,d.c),ev,()),rfl,?_⟩;dsimp only [flat,aB,ai,nA,cA];refine aW ?_;intro h2 b2 e2 z2;refine ak b2 rfl (by simp) ?_;intro h3 b3 k3 z3;have b3:aO h3 h1.size 27 [a.v,b.v,c.v,d.v]:=b3;have e13:Ext h1 h3:=Ch.trans e2 k3 (fun i hi hl=>by simp at hi; omega);refine hk a b c d ev h1 h3 e1 (U.own z).1 (U.own z).2 (U.at z) E e13 b3 ?_ ?_
 ·obtain ⟨ut,ud,ue,ow,C,S⟩:=U;exact SL.LA C.t1
 ·obtain ⟨ut,ud,ue,ow,C,S⟩:=U;exact SL.LA C.d1
end Go.Sx.Ob
set_option linter.unusedVariables false
set_option maxRecDepth 100000
namespace Go.Proofs.YtfkjiiapldkoeaaGreatDoor
open Go.RowKit Go.Extern.Stop Go.Stop Go.Extern
theorem zo (t:Addr) (w:World):(ReflectliteValue.unpack (.iface 61 (.pointer (some t)))).run Tryz.prog w
  = .ok (.agg #[.pointer (some ⟨8,61,none⟩),.pointer (some ⟨w.heap.size,0,none⟩),.int .u64 150]) (w.alloc (.cells #[.pointer (some t)] 61)):=by kernel_rfl
theorem DP (a : Addr) (w : World) : (ReflectliteValue.methodAny (ReflectliteValue.valueError "reflectlite.Value.Type" 0) (fun t _ _ _ => ReflectliteType.toType t) #[.agg #[.pointer (some ⟨8, 61, none⟩), .pointer (some a), .int .u64 150]]).run Tryz.prog w
  = .ok (.iface 163 (.agg #[.pointer (some ⟨8,61,none⟩)])) w:=by kernel_rfl
theorem xd (h : Value) (w : World) : (Go.method 442 163 (.agg #[h]) "Kind").run Tryz.prog w = .ok (218, h) w := by kernel_rfl
theorem Ej (w:World):((ReflectliteType.abiMethod fun t=>(fun a:Nat=>Value.int IntKind.u8 (a:Int)) <$> Rtype.kind t) #[.pointer (some ⟨8,61,none⟩)]).run Tryz.prog w=.ok (.int .u8 22) w:=by kernel_rfl
theorem EA (w:World):((ReflectliteType.abiMethod fun t=>(fun a:Nat=>Value.int IntKind.u8 (a:Int)) <$> Rtype.kind t) #[.pointer (some ⟨8,59,none⟩)]).run Tryz.prog w=.ok (.int .u8 22) w:=by kernel_rfl
theorem MJ (z:Sem Value) (f:TypeId→Addr→Nat→Nat→Sem Value) (v:Value) :
  ReflectliteValue.method z f #[v]=(do match ← ReflectliteValue.parts v with | none=>z | some (t,a,fl)=>f t a fl (fl % 32)):=rfl
theorem uP (a:Addr) (w:World):(ReflectliteValue.parts (.agg #[.pointer (some ⟨8,61,none⟩),.pointer (some a),.int .u64 150])).run Tryz.prog w=.ok (some (61,a,150)) w:=by kernel_rfl
theorem BR (a p:Addr) (W:World) (ha:W.cell? a=some (.pointer (some p))) :
  (ReflectliteValue.method (ReflectliteValue.valueError "reflectlite.Value.IsNil" 0) ReflectliteValue.isNil #[.agg #[.pointer (some ⟨8, 61, none⟩), .pointer (some a), .int .u64 150]]).run Tryz.prog W = .ok (.bool false) W := by
 rw [MJ];simp only [Sem.run_bind,uP,Result.andThen];simp [ReflectliteValue.isNil,loadVar,isAgg,underlying,Tryz.underlying61,ha,Result.andThen]
theorem xo (h : Value) (w : World) : (Go.method 442 163 (.agg #[h]) "Elem").run Tryz.prog w = .ok (227, .agg #[h]) w := by kernel_rfl
theorem oP (h : Value) (w : World) : (Go.method 442 163 (.agg #[h]) "Implements").run Tryz.prog w = .ok (228, .agg #[h]) w := by kernel_rfl
theorem mw (h : Value) (w : World) : (Go.method 442 163 (.agg #[h]) "AssignableTo").run Tryz.prog w = .ok (225, .agg #[h]) w := by kernel_rfl
theorem EC (w:World):(ReflectliteType.method ReflectliteType.elem #[.agg #[.pointer (some ⟨8,61,none⟩)]]).run Tryz.prog w=.ok (.iface 163 (.agg #[.pointer (some ⟨8,59,none⟩)])) w:=by kernel_rfl
theorem tQ (w : World) : (ReflectliteType.relation "Implements" ReflectliteType.implements_ #[.agg #[.pointer (some ⟨8, 59, none⟩)], .iface 163 (.agg #[.pointer (some ⟨8, 29, none⟩)])]).run Tryz.prog w = .ok (.bool true) w := by kernel_rfl
theorem zF (v:Value) (w:World):(ReflectliteType.typeOf #[.iface 59 v]).run Tryz.prog w=.ok (.iface 163 (.agg #[.pointer (some ⟨8,59,none⟩)])) w:=by kernel_rfl
theorem tI (w : World) : (ReflectliteType.relation "AssignableTo" ReflectliteType.assignableTo #[.agg #[.pointer (some ⟨8, 59, none⟩)], .iface 163 (.agg #[.pointer (some ⟨8, 59, none⟩)])]).run Tryz.prog w = .ok (.bool true) w := by kernel_rfl
theorem ze (e:Addr) (w:World):(ReflectliteValue.unpack (.iface 59 (.pointer (some e)))).run Tryz.prog w
  = .ok (.agg #[.pointer (some ⟨8,59,none⟩),.pointer (some ⟨w.heap.size,0,none⟩),.int .u64 150]) (w.alloc (.cells #[.pointer (some e)] 59)):=by kernel_rfl
theorem BH (w:World):(Rtype.elem? 61).run Tryz.prog w=.ok (some 59) w:=by kernel_rfl
theorem HZ (p:Addr) (w:World):(ReflectliteValue.mk 59 p ReflectliteValue.flagAddr).run Tryz.prog w=.ok (.agg #[.pointer (some ⟨8,59,none⟩),.pointer (some p),.int .u64 406]) w:=by kernel_rfl
theorem Cm (a p:Addr) (W:World) (ha:W.cell? a=some (.pointer (some p))) :
  (ReflectliteValue.method (ReflectliteValue.valueError "reflectlite.Value.Elem" 0) ReflectliteValue.elem #[.agg #[.pointer (some ⟨8, 61, none⟩), .pointer (some a), .int .u64 150]]).run Tryz.prog W
   = .ok (.agg #[.pointer (some ⟨8,59,none⟩),.pointer (some p),.int .u64 406]) W:=by
 rw [MJ];simp only [Sem.run_bind,uP,Result.andThen];simp [ReflectliteValue.elem,loadVar,isAgg,underlying,Tryz.underlying61,ha,Result.andThen,BH,HZ]
theorem MS (v x:Value):ReflectliteValue.set #[v,x]=(do
  let (some (dst,a,fl),some (src,b,_)):=(← ReflectliteValue.parts v,← ReflectliteValue.parts x)
   | unsupported (.noEntry "extern/(internal/reflectlite.Value).Set.zeroValue")
  if fl / ReflectliteValue.flagAddr % 2 == 0 then unsupported (.noEntry "extern/(internal/reflectlite.Value).Set.unaddressable")
  let val ← loadVar src b
  if ← Rtype.directlyAssignable dst src then storeVar dst a val
  else if ← Rtype.implements dst src then
   if (← Rtype.kind src)==20 then
    match val with
    | .nilIface => unsupported (.noEntry "extern/reflectlite: a nil value of one interface type handed on as a value of another")
    | _=>storeVar dst a val
   else storeVar dst a (.iface src val)
  else panicString ("reflectlite.Set: value of type " ++ (← Rtype.spelt src) ++ " is not assignable to type " ++ (← Rtype.spelt dst))
  pure (.tuple #[])):=rfl
theorem AM (a:Addr) (w:World):(ReflectliteValue.parts (.agg #[.pointer (some ⟨8,59,none⟩),.pointer (some a),.int .u64 406])).run Tryz.prog w=.ok (some (59,a,406)) w:=by kernel_rfl
theorem Cr (a:Addr) (w:World):(ReflectliteValue.parts (.agg #[.pointer (some ⟨8,59,none⟩),.pointer (some a),.int .u64 150])).run Tryz.prog w=.ok (some (59,a,150)) w:=by kernel_rfl
theorem AY (w:World):(Rtype.directlyAssignable 59 59).run Tryz.prog w=.ok true w:=by kernel_rfl
theorem Hr (ta b e:Addr) (old:Value) (W:World) (hb:W.cell? b=some (.pointer (some e))) (ht:W.cell? ta=some old) (hf:W.frozen? ta=false) :
  (ReflectliteValue.set #[.agg #[.pointer (some ⟨8,59,none⟩),.pointer (some ta),.int .u64 406],.agg #[.pointer (some ⟨8,59,none⟩),.pointer (some b),.int .u64 150]]).run Tryz.prog W
   = .ok (.tuple #[]) (W.setCell ta (.pointer (some e))):=by
 rw [MS];simp only [Sem.run_bind,AM,Cr,Result.andThen];simp [ReflectliteValue.flagAddr,loadVar,isAgg,underlying,Tryz.underlying59,hb,Result.andThen,AY,storeVar,Value.cells,storeCells,Addr.add];rw [run_store Tryz.prog W ta _ _ (by rfl)];simp [ht,hf]
set_option maxHeartbeats 4000000 in
theorem JE (e t:Addr) (old:Value) (w:World) (hg:w.cell? ⟨0,0,none⟩=some (.iface 163 (.agg #[.pointer (some ⟨8,29,none⟩)]))) (ht0:w.cell? t=some old) (hf0:w.frozen? t=false) :
  Calls Tryz.prog 30 #[.iface 59 (.pointer (some e)),.iface 61 (.pointer (some t))] w fun ev w'=>ev=.returned (.bool true)∧w'=((((w.alloc (.cells #[.pointer (some t)] 61)).alloc (.cells #[.pointer (some ⟨8,61,none⟩),.pointer (some ⟨w.heap.size,0,none⟩),.int .u64 150] 115)).alloc (.cells #[.pointer (some ⟨8,61,none⟩),.pointer (some ⟨w.heap.size,0,none⟩),.int .u64 150] 115)).alloc (.cells #[.pointer (some e)] 59)).setCell t (.pointer (some e)):=by
 have h6:=@run_callFunc_extern Tryz.prog 57 _ (fun args=>ReflectliteValue.unpack (args.getD 0 (.tuple #[]))) Tryz.func57 (by kernel_rfl) (by kernel_rfl) (by kernel_rfl) (by kernel_rfl);have h7 := @run_callFunc_extern Tryz.prog 58 _ (ReflectliteValue.methodAny (ReflectliteValue.valueError "reflectlite.Value.Type" 0) (fun t _ _ _ => ReflectliteType.toType t)) Tryz.func58 (by kernel_rfl) (by kernel_rfl) (by kernel_rfl) (by kernel_rfl)
 have h8 := @run_callFunc_extern Tryz.prog 59 _ (ReflectliteValue.method (ReflectliteValue.valueError "reflectlite.Value.IsNil" 0) ReflectliteValue.isNil) Tryz.func59 (by kernel_rfl) (by kernel_rfl) (by kernel_rfl) (by kernel_rfl)
 have h27:=@run_callFunc_extern Tryz.prog 218 _ (ReflectliteType.abiMethod fun t=>do pure (.int .u8 (← Rtype.kind t))) Tryz.func218 (by kernel_rfl) (by kernel_rfl) (by kernel_rfl) (by kernel_rfl);have h37:=@run_callFunc_extern Tryz.prog 227 _ (ReflectliteType.method ReflectliteType.elem) Tryz.func227 (by kernel_rfl) (by kernel_rfl) (by kernel_rfl) (by kernel_rfl);have h38 := @run_callFunc_extern Tryz.prog 228 _ (ReflectliteType.relation "Implements" ReflectliteType.implements_) Tryz.func228 (by kernel_rfl) (by kernel_rfl) (by kernel_rfl) (by kernel_rfl)
 have h10:=@run_callFunc_extern Tryz.prog 73 _ ReflectliteType.typeOf Tryz.func73 (by kernel_rfl) (by kernel_rfl) (by kernel_rfl) (by kernel_rfl);have h35 := @run_callFunc_extern Tryz.prog 225 _ (ReflectliteType.relation "AssignableTo" ReflectliteType.assignableTo) Tryz.func225 (by kernel_rfl) (by kernel_rfl) (by kernel_rfl) (by kernel_rfl)
 have h11 := @run_callFunc_extern Tryz.prog 92 _ (ReflectliteValue.method (ReflectliteValue.valueError "reflectlite.Value.Elem" 0) ReflectliteValue.elem) Tryz.func92 (by kernel_rfl) (by kernel_rfl) (by kernel_rfl) (by kernel_rfl)
 have h12:=@run_callFunc_extern Tryz.prog 93 _ ReflectliteValue.set Tryz.func93 (by kernel_rfl) (by kernel_rfl) (by kernel_rfl) (by kernel_rfl);have tO:=zF;have mA:=mw;have a25:=tI;have v25:=ze;have f6:=zo;have f7:=DP;have mK:=xd;have mE:=xo;have mI:=oP;have k27:=Ej;have k25:=EA;have e27:=EC;have i25:=tQ;have n8:=BR ⟨w.heap.size,0,none⟩ t ((w.alloc (.cells #[.pointer (some t)] 61)).alloc (.cells #[.pointer (some ⟨8,61,none⟩),.pointer (some ⟨w.heap.size,0,none⟩),.int .u64 150] 115)) (by simp);have hlt:0<w.heap.size:=by
  rcases Nat.eq_zero_or_pos w.heap.size with h0 | h
  ·simp [World.cell?,h0] at hg
  ·exact h
 have hg2:((w.alloc (.cells #[.pointer (some t)] 61)).alloc (.cells #[.pointer (some ⟨8,61,none⟩),.pointer (some ⟨w.heap.size,0,none⟩),.int .u64 150] 115)).cell? ⟨0,0,none⟩=some (.iface 163 (.agg #[.pointer (some ⟨8,29,none⟩)])):=by
  rw [World.cell?_alloc_lt _ _ ⟨0,0,none⟩ (by simp),World.cell?_alloc_lt _ _ ⟨0,0,none⟩ hlt]; exact hg
 have htl:t.block<w.heap.size:=by
  rcases Nat.lt_or_ge t.block w.heap.size with h | h
  ·exact h
  ·simp [World.cell?,Array.getElem?_eq_none h] at ht0
 have el:=Cm ⟨w.heap.size,0,none⟩ t (((w.alloc (.cells #[.pointer (some t)] 61)).alloc (.cells #[.pointer (some ⟨8,61,none⟩),.pointer (some ⟨w.heap.size,0,none⟩),.int .u64 150] 115)).alloc (.cells #[.pointer (some ⟨8,61,none⟩),.pointer (some ⟨w.heap.size,0,none⟩),.int .u64 150] 115)) (by rw [World.cell?_alloc_lt _ _ ⟨w.heap.size,0,none⟩ (by simp; omega)]; simp);have st:=Hr t ⟨w.heap.size+1+1+1,0,none⟩ e old ((((w.alloc (.cells #[.pointer (some t)] 61)).alloc (.cells #[.pointer (some ⟨8,61,none⟩),.pointer (some ⟨w.heap.size,0,none⟩),.int .u64 150] 115)).alloc (.cells #[.pointer (some ⟨8,61,none⟩),.pointer (some ⟨w.heap.size,0,none⟩),.int .u64 150] 115)).alloc (.cells #[.pointer (some e)] 59))
  (by rw [World.cell?_alloc_at _ _ _ _ (by simp)]; rfl)
  (by rw [World.cell?_alloc_lt _ _ t (by simp; omega),World.cell?_alloc_lt _ _ t (by simp; omega),World.cell?_alloc_lt _ _ t (by simp; omega),World.cell?_alloc_lt _ _ t htl]; exact ht0)
  (by rw [World.frozen?_alloc_old _ _ t (by simp; omega),World.frozen?_alloc_old _ _ t (by simp; omega),World.frozen?_alloc_old _ _ t (by simp; omega),World.frozen?_alloc_old _ _ t (Nat.ne_of_lt htl)]; exact hf0)
 go_enter Tryz.func30,Tryz.ntmps30
 go_wp2
 refine wp_loop_rounds 1 ?_;rw [rounds_succ]
 go_wp2
 go_ret
 exact ⟨rfl,rfl⟩
end Go.Proofs.YtfkjiiapldkoeaaGreatDoor
set_option linter.unusedVariables false
set_option linter.unusedSimpArgs false
set_option maxRecDepth 100000
namespace Go.Sx.Ob
open Go.Proofs
def DQ (h:Hp):Prop:=aH h ⟨0,0,none⟩ 0 [.iface 163 (.agg #[.pointer (some ⟨8,29,none⟩)])]
theorem DQ.ah {h h':Hp} (t:DQ h) (e:Ext h h'):DQ h':=bt e (by simp) _ _ t
theorem He {h:Hp} (et:DQ h) {a g:Nat} (b:aO h g 59 [.pointer none]) :
  HC Tryz.prog 30 #[.iface 59 (ptr a),.iface 61 (ptr g)] h fun v h'=>v=.bool true∧aO h' g 59 [ptr a]∧Ch [g] h h':=by
 intro W hW;subst hW;refine (Go.Proofs.YtfkjiiapldkoeaaGreatDoor.JE ⟨a,0,none⟩ ⟨g,0,none⟩ (.pointer none) W ?_ ?_ ?_).mono ?_
 ·rw [dC]; exact et.1
 ·rw [dC,b.cell]; rfl
 ·rw [zS]; exact b.frozen
 ·rintro e w' ⟨he,rfl⟩;refine ⟨_,he,⟨rfl,rfl,rfl⟩,rfl,?_⟩;rw [F6];have k:Ext W.heap (((W.heap.push (.cells #[.pointer (some ⟨g,0,none⟩)] 61 (0,0))).push (.cells #[.pointer (some ⟨8,61,none⟩),.pointer (some ⟨W.heap.size,0,none⟩),.int .u64 150] 115 (0,0))).push (.cells #[.pointer (some ⟨8,61,none⟩),.pointer (some ⟨W.heap.size,0,none⟩),.int .u64 150] 115 (0,0)) |>.push (.cells #[.pointer (some ⟨a,0,none⟩)] 59 (0,0))) :=
   (((Ext.push _ _).trans (Ext.push _ _)).trans (Ext.push _ _)).trans (Ext.push _ _)
  have b4:=b.ah k (by simp);obtain ⟨h1,h2,_⟩:=wj (off:=0) b4 (ptr a);exact ⟨h1,Ch.trans (k.mono (by simp)) h2 (fun i hi _=>hi)⟩
theorem KY {L:Lp} {K:Value→Hp→Prop} {h h0:Hp} {ev:Value} {e:Option (Nat × Nat)} (E:lX h0 ev e) (o:Nat) {k:Bool→T} (hk:k (!MH e) L K h) :
  T.aY Tryz.prog (Sx.bM (BinOp.neq) 29 (Operand.tmp o) (Operand.const Value.nilIface) ev .nilIface) false [(false,[.bool])] k L K h:=by
 cases e with
 | none =>
  have E:ev=.nilIface:=E;subst E;refine bw (b:=false) (fun K' hk'=>?_) hk;rw [Mq]; exact hk'
 | some q =>
  obtain ⟨a,rfl,_⟩:=E;refine bw (b:=true) (fun K' hk'=>?_) hk;rw [MA]; exact hk'
theorem Cs.take {h:Hp} {p:Option Addr} {l:Nat} {us:List bC} (v:Cs h p l us) {k:Nat} (hk:k≤l):Cs h p k (us.take k):=by
 have hl:=v.len;have hm:=v.many;refine ⟨by rw [List.length_take]; omega,by rw [List.length_take]; omega,fun i hi=>?_⟩;rw [List.length_take] at hi;rw [List.getElem_take];exact v.cells i (by omega)
theorem D8 {r:Except (Nat × Nat) ig} (h:qZ r=none):r=.ok (sj r).1:=by
 cases r with
 | ok u=>rfl
 | error q=>cases h
theorem DU {r:Except (Nat × Nat) ig} {q:Nat × Nat} (h:qZ r=some q):r=.error q:=by
 cases r with
 | ok u=>cases h
 | error q=>cases h; rfl
set_option maxHeartbeats 2000000 in
theorem F0 (h:Hp) (K:Value→Hp→Prop):aD Tryz.prog (convert 42 9 (.slice none 0 0)) h K=K (.string ⟨#[]⟩) h:=by kernel_rfl
theorem SL.Mp {h:Hp} {b:Nat} {e:TypeId} {sz l c:Nat} {xs:List (List Value)} (s:SL h b e sz none l c xs):xs=[]∧l=0∧c=0:=by
 have h1:xs=[]:=s.2.2.2;have h2:=s.1;rw [h1] at h2;exact ⟨h1,h2,s.2.2.1⟩
theorem Hw {L:Lp} {K:Value→Hp→Prop} {h:Hp} {b:Nat} {p:Option Addr} {l c:Nat} {bs:List UInt8} {k:ByteArray→T} (s:SL h b 5 1 p l c (to bs)) (hk:k ⟨bs.toArray⟩ L K h) :
  T.aY Tryz.prog (convert 42 9 (.slice p l c)) false [(false,[.string])] k L K h:=by
 by_cases h0:bs=[]
 ·cases p with
  | none =>
   obtain ⟨_,rfl,rfl⟩:=SL.Mp s;subst h0;show aD Tryz.prog _ h _;rw [F0];exact ⟨(⟨#[]⟩,()),rfl,hk⟩
  | some a =>
   subst h0;have hl:l=0:=by rw [s.1]; rfl
   exact Gv (bs:=[]) hl trivial hk
 ·exact zV s h0 hk
theorem vV (b l m:List UInt8):bj b (l++m)=bj b l++bj b m:=List.flatMap_append
theorem u' (b:List UInt8):∀ l:List UInt8,(bj b l).length≤l.length*(b.length+6)
 | []=>by simp [bj]
 | c::l=>by
  have h:=u' b l;unfold bj at h ⊢;rw [List.flatMap_cons,List.length_append,List.length_cons,Nat.succ_mul]
  have:(if c=10 then 32::59::(b++[10,10,9,32]) else [c]).length≤b.length+6:=by
   split
   ·simp
   ·simp
  omega
theorem sq (s:ByteArray) (i:Nat) (hi:i<s.size):s.data.toList.take (i+1)=s.data.toList.take i++[s.data.toList.getD i 0]:=by
 have h1:i<s.data.toList.length:=by simpa using hi
 rw [List.take_succ_eq_append_getElem h1]
 congr 2
 rw [List.getD_eq_getElem?_getD,List.getElem?_eq_getElem h1] <;> rfl
theorem vL (s:ByteArray) (i:Nat):(bN s (i:Int)==(10:Int))=decide (s.data.toList.getD i 0=10):=by
 rw [kn];show ((((s.data.toList.getD i 0).toNat:Nat):Int)==10)=_;generalize s.data.toList.getD i 0=c
 by_cases h:c=10
 ·subst h; rfl
 ·rw [decide_eq_false h]
  have:c.toNat≠10:=fun e=>h (UInt8.toNat_inj.1 e)
  simpa using by omega
theorem Kr (x:Int):Instr.fill (fun j=>some (j*1,1)) ((Array.range (1*1)).map ((Value.int .u8 0).cells[· % (Value.int .u8 0).cells.size]!)) [(0,.int .u8 x)]=some ([.int .u8 x]:List Value).toArray:=by kernel_rfl
def mc (l:List UInt8):List UInt8:=l.filter nl
theorem Bz (s:ByteArray) (i:Nat) (hi:i<s.size):(s.extract i (i+1)).data.toList=[s.data.toList.getD i 0]:=by
 rw [ByteArray.data_extract,Array.toList_extract];have h1:i<s.data.toList.length:=by simpa using hi
 rw [List.extract_eq_take_drop,show i+1-i=1 by omega,List.drop_eq_getElem_cons h1,List.take_succ_cons,List.take_zero]
 congr 1
 rw [List.getD_eq_getElem?_getD,List.getElem?_eq_getElem h1] <;> rfl
set_option maxHeartbeats 2000000 in
theorem H6 (s0 t0:ByteArray) (h:Hp) (f:Fx h) (et:DQ h):HC Tryz.prog 7 #[.string s0,.string t0] h fun v h'=>v=.bool true∧Ext h h':=by
 refine aL (args:=[.string s0,.string t0]) mixed Tryz.func7 (by kernel_rfl) (jB s0 t0) ?_;unfold fz;refine aC (FH s0 2000 h) ?_;rintro _ h1 ⟨rfl,e1⟩;refine ⟨(yR s0 2000,()),rfl,?_⟩;dsimp only [flat,aB,ai,nA,cA];have hs:=ya s0 2000;generalize yR s0 2000=s at hs;have f1:=f.ah e1;have z:=FY (src:=s) (by omega);refine G7 f1 z ?_;intro a b c d ev h2 h3 e2 _ _ xu Eu e3 bu hac _;have f3:=(f1.ah e2).ah e3;have xu:=xu.ah e3;have e03:=(e1.trans e2).trans e3;have q3:=bu.lt;refine aW ?_;intro h4 b4 e4 z4;have e04:=e03.trans e4;have kn0:∀ {g:Hp} {L:Lp},Ext h g→Ext h3 g→(T.call Tryz.prog 14 [] false [(false,[.bool])] fun (b:Bool)=>T.ret (.bool b)) L (fun v h'=>v=.bool true∧Ext h h') g:=by
  intro g L e0 e;refine aC (Hn g (f3.ah e)) ?_;rintro _ g' ⟨rfl,e'⟩;refine ⟨(true,()),rfl,?_⟩;dsimp only [flat,aB,ai,nA,cA];exact ⟨rfl,e0.trans e'⟩
 refine KY Eu _ ?_;cases he:qZ (df s) with
 | some q =>
  refine bd rfl ?_;have her:=DU he;have hln:=Gj (src:=s) (by omega) her;refine bm (cs:=[(false,[.int .i64]),(false,[.int .i64])]) (fun x m h'=>∃ i:Nat,x.2.1=(i:Int)∧i≤s.size∧m=s.size-i∧h'=h4∧x.1=((((s.data.toList.take i).count 10+1:Nat)):Int)) ((1:Int),(0:Int),()) s.size rfl ⟨0,rfl,by omega,by omega,rfl,rfl⟩ ?_;rintro ⟨n19,n20,⟨⟩⟩ m h' ⟨i,hi,hile,rfl,rfl,hn⟩;simp only at hi hn;subst hi hn;dsimp only [flat,aB,ai,nA,cA];have hcl:(s.data.toList.take i).count 10≤i:=Nat.le_trans List.count_le_length (by rw [List.length_take]; omega);refine af (fun r=>?_) (fun r=>?_)
  ·have r:=of_decide_eq_true r;have hil:i<s.size:=by omega
   refine aA ⟨by omega,by omega⟩ ?_;rw [vL];have hts:=sq s i hil;have w1:IntKind.wrap .i64 ((i:Int)+1)=((i+1:Nat):Int):=by rw [wrap_i64 (by omega) (by omega)]; omega
   refine af (fun r2=>?_) (fun r2=>?_)
   ·have r2:=of_decide_eq_true r2;have w2:IntKind.wrap .i64 ((((s.data.toList.take i).count 10+1:Nat):Int)+1)=((((s.data.toList.take i).count 10+1)+1:Nat):Int):=by rw [wrap_i64 (by omega) (by omega)]; omega
    rw [w1,w2];refine aM (cs:=[(false,[.int .i64]),(false,[.int .i64])]) (((((s.data.toList.take i).count 10+1)+1:Nat):Int),((i+1:Nat):Int),()) (s.size-(i+1)) rfl (by omega) rfl ⟨i+1,rfl,by omega,rfl,rfl,?_⟩;rw [hts,r2,List.count_append] <;> rfl
   ·have r2:=of_decide_eq_false r2;rw [w1];refine aM (cs:=[(false,[.int .i64]),(false,[.int .i64])]) (((((s.data.toList.take i).count 10+1):Nat):Int),((i+1:Nat):Int),()) (s.size-(i+1)) rfl (by omega) rfl ⟨i+1,rfl,by omega,rfl,rfl,?_⟩;rw [hts,List.count_append,List.count_singleton,if_neg (by simpa using r2)]
  ·have r:=of_decide_eq_false r;have hi:i=s.size:=by omega
   subst hi;have htk:s.data.toList.take s.size=s.data.toList:=List.take_of_length_le (by simp);rw [htk] at hcl ⊢;rw [he] at Eu;obtain ⟨ea,rfl,eb⟩:=Eu;have eb4:=eb.ah (e3.trans e4) (by simp);have lea:ea<h3.size:=by have:=eb.lt; have:=e3.size; omega
   refine aC (He (et.ah e04) b4) ?_;rintro _ h5 ⟨rfl,b5,k5⟩;refine ⟨(true,()),rfl,?_⟩;dsimp only [flat,aB,ai,nA,cA];have eb5:=eb4.ah k5 (by simp; omega);have e35:Ext h3 h5:=Ch.trans e4 k5 (fun i hi hl=>by simp at hi; omega);refine bd rfl ?_;refine ad b5 (some ⟨ea,0,none⟩,()) rfl ?_;dsimp only [flat,aB,ai,nA,cA];refine bd rfl ?_;refine ad b5 (some ⟨ea,0,none⟩,()) rfl ?_;dsimp only [flat,aB,ai,nA,cA];refine an rfl ?_;refine ad eb5 ((q.1:Int),()) rfl ?_;dsimp only [flat,aB,ai,nA,cA];refine bd (decide_eq_true (by omega)) ?_;refine ad b5 (some ⟨ea,0,none⟩,()) rfl ?_;dsimp only [flat,aB,ai,nA,cA];refine an rfl ?_;refine ad eb5 ((q.1:Int),()) rfl ?_;dsimp only [flat,aB,ai,nA,cA];refine bd (decide_eq_true (by omega)) ?_;refine ad (bu.ah e35 (by simp)) ((a.p,a.l,a.c),(b.p,b.l,b.c),(c.p,c.l,c.c),(d.p,d.l,d.c),()) rfl ?_;dsimp only [flat,aB,ai,nA,cA];have xu5:fO h5 a b c d oK:=by
    have:=xu.ah e35
    rw [her] at this;exact this
   have hc:=sY xu5 (fO.zero h5);have hc2:HC Tryz.prog 13 [.agg #[.slice a.p a.l a.c,.slice b.p b.l b.c,.slice c.p c.l c.c,.slice d.p d.l d.c],.agg #[.slice none 0 0,.slice none 0 0,.slice none 0 0,.slice none 0 0]].toArray h5 (EW oK oK h5):=hc;refine aC hc2 ?_;rintro _ h6 ⟨bb,rfl,hb,e6⟩;have hb:=hb.2 rfl;subst hb;refine ⟨(true,()),rfl,?_⟩;dsimp only [flat,aB,ai,nA,cA];refine bd rfl ?_;exact kn0 ((e03.trans e35).trans e6) (e35.trans e6)
 | none =>
  refine bo rfl ?_;have hok:=D8 he;refine ad (bu.ah e4 (by simp)) ((a.p,a.l,a.c),(b.p,b.l,b.c),(c.p,c.l,c.c),(d.p,d.l,d.c),()) rfl ?_;dsimp only [flat,aB,ai,nA,cA];refine aC (lr (f3.ah e4).tb.LG (xu.ah e4)) ?_;rintro _ h5 ⟨rfl,e5⟩;refine ⟨((uY (sj (df s)).1:Int),()),rfl,?_⟩;dsimp only [flat,aB,ai,nA,cA];rw [B0 hok];refine bo rfl ?_;refine aC (FH t0 50 h5) ?_;rintro _ h6 ⟨rfl,e6⟩;refine ⟨(yR t0 50,()),rfl,?_⟩;dsimp only [flat,aB,ai,nA,cA];have ht:=ya t0 50;generalize yR t0 50=t at ht;have e36:=(e4.trans e5).trans e6;have q36:=e36.size;refine bm (cs:=[(false,[.slice 0]),(false,[.int .i64])]) (fun x m h'=>∃ i:Nat,x.2.1=(i:Int)∧i≤t.size∧m=t.size-i∧SL h' h3.size 5 1 x.1.1 x.1.2.1 x.1.2.2 (to (mc (t.data.toList.take i)))∧Ext h3 h') ((none,0,0),(0:Int),()) t.size rfl ⟨0,rfl,by omega,by omega,SL.nil _ _ _ _,e36⟩ ?_;clear e36 q36 e6 e5;rintro ⟨⟨p33,l34,l35⟩,n36,⟨⟩⟩ m h7 ⟨i,hi,hile,rfl,sb,e37⟩;simp only at hi sb;subst hi;dsimp only [flat,aB,ai,nA,cA];have q7:=e37.size;have hkl:(mc (t.data.toList.take i)).length≤i:=by
   unfold mc;exact Nat.le_trans (List.length_filter_le _ _) (by rw [List.length_take]; omega)
  have hl34:l34=(mc (t.data.toList.take i)).length:=by rw [sb.1,qa]
  refine af (fun r=>?_) (fun r=>?_)
  ·have r:=of_decide_eq_true r;have hil:i<t.size:=by omega
   refine aA ⟨by omega,by omega⟩ ?_;have hts:=sq t i hil;have w1:IntKind.wrap .i64 ((i:Int)+1)=((i+1:Nat):Int):=by rw [wrap_i64 (by omega) (by omega)]; omega
   rw [show (bN t (i:Int) != (10:Int))=!(bN t (i:Int)==(10:Int)) from rfl,vL];refine af (fun r2=>?_) (fun r2=>?_)
   ·have r2:¬ t.data.toList.getD i 0=10:=by simpa using r2
    refine aA ⟨by omega,by omega⟩ ?_;refine nS (e:=5) (z:=.int .u8 0) (sz:=1) (by':=1) (vs:=[.int .u8 (bN t (i:Int))]) Cz LR rfl (by omega) (by omega) (Kr _) rfl rfl sb (by omega) (by omega) (by omega) ?_;intro p' c' h8 s8 k8 hp';rw [w1];refine aM (cs:=[(false,[.slice 0]),(false,[.int .i64])]) ((p',l34+1,c'),((i+1:Nat):Int),()) (t.size-(i+1)) rfl (by omega) rfl ⟨i+1,rfl,by omega,rfl,?_,Ch.trans e37 k8 (fun j hj hl=>by have:=Sx.SL.bO sb hj; omega)⟩;show SL h8 h3.size 5 1 p' (l34+1) c' _
    have:to (mc (t.data.toList.take (i+1)))=to (mc (t.data.toList.take i))++[[.int .u8 (bN t (i:Int))]]:=by
     rw [hts];unfold mc;rw [List.filter_append,List.filter_cons,if_pos (by unfold nl; simpa using r2)];unfold to;rw [List.map_append] <;> rfl
    rw [this];exact s8
   ·have r2:t.data.toList.getD i 0=10:=by simpa using r2
    rw [w1];refine aM (cs:=[(false,[.slice 0]),(false,[.int .i64])]) ((p33,l34,l35),((i+1:Nat):Int),()) (t.size-(i+1)) rfl (by omega) rfl ⟨i+1,rfl,by omega,rfl,?_,e37⟩
    have:mc (t.data.toList.take (i+1))=mc (t.data.toList.take i):=by
     rw [hts];unfold mc;rw [List.filter_append,List.filter_cons,if_neg (by unfold nl; simpa using r2)]
     simp
    rw [this];exact sb
  ·have r:=of_decide_eq_false r;have hi:i=t.size:=by omega
   subst hi;have htk:t.data.toList.take t.size=t.data.toList:=List.take_of_length_le (by simp);rw [htk] at sb hkl hl34;have hb:∀ c,c∈mc t.data.toList→nl c=true:=fun c hc=>(List.mem_filter.1 hc).2
   generalize mc t.data.toList=bs at *;refine bm (cs:=[(false,[.string]),(false,[.int .i64])]) (fun x m h'=>∃ i:Nat,x.2.1=(i:Int)∧i≤s.size∧m=s.size-i∧h'=h7∧(x.1:ByteArray).data.toList=bj bs (s.data.toList.take i)) ((⟨#[]⟩:ByteArray),(0:Int),()) s.size rfl ⟨0,rfl,by omega,by omega,rfl,rfl⟩ ?_;rintro ⟨(s9:ByteArray),n38,⟨⟩⟩ m h' ⟨i,hi,hile,rfl,rfl,hn⟩;simp only at hi hn;subst hi;dsimp only [flat,aB,ai,nA,cA];have hz:s9.size≤2000*60:=by
    have h1:s9.data.toList.length=s9.size:=by simp
    have h2:=u' bs (s.data.toList.take i);rw [← hn,h1,List.length_take] at h2;have h3:min i s.data.toList.length*(bs.length+6)≤2000*60:=Nat.mul_le_mul (by omega) (by omega);omega
   have w1:i<s.size→IntKind.wrap .i64 ((i:Int)+1)=((i+1:Nat):Int):=fun _=>by rw [wrap_i64 (by omega) (by omega)]; omega
   refine af (fun r=>?_) (fun r=>?_)
   ·have r:=of_decide_eq_true r;have hil:i<s.size:=by omega
    have w1:=w1 hil;refine aA ⟨by omega,by omega⟩ ?_;have hts:=sq s i hil;rw [vL];have z1:(s9++⟨#[32,59]⟩).size=s9.size+2:=by rw [ByteArray.size_append]; rfl
    refine af (fun r2=>?_) (fun r2=>?_)
    ·have r2:=of_decide_eq_true r2;refine aA (by omega) ?_;refine Hw sb ?_;have z2:(⟨bs.toArray⟩:ByteArray).size=bs.length:=by
      show bs.toArray.size=_
      simp
     have z3:((s9++⟨#[32,59]⟩)++(⟨bs.toArray⟩:ByteArray)).size=s9.size+2+bs.length:=by rw [ByteArray.size_append,z1,z2]
     refine aA (by rw [z1,z2]; omega) ?_;refine aA (by rw [z3]; omega) ?_;rw [w1];refine aM (cs:=[(false,[.string]),(false,[.int .i64])]) ((((s9++⟨#[32,59]⟩)++⟨bs.toArray⟩)++⟨#[10,10,9,32]⟩:ByteArray),((i+1:Nat):Int),()) (s.size-(i+1)) rfl (by omega) rfl ⟨i+1,rfl,by omega,rfl,rfl,?_⟩;rw [hts,r2,vV,← hn];show (((s9++⟨#[32,59]⟩)++(⟨bs.toArray⟩:ByteArray))++(⟨#[10,10,9,32]⟩:ByteArray)).data.toList=s9.data.toList++(bj bs [10]);simp [ByteArray.data_append,bj]
    ·have r2:=of_decide_eq_false r2;rw [w1];refine aA ⟨by omega,by omega,by omega⟩ ?_;rw [show Int.toNat (i:Int)=i by omega,show Int.toNat (((i+1:Nat)):Int)=i+1 by omega];have z4:(s.extract i (i+1)).size=1:=by rw [ByteArray.size_extract]; omega
     refine aA (by rw [z4]; omega) ?_;refine aM (cs:=[(false,[.string]),(false,[.int .i64])]) ((s9++s.extract i (i+1):ByteArray),((i+1:Nat):Int),()) (s.size-(i+1)) rfl (by omega) rfl ⟨i+1,rfl,by omega,rfl,rfl,?_⟩;rw [hts,vV,← hn];show (s9++s.extract i (i+1)).data.toList=_;rw [ByteArray.data_append,Array.toList_append,Bz s i hil]
     congr 1
     unfold bj;rw [List.flatMap_cons,if_neg r2] <;> rfl
   ·have r:=of_decide_eq_false r;have hi:i=s.size:=by omega
    subst hi;have htk:s.data.toList.take s.size=s.data.toList:=List.take_of_length_le (by simp);rw [htk] at hn;refine af (fun _=>kn0 (e03.trans e37) e37) (fun r3=>?_);have r3:=of_decide_eq_false r3;have hsp:=Cq hb hn (by omega) (by omega) hok;have z9:rP (sj (df s9)).1:=by rw [hsp]; exact z
    refine G7 (f3.ah e37) z9 ?_;intro av bv cv dv ev2 h10 h11 e10 _ _ xv Ev e11 bv' _ _;have e311:=(e37.trans e10).trans e11;have xv:=xv.ah e11;rw [hsp] at Ev xv;refine K5 Ev _ ?_;refine bd rfl ?_;refine ad (bu.ah e311 (by simp)) ((a.p,a.l,a.c),(b.p,b.l,b.c),(c.p,c.l,c.c),(d.p,d.l,d.c),()) rfl ?_;dsimp only [flat,aB,ai,nA,cA];refine ad bv' ((av.p,av.l,av.c),(bv.p,bv.l,bv.c),(cv.p,cv.l,cv.c),(dv.p,dv.l,dv.c),()) rfl ?_;dsimp only [flat,aB,ai,nA,cA];refine aC (sY (xu.ah e311) xv) ?_;rintro _ h12 ⟨bb,rfl,hb',e12⟩;have hb':=hb'.2 rfl;subst hb';refine ⟨(true,()),rfl,?_⟩;dsimp only [flat,aB,ai,nA,cA];refine bd rfl ?_;exact kn0 ((e03.trans e311).trans e12) (e311.trans e12)
open Go.Proofs Go.Proofs.YtfkjiiapldkoeaaGreatDoor
open Go.ChangeShapes Go.WideShapes Go.ChangeAt Go.WideMaps Go.WideElems Go.RowKit
theorem Mx:ownKnob Tryz.prog.godebug=none:=by kernel_rfl
theorem u9:Tryz.prog.underlying 9=some .string:=by kernel_rfl
theorem u4:Tryz.prog.underlying 4=some .bool:=by kernel_rfl
theorem u3:Tryz.prog.underlying 3=some (.int .i64):=by kernel_rfl
theorem u5:Tryz.prog.underlying 5=some (.int .u8):=by kernel_rfl
theorem Mb:Tryz.prog.underlying 215=some (.array 43 158):=by kernel_rfl
theorem KJ:Tryz.prog.cellsOf 158=3:=by kernel_rfl
theorem MB:Tryz.prog.cellsOf 215=129:=by kernel_rfl
theorem c9:Tryz.prog.cellsOf 9=1:=by kernel_rfl
theorem c5:Tryz.prog.cellsOf 5=1:=by kernel_rfl
theorem c3:Tryz.prog.cellsOf 3=1:=by kernel_rfl
theorem Mh:Ag Tryz.prog 158=some [(9,0),(5,1),(3,2)]:=by kernel_rfl
def zx:List (DataW Unit):=match (Rows.laid_spandrel_isa_table:DataW Unit) with | .agg l=>l | _=>[]
def EZ:DataW Unit→Int
 | .agg [_,_,.lit (.int _ n)]=>n
 | _=>0
theorem HV:(Rows.laid_spandrel_isa_table:DataW Unit)=.agg zx:=by kernel_rfl
theorem Gl:zx.map EZ=(List.range 43).map fun k=>((bT.getD k 0:Nat):Int):=by kernel_rfl
theorem AL {α β:Type} (f:α→List β) (m:Nat) (hf:∀ x,(f x).length=m):∀ l:List α,(l.flatMap f).length=l.length*m
 | []=>by simp
 | x::l=>by rw [List.flatMap_cons,List.length_append,hf,AL f m hf l,List.length_cons,Nat.succ_mul,Nat.add_comm]
theorem zg (nm:Nat→ByteArray) (w9:Nat→Int):(ma nm w9).length=129:=by
 unfold ma;rw [AL _ 3 (fun x=>rfl),List.length_range]
def Kd:DataW Unit→List UInt8
 | .agg [.lit (.string s),_,_]=>s
 | _=>[]
def JG:DataW Unit→Int
 | .agg [_,.lit (.int _ n),_]=>n
 | _=>0
theorem Is:zx.map Kd=(List.range 43).map fun k=>Ep k:=by kernel_rfl
theorem ID:zx.map JG=(List.range 43).map fun k=>cg k:=by kernel_rfl
theorem Er {enc:TypeId × Value→Unit} {W:World} {base fuel:Nat} {sp:Nat→Bool} {held:Bool} {cs:List Value} {p:List MemPlace}
  (h:DataW.trod enc Tryz.prog W base sp held fuel 215 cs=some (Rows.laid_spandrel_isa_table,p)):cs=ma cb cg:=by
 obtain ⟨xs,m,_,hx,hl,hlen,hf⟩:=DataW.trod_array Mb h;rw [MB] at hl;have hxs:xs.map (·.1)=zx:=by
  have:=congrArg Prod.fst hx
  rw [show (Rows.laid_spandrel_isa_table,p).1=DataW.agg zx from HV] at this;simpa using this.symm
 have each:∀ i,i<43→(cs.drop (i*3)).take 3=[.string (cb i),.int .u8 (cg i),.int .i64 ((bT.getD i 0:Nat):Int)]:=by
  intro i hi;have h1:=hf i hi;rw [KJ] at h1;rw [List.getElem?_eq_getElem (by omega)] at h1;obtain ⟨ys,n,hy,hyl,hyn,hys⟩:=zB Mh h1;obtain ⟨y0,g0,t0⟩:=hys 0 _ rfl;obtain ⟨y1,g1,t1⟩:=hys 1 _ rfl;obtain ⟨y2,g2,t2⟩:=hys 2 _ rfl;rw [KJ] at hyl;generalize hc:(cs.drop (i*3)).take 3=c at *
  match c,hyl with
  | [v0,v1,v2],_ =>
   rw [show Tryz.prog.cellsOf (9,0).1=1 from c9] at t0;rw [show Tryz.prog.cellsOf (5,1).1=1 from c5] at t1;rw [show Tryz.prog.cellsOf (3,2).1=1 from c3] at t2;obtain ⟨s,e0,r0,_⟩:=DataW.trod_string u9 t0;obtain ⟨b,e1,r1,_⟩:=DataW.trod_int u5 t1;obtain ⟨k,e2,r2,_⟩:=DataW.trod_int u3 t2;cases e0; cases e1; cases e2;have hys3:ys=[y0,y1,y2]:=by
    apply List.ext_getElem?;intro j
    match j with
    | 0=>exact g0
    | 1=>exact g1
    | 2=>exact g2
    | j+3=>rw [List.getElem?_eq_none (by rw [hyn]; simp),List.getElem?_eq_none (by simp)]
   have h2:(xs.map (·.1))[i]?=some (xs[i]'(by omega)).1:=by rw [List.getElem?_map,List.getElem?_eq_getElem (by omega)]; rfl
   rw [hxs] at h2;have hk:k=((bT.getD i 0:Nat):Int):=by
    have h3:(zx.map EZ)[i]?=some (EZ (xs[i]'(by omega)).1):=by rw [List.getElem?_map,h2]; rfl
    rw [Gl,List.getElem?_map,List.getElem?_range hi] at h3;rw [hy,hys3,r0,r1,r2] at h3;exact (Option.some.inj h3).symm
   have hb:b=cg i:=by
    have h3:(zx.map JG)[i]?=some (JG (xs[i]'(by omega)).1):=by rw [List.getElem?_map,h2]; rfl
    rw [ID,List.getElem?_map,List.getElem?_range hi] at h3;rw [hy,hys3,r0,r1,r2] at h3;exact (Option.some.inj h3).symm
   have hs:s=cb i:=by
    have h3:(zx.map Kd)[i]?=some (Kd (xs[i]'(by omega)).1):=by rw [List.getElem?_map,h2]; rfl
    rw [Is,List.getElem?_map,List.getElem?_range hi] at h3;rw [hy,hys3,r0,r1,r2] at h3;exact j8 (Option.some.inj h3).symm
   rw [hk,hb,hs]
 apply List.ext_getElem?;intro j
 by_cases hj:j<129
 ·obtain ⟨a,b,hab,hb⟩:∃ a b,j=a*3+b∧b<3:=⟨j / 3,j % 3,by omega,by omega⟩
  subst hab;unfold ma;rw [wX (fun k=>[Value.string (cb k),.int .u8 (cg k),.int .i64 (bT.getD k 0:Nat)]) 3 (fun x=>rfl) _ a b hb,List.getElem?_range (by omega)];show cs[a*3+b]?=[Value.string (cb a),.int .u8 (cg a),.int .i64 ((bT.getD a 0:Nat):Int)][b]?
  have:=each a (by omega)
  rw [← this,List.getElem?_take,if_pos hb,List.getElem?_drop]
 ·have hr:(ma cb cg).length=129:=zg _ _;rw [List.getElem?_eq_none (by omega),List.getElem?_eq_none (by omega)]
theorem C2 {P:Program} {W:World} {name:String} {g:Nat} {cs:Array Value} (hg:P.globalNamed name=some g) (hv:W.var? P name=some cs):∃ e f,W.heap[g]?=some (.cells cs e f):=by
 unfold World.var? at hv;rw [hg] at hv;have hv:(match (W.heap[g]?:Option Obj) with | some (.cells cs _ _)=>some cs | _=>none)=some cs:=hv;split at hv
 ·rename_i cs' e f hh;cases hv;exact ⟨e,f,hh⟩
 ·cases hv
theorem KC : Tryz.prog.underlying 29 = some (.interface #[("Error", 85)]) := by kernel_rfl
theorem Ia {W:World} (h:laidMetH Tryz.prog Rows.unitAssemblesRow.laid W):nq W.heap∧Laid W.heap∧nK W.heap:=by
 rw [MakeChecks.laidMetH_plain _ _ _ (by kernel_rfl)] at h;obtain ⟨ps,⟨g0,t0,cs0,f0,p0,q0,hg0,ht0,hv0,hd0,⟨g1,t1,cs1,f1,p1,q1,hg1,ht1,hv1,hd1,⟨g2,t2,cs2,f2,p2,q2,hg2,ht2,hv2,hd2,⟨g3,t3,cs3,f3,p3,q3,hg3,ht3,hv3,hd3,⟨g4,t4,cs4,f4,p4,q4,hg4,ht4,hv4,hd4,⟨g5,t5,cs5,f5,p5,q5,hg5,ht5,hv5,hd5,_,_⟩,_⟩,_⟩,_⟩,_⟩,_⟩,_,_⟩:=h;obtain rfl:=Option.some.inj ((show Tryz.prog.globalNamed _=some 3 by kernel_rfl).symm.trans hg2);obtain rfl:=Option.some.inj ((show Tryz.prog.globalNamed _=some 1 by kernel_rfl).symm.trans hg3);obtain rfl:=Option.some.inj ((show Tryz.prog.globalNamed _=some 5 by kernel_rfl).symm.trans hg4);obtain rfl:=Option.some.inj ((show Tryz.prog.globalNamed _=some 4 by kernel_rfl).symm.trans hg5);have h2:(Tryz.prog.globals[3]?).map (·.type)=some 295:=by kernel_rfl
 obtain rfl:=Option.some.inj (h2.symm.trans ht2);have h3:(Tryz.prog.globals[1]?).map (·.type)=some 215:=by kernel_rfl
 obtain rfl:=Option.some.inj (h3.symm.trans ht3);have h4:(Tryz.prog.globals[5]?).map (·.type)=some 29:=by kernel_rfl
 obtain rfl:=Option.some.inj (h4.symm.trans ht4);have h5:(Tryz.prog.globals[4]?).map (·.type)=some 29:=by kernel_rfl
 obtain rfl:=Option.some.inj (h5.symm.trans ht5);have hc:=Lib.cells_of_tab (n:=20) (e:=209) (k:=.u64) (zs:=Lib.pow10Tab) (by kernel_rfl) (by kernel_rfl) (by kernel_rfl) (by kernel_rfl) hd2;have hr:=Er hd3;obtain ⟨e2,ff2,ho2⟩:=C2 hg2 hv2;obtain ⟨e3,ff3,ho3⟩:=C2 hg3 hv3;obtain ⟨_,w4,v4,e4,_⟩:=iface_of_trod KC hd4;obtain ⟨_,w5,v5,e5,_⟩:=iface_of_trod KC hd5;have c4:=World.var?_cell hg4 hv4 0;have c5:=World.var?_cell hg5 hv5 0;rw [← Array.getElem?_toList,e4] at c4;rw [← Array.getElem?_toList,e5] at c5;refine ⟨⟨e3,ff3,?_⟩,⟨⟨_,c5,rfl⟩,⟨_,c4,rfl⟩⟩,⟨e2,ff2,?_⟩⟩
 ·rw [ho3,← hr]
 ·rw [ho2,← hc]
theorem K9:Kids Tryz.prog (·<Tryz.prog.types.size):=kids_rows (by kernel_rfl) (by kernel_rfl)
theorem sliceB:((List.range Tryz.prog.types.size).all fun t=>match Tryz.prog.underlying t with | some (.slice e)=>decide (0<Tryz.prog.cellsOf e) | _=>true)=true:=by kernel_rfl
theorem Kf {t e:TypeId} (ht:t<Tryz.prog.types.size) (hu:Tryz.prog.underlying t=some (.slice e)):0<Tryz.prog.cellsOf e:=by
 have:=List.all_eq_true.1 sliceB t (List.mem_range.2 ht)
 rw [hu] at this;exact of_decide_eq_true this
theorem pj {H:Type} {enc:TypeId × Value→H} {W W':World} {sp:Nat→Bool} (hB:Below W.heap.size W W'):∀ {ts:List TypeId} {vs:List Value} {ds:List (DataW H)} {ps:List MemPlace},(∀ t∈ts,t<Tryz.prog.types.size) →
  DataW.TrodAll enc Tryz.prog W 0 (fun _=>true) true ts vs ds ps→(∀ p∈ps,p.block<W.heap.size)→(∀ p∈ps,sp p.block=true)→DataW.TrodAll enc Tryz.prog W' 0 sp true ts vs ds ps
 | [],_,_,_,_,h,_,_=>by
  obtain ⟨rfl,rfl,rfl⟩:=trodAll_nil h;exact trodAll_mk0
 | t::ts,_,_,_,ht,h,hl,hs=>by
  obtain ⟨v,vs1,d,ds1,a,b,rfl,rfl,rfl,⟨n,h1⟩,h2⟩:=trodAll_cons h;exact ⟨a,b,⟨n,DataW.trod_stays K9 (fun h hu=>Kf h hu) (fun h=>by cases h) (ht t (List.mem_cons_self ..)) h1 (fun p hp=>Cc hB (hl p (List.mem_append_left _ hp))) (fun p hp=>hs p (List.mem_append_left _ hp))⟩,
   pj hB (fun t h=>ht t (List.mem_cons_of_mem _ h)) h2 (fun p hp=>hl p (List.mem_append_right _ hp)) (fun p hp=>hs p (List.mem_append_right _ hp)),rfl⟩
theorem FW {H:Type} {enc:TypeId × Value→H} {f:Func} {s:ChangeSpec} {apart fresh handsOn:Bool} {W W':World} {args:Array Value} {v:Value} {ds gs:List (DataW H)} {before:List MemPlace} (hv0:s.vars=[])
  (hW:DataW.Whole enc Tryz.prog f.params.toList s.vars apart W args.toList ds gs before)
  (hres:∀ (b:Nat) (sp:Nat→Bool) (hd:Bool),DataW.TrodAll enc Tryz.prog W' b sp hd f.resultTypes.toList (v.resultList f.resultTypes.size) (s.fn H (ds++gs)).results [])
  (hargs:(s.fn H (ds++gs)).args=ds) (fw:(s.fn H (ds++gs)).vars=[]) (hts:∀ t∈f.params.toList,t<Tryz.prog.types.size) (hB:Below W.heap.size W W') :
  s.post enc Tryz.prog f apart fresh handsOn false W args v W':=by
 have hlt:=hW.lt;have hW':=hW;obtain ⟨p,q,hA,hV,rfl,hz,hn⟩:=hW;rw [hv0] at hV;obtain ⟨rfl,rfl⟩:=trodVars_none hV;rw [List.append_nil] at hlt hW';refine ⟨ds,[],p,[],p,[],hW',hres _ _ _,?_,?_,hB.frame _,fun h=>by cases h⟩
 ·rw [hargs];exact pj hB hts hA hlt (fun p hp=>decide_eq_true (hlt p hp))
 ·rw [fw,hv0] <;> rfl
theorem M3:Ag Tryz.prog 94=some [(91,0),(92,1)]:=by kernel_rfl
theorem M2:Ag Tryz.prog 96=some [(3,0),(9,1),(90,2),(94,7),(3,9)]:=by kernel_rfl
section
variable {H:Type} {enc:TypeId × Value→H} {W:World} {base n:Nat} {sp:Nat→Bool} {held:Bool} {cs:List Value} {y:DataW H × List MemPlace}
end
open Go.ChangeMaps
theorem zO {w:World} (h:w.ShapedOpen Tryz.prog):∃ m,w.cell? ⟨2,0,none⟩=some (.int .i64 m) :=
 cell_of_shapedOpen_int (g:=2) (t:=3) (zero:=#[.int .i64 0]) h (of_decide_eq_true (by kernel_rfl)) (by kernel_rfl) rfl (by kernel_rfl) (by kernel_rfl) (by kernel_rfl)
theorem Lr {W:World} (h:nq W.heap∧Laid W.heap∧nK W.heap) (hs:W.ShapedOpen Tryz.prog):Fx W.heap:=by
 obtain ⟨m,hm⟩:=zO hs;exact ⟨h.1,h.2.1,h.2.2,m,by rw [dC] at hm; exact hm,trivial⟩
theorem vR {H:Type} {enc:TypeId × Value→H} {a:Assume} {C:Checked} {os:Os} {f:FuncId} {fn:Func} {s:ChangeSpec} {conds:List PathCond} {apart fresh handsOn again:Bool} {X:World→Array Value→Prop}
  (hX:∀ (w w':World) (args:Array Value),w.heap=w'.heap→X w args→X w' args)
  (own:ownKnob C.prog.godebug=none) (started:os.Started) (noInit:C.prog.inits.idxOf? f=none) (hfn:C.prog.funcs[f]?=some fn)
  (witness:∃ (w:World) (tape:Tape) (i:Input),w.os=os∧(w.forCall tape i).Shaped C.prog∧i.vars=[]∧Input.okWide C.prog (w.forCall tape i) .any w.heap.size f i ∧
   ((s.pre enc C.prog fn conds apart (w.forCall tape i).memory i.args∧X (w.forCall tape i).memory i.args)∧sizedMet enc C.prog fn (OpenSpec.ofChange s) apart (w.forCall tape i).memory i.args)∧a.holds C.prog (lone (Frame.enter C.prog f i.args .normal) [] (w.forCall tape i)))
  (contract:∀ (W:World) (base:Nat) (args:Array Value) (ds gs:List (DataW H)) (before:List MemPlace),
   (∀ (j:Nat) t v,fn.params[j]?=some t→args[j]?=some v→Value.okWide C.prog W .any base t v) →
   DataW.Whole enc C.prog fn.params.toList s.vars apart W args.toList ds gs before→W.ShapedOpen C.prog→X W args →
   Calls C.prog f args W fun e W'=>∃ v,e=.returned v∧s.post enc C.prog fn apart fresh handsOn again W args v W') :
  ReturnsInHanded a C os f .any (fun w args=>(s.pre enc C.prog fn conds apart w args∧X w args)∧sizedMet enc C.prog fn (OpenSpec.ofChange s) apart w args) (s.post enc C.prog fn apart fresh handsOn again):=by
 refine returnsInHanded_of_calls own started noInit witness ?_;intro w tape i _ hsh _ hok hpre hholds;obtain ⟨_,_,_,fn',hfn',_,_,_,_,hval⟩:=hok;have e:fn'=fn:=Option.some.inj (hfn'.symm.trans hfn);subst e;obtain ⟨⟨⟨ds,gs,before,hw,hc⟩,hx⟩,hz⟩:=hpre;have hw':=DataW.Whole.of_heap (w':=w.forCall tape i) (by rfl) hw;refine (contract (w.forCall tape i) w.heap.size i.args ds gs before hval hw' hsh (hX _ _ _ (by rfl) hx)).mono fun e W' ⟨v,he,hp⟩=>?_
 subst he;exact ChangeSpec.post_blind hp
theorem MX : Tryz.prog.globalNamed "errors.errorType" = some 0 := by kernel_rfl
theorem M0 : (Tryz.prog.cutTypes.find? (·.1 == "internal/reflectlite.rtype")).map (·.2) = some 163 := by kernel_rfl
theorem IE:((List.range 342).filter fun t=>Tryz.prog.rowNamed t [101,114,114,111,114])=[29]:=by kernel_rfl
theorem K7:Tryz.prog.types.size=342:=by kernel_rfl
theorem Ax {W:World} (h:laidMetH Tryz.prog Rows.unitFineRow.laid W):(nq W.heap∧Laid W.heap∧nK W.heap)∧DQ W.heap:=by
 have hq : laidMetH Tryz.prog Rows.unitFineRow.laid W = (laidMet Tryz.prog Rows.unitAssemblesRow.laid W ∧ handlesMet Tryz.prog [("errors.errorType", Rows.laid_errors_errorType)] W) := by kernel_rfl
 have h':=hq▸h;refine ⟨Ia (by rw [MakeChecks.laidMetH_plain _ _ _ (by kernel_rfl)]; exact h'.1),?_⟩;obtain ⟨name, u, ty, e1, e2, e3, e4, e5⟩ := h'.2 ("errors.errorType", Rows.laid_errors_errorType) (.head _)
 have en:name=[101,114,114,111,114]:=(Option.some.inj e1).symm;subst en;obtain rfl:=Option.some.inj (M0.symm.trans e2);have hm:ty∈(List.range 342).filter fun t=>Tryz.prog.rowNamed t [101,114,114,111,114]:=List.mem_filter.2 ⟨List.mem_range.2 (by rw [← K7]; exact e3),e4⟩
 rw [IE] at hm;obtain rfl:=List.mem_singleton.1 hm;have hh:typeHandle Tryz.prog 29=.pointer (some ⟨8,29,none⟩):=by kernel_rfl
 rw [hh] at e5
 have:=World.var?_cell MX e5 0
 exact ⟨by rw [Hk]; rw [dC] at this; simpa using this,trivial⟩
theorem Em (os:Os) (args:Array Value):laidMetH Tryz.prog Rows.unitFineRow.laid ((World.doorLaid Tryz.prog 400 os).forCall (fun _ _=>0) ⟨#[],args,[]⟩).memory :=
 laidMetH_of_parts3 (fuel:=8) (laidMet_of_run' 8 (by kernel_rfl) (by kernel_rfl)) (by kernel_rfl) (by kernel_rfl)
theorem v8:(Tryz.f7.params.toList.all fun t=>decide (t<Tryz.prog.types.size))=true:=by kernel_rfl
theorem wI:Tryz.prog.inPlace 7=Rows.unitFineRow.inPlace:=by kernel_rfl
theorem uU:Tryz.prog.unfollowed 7=Rows.unitFineRow.unfollowed:=by kernel_rfl
theorem uL:Tryz.prog.recurses 7=Rows.unitFineRow.recurses:=by kernel_rfl
theorem vG:Tryz.prog.varsNamed 7=Rows.unitFineRow.named:=by kernel_rfl
theorem vO:joinedFacts Tryz.prog 7 Tryz.f7 Rows.unitFineSpec Rows.unitFineRow=true:=by
 unfold joinedFacts;rw [wI,uU,uL,vG]
 kernel_rfl
theorem tZ (os:Os) (started:os.Started) (H:Type) (enc:TypeId × Value→H) :
  ReturnsInHanded {} Tryz.checked os 7 .any (fun w args=>(Rows.unitFineSpec.pre enc Tryz.prog Tryz.f7 [] false w args∧laidMetH Tryz.prog Rows.unitFineRow.laid w)∧sizedMet enc Tryz.prog Tryz.f7 (OpenSpec.ofChange Rows.unitFineSpec) false w args)
   (Rows.unitFineSpec.post enc Tryz.prog Tryz.f7 false true false false):=by
 refine vR (C:=Tryz.checked) (X:=fun w _=>laidMetH Tryz.prog Rows.unitFineRow.laid w) (fun _ _ _ hh h=>h.of_heap hh) Mx started (by kernel_rfl) Tryz.func7
  (ChangeSpec.witness_shaped (enc:=enc) (C:=Tryz.checked) (os:=os) (X:=fun w _=>laidMetH Tryz.prog Rows.unitFineRow.laid w) false (World.doorLaid Tryz.prog 400 os) #[.string ⟨#[]⟩,.string ⟨#[]⟩] 8 rfl (World.shaped_of_RefB (by kernel_rfl) (by kernel_rfl)) (by kernel_rfl) (by kernel_rfl) (by kernel_rfl) (Em os _)) ?_
 intro W base args ds gs before hval0 hW hsh hL;have hval:∀ (j:Nat) t v,Tryz.f7.params[j]?=some t→args[j]?=some v→Value.okWide Tryz.prog W .any base t v:=hval0
 have hW':=hW;obtain ⟨p,q,hA0,hV,rfl,hfz,hnd⟩:=hW;have hA:DataW.TrodAll enc Tryz.prog W 0 (fun _=>true) true Tryz.f7.params.toList args.toList ds p:=hA0;have hpf:Tryz.f7.params=#[9,9]:=by kernel_rfl
 rw [hpf] at hA hval;clear hA0 hval0;obtain ⟨v0,vs0,d0,ds0,p0,q0,hv0,rfl,rfl,t0,hA1⟩:=trodAll_cons hA;obtain ⟨v1,vs1,d1,ds1,p1,q1,hv1,rfl,rfl,t1,hA2⟩:=trodAll_cons hA1;subst hv1;obtain ⟨rfl,rfl,rfl⟩:=trodAll_nil hA2;obtain ⟨args⟩:=args;simp only at hv0;subst hv0;obtain ⟨rfl,rfl⟩:=trodVars_none hV;obtain ⟨x0,rfl,rfl,rfl,h0⟩:=open_string u9 (hval 0 9 v0 rfl rfl) t0;obtain ⟨x1,rfl,rfl,rfl,h1⟩:=open_string u9 (hval 1 9 v1 rfl rfl) t1;simp only [List.append_nil] at hW';refine (AU (H6 x0 x1 _ (Lr (Ax hL).1 hsh) (Ax hL).2) (fun _ _ h=>h.2)).mono fun e W' ⟨v,he,hB,hv,_⟩=>?_
 subst he hv;exact ⟨_,rfl,FW rfl hW' (fun _ _ _=>trodAll_mk1 (shut_bool u4 _)) rfl rfl (fun t ht=>of_decide_eq_true (List.all_eq_true.1 v8 t ht)) hB⟩
theorem vu:Rows.UnitFineSaid :=
 OpenClaim.holds_of_wide 7 Tryz.f7 rfl rfl rfl rfl rfl rfl rfl ⟨rfl,rfl,rfl,rfl,rfl⟩ rfl rfl rfl rfl rfl (by kernel_rfl) Tryz.func7 vO
  (of_decide_eq_true (by kernel_rfl)) (by unfold Func.isWrapper; first | (rw [if_pos (by decide +kernel)]; kernel_rfl) | (rw [if_neg (by decide +kernel)]; exact ⟨rfl,rfl⟩))
  (fun os started H enc _=>tZ os started H enc)
end Go.Sx.Ob
