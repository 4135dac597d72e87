/- Contracts over heaps, part 6. Condition: as each statement says. -/
import Derived.Test.YthbffkdafjboiaaGreatDoorP5
import Derived.Test.YthbffkdafjboiaaGreatDoorSxZ
import Derived.Test.YthbffkdafjboiaaGreatDoorRows
import Derived.ProofKit
import Derived.LaidMore
import Derived.LaidLaws
import Derived.OpenShut
import Derived.ChangeSame
import Derived.ChangeStays
import Derived.ChangeOld
import Derived.ChangeSlices
import Derived.ChangeMaps5
import Derived.JoinedCond
import Derived.Lib.LaidTab
import Derived.Stop.Joined
import Derived.Test.YthbffkdafjboiaaGreatDoorTie
import Derived.Test.YthbffkdafjboiaaGreatDoorCards
import Derived.SevenTiedAt
set_option linter.all false
set_option maxRecDepth 100000
set_option maxHeartbeats 4000000
namespace Go.Sx.Pn
open Go.Proofs Go.Sx.Ob Go.Sx.Lk
variable {sd lb:cr} {r:Nat} {rs:List Int}
def GM {s:Xaa} {n k:Nat} (h:jy s n=some k):k<n:=by
 unfold jy at h;split at h
 ·cases h
 ·split at h
  ·next hc=>cases h; exact hc.2.2.2
  ·cases h
def Nv {s:Xaa} {L:List Lb} {k:Nat} (hn:L.length<=1000000000) (h:jy s L.length=some k) (hk:k<L.length):gB (nW L 0 []) s=decide (L[k].s=0):=by
 rw [Jj hn,h];simp only [List.getElem?_eq_getElem hk,Option.map_some,Option.some.injEq]
def Ij {s:Xaa} {L:List Lb} (hn:L.length<=1000000000) (h:jy s L.length=none):gB (nW L 0 []) s=false:=by
 rw [Jj hn,h]
def J5 {x:cn} {L:List Lb}:(rc x L.length=none->L.length<=1000000000->kH (nW L 0 []) x=false)/\∀ k,rc x L.length=some k->L.length<=1000000000->∃ hk:k<L.length,kH (nW L 0 []) x=decide (L[k].s=0):=by
 obtain ⟨ts,n⟩:=x
 match ts with
 | []=>exact ⟨fun _ _=>rfl,fun k d=>by cases d⟩
 | _::_::_=>exact ⟨fun _ _=>rfl,fun k d=>by cases d⟩
 | [t] =>
  show ((if t.2=1/\n=0 then jy t.1 L.length else none)=none->L.length<=1000000000->(((t.2:Int)==1) && ((n:Int)==0) && gB (nW L 0 []) t.1)=false)/\∀ k,(if t.2=1/\n=0 then jy t.1 L.length else none)=some k->L.length<=1000000000->∃ hk:k<L.length,(((t.2:Int)==1) && ((n:Int)==0) && gB (nW L 0 []) t.1)=decide (L[k].s=0)
  by_cases h:t.2=1/\n=0
  ·rw [YC h];have h1:((t.2:Int)==1)=true:=by simp; omega
   have h2:((n:Int)==0)=true:=by simp; omega
   rw [h1,h2,YU,YU];exact ⟨fun d hn=>Ij hn d,fun k d hn=>⟨GM d,Nv hn d (GM d)⟩⟩
  ·rw [Yx h];refine ⟨fun _ _=>?_,fun k d=>by cases d⟩
   have:(((t.2:Int)==1) && ((n:Int)==0))=false:=by
    rw [Bool.and_eq_false_iff];simp only [beq_eq_false_iff_ne,ne_eq];omega
   rw [this] <;> rfl
def PT (op:Int):cC op<=13:=by
 unfold cC;split
 ·omega
 ·have h1:∀ k,k<43->iN.getD k 0<=13:=cm
  have h2:∀ k,¬ k<43->iN.getD k 0<=13:=fun k hk=>by
   rw [Zh,Y9 (by show 43<=k; omega)];decide
  exact (Decidable.em _).elim (h1 _) (h2 _)
def Mo {nm:Nat->Xaa} {by_:Nat->Int} {k:Nat} (hk:k<43):(gw nm by_)[k*3]?=some (.string (nm k)):=by
 have:=oM (fun k=>[Value.string (nm k),.int .u8 (by_ k),.int .i64 (iN.getD k 0:Nat)]) 3 aj (List.range 43) k 0 ad
 unfold gw;rw [bm9] at this;rw [this];simp [hk]
def W7 (nm:Nat->Xaa) (D:List (Xaa × Xab)) (x:cB) (sec:Int):yb nm D x sec 1=(x.kind==2 && ((ByteArray.toList (KT nm x.inst.op))==[({ toBitVec:=106#8 }),({ toBitVec:=114#8 })])):=rfl
def W9 (nm:Nat->Xaa) (D:List (Xaa × Xab)) (x:cB) (sec:Int):yb nm D x sec 2=(x.kind==2 && nq x.inst.op && !kH D x.e):=rfl
def Xb (nm:Nat->Xaa) (D:List (Xaa × Xab)) (x:cB) (sec:Int):yb nm D x sec 3=((x.kind==6 || (x.kind==2 && (((cC x.inst.op:Nat):Int)==10 || ((cC x.inst.op:Nat):Int)==11))) && x.e.ai.any fun t=>gB D t.1):=rfl
def Xg (nm:Nat->Xaa) (D:List (Xaa × Xab)) (x:cB) (sec:Int):yb nm D x sec 4=(if x.kind==3 then sec==0 else false):=by
 show (x.kind==3 && sec==0:Bool)=_
 all_goals (cases x.kind==3 <;> rfl)
def O9 {h:Hp} {g:Nat} {su st:cr} {L:List Lb} (pr:Bf h g su lb st sd L) (hL:L.length<=2^29) {q:Xac} {l c:Nat} {x:cB} (v:js h q l x) (hop:x.kind=2->cC x.inst.op≠0) (sec:Int) (r:Nat) (hr:1<=r) (hr4:r<=4) :
  HC Tryz.prog 54 #[.pointer (some ⟨g,0,none⟩),.agg (encI q l c x).toArray,.int .i64 sec,.int .i64 (r:Int)] h fun w h'=>w=.bool (yb fj (nW L 0 []) x sec r)/\Ext h h':=by
 refine aY (args:=[.pointer (some ⟨g,0,none⟩),.agg (encI q l c x).toArray,.int .i64 sec,.int .i64 (r:Int)]) mixed Tryz.func54 az (nJ (some ⟨g,0,none⟩) x.kind x.name x.inst.op x.inst.a x.inst.b x.inst.n x.inst.form q l c x.e.num x.n sec r) ?_;unfold jl bf bg bz aK ct bJ bt bm aH K3 bC dy aP bR;refine br ?_;intro h1 b1 e1 z1;have b1:bI h1 h.size 71 (encI q l c x):=b1;rw [aE,aE];have X:lb.l=L.length:=by have:=pr.oc.1; rwa [Yu] at this
 have Y:L.length<=1000000000:=ad
 have O:∀ {h2:Hp} {K:Xab->Hp->Prop} {Lp':Lp} {k:Int->T} (n:Nat) (hn:n<L.length),Ext h h2->k (L[n].s:Int) Lp' K h2 ->
   T.bi (some (⟨g,0,none⟩:Xax)) (fun (a16:Xax)=>T.ah (a16.add 1) [.slice 158] <| fun (p17:Xac) (l18:Nat) (l19:Nat)=>T.need (((0:Int)<=(n:Int))/\((n:Int)<(l18:Int))) <|
    T.bi p17 <| fun (a20:Xax)=>T.ah ((a20.add ((Int.toNat (n:Int))*4)).add 1) [.int .i64] k) Lp' K h2:=by
  intro h2 K Lp' k n hn e hk;have p2:=pr.an e;refine av rfl ?_;rw [aE];refine af p2.box ((lb.p,lb.l,lb.c),()) rfl (ak ?_);obtain ⟨a,ha,hc⟩:=p2.oc.cells (i:=n) (by rw [Yu]; exact hn);rw [YE] at hc;refine ax ⟨ad,ad⟩ (av ha ?_);rw [show Int.toNat (n:Int)=n from ad];have hc:aJ h2 (a.add (n*4)) 0 [.int .i64 (L[n].u:Int),.int .i64 (L[n].s:Int),.int .i64 (L[n].i:Int),.string L[n].n]:=hc;exact ay ((L[n].s:Int),()) (ko [.int .i64 (L[n].s:Int)] 1 0 ⟨hc.2.1,trivial⟩) hk
 refine fJ (cs:=[(false,[.int .i64])]) (fun y h'=>y.1=((if x.kind=2 then cC x.inst.op else 0:Nat):Int)/\Ext h1 h') ?_ ?_
 ·refine af b1 (x.kind,()) rfl (ak ?_);refine ar (fun G=>?_) (fun G=>?_)
  ·have G:x.kind=2:=eq_of_beq G;refine af b1 (x.inst.op,()) rfl (ak ?_);refine aI (ow h1 x.inst.op v.op) ?_;rintro _ h2 ⟨rfl,e2⟩;refine ⟨(((cC x.inst.op:Nat):Int),()),rfl,ak ?_⟩;exact cT (cs:=[(false,[.int .i64])]) (((cC x.inst.op:Nat):Int),()) rfl rfl ⟨by rw [YC G],e2⟩
  ·have G:¬ x.kind=2:=ne_of_beq_false G;exact cT (cs:=[(false,[.int .i64])]) ((0:Int),()) rfl rfl ⟨by rw [Yx G]; rfl,Ch.refl _ _⟩
 rintro ⟨n5,⟨⟩⟩ h2 ⟨hn5,e2⟩;simp only at hn5;subst hn5;refine ak ?_;have b2:=b1.an e2 aj;have d:=e1.trans e2;have v2:=v.an d;have hrc:r=1\/r=2\/r=3\/r=4:=ad
 have st13:=PT x.inst.op;rcases hrc with rfl | rfl | rfl | rfl
 ·rw [show ((1:Nat):Int)=1 from rfl,W7];refine bk rfl ?_;refine af b2 (x.kind,()) rfl (ak ?_);refine ar (fun G=>?_) (fun G=>?_)
  ·rw [G,YU];have G:x.kind=2:=eq_of_beq G;have h0:=hop G;have hle:=zQ x.inst.op h0;refine af b2 (x.inst.op,()) rfl (ak ?_);refine aI (Nx h2) ?_;rintro _ h3 ⟨rfl,b3,U⟩;refine ⟨((some ⟨h2.size,0,none⟩,43,43),()),rfl,ak ?_⟩;have b2':=b2.an U aj;refine ⟨⟨b2'.cells _ rfl,b2'.cells _ rfl,trivial⟩,?_⟩;obtain ⟨k,hk⟩:∃ k:Nat,x.inst.op=(k:Int)+1:=⟨(x.inst.op-1).toNat,ad⟩
   have hk43:k<43:=ad
   have hw:IntKind.wrap .i64 (x.inst.op-1)=(k:Int):=by rw [wrap_i64 ad ad]; omega
   rw [hw];refine ax ⟨ad,ad⟩ (av rfl ?_);rw [show Int.toNat (k:Int)=k from rfl,aE];refine af b3 (fj k,()) ?_ ?_
   ·show List.take 1 (List.drop (0+k*3) (gw fj rR))=[.string (fj k)]
    have:=Mo (nm:=fj) (by_:=rR) hk43
    rw [Y7];obtain ⟨hlt,hv⟩:=YO.1 this;rw [YK hlt,List.take_succ_cons,List.take_zero,hv]
   ·have:KT fj x.inst.op=fj k:=by
     unfold KT;rw [Yx h0,show (x.inst.op-1).toNat=k from ad]
    rw [this];exact ⟨rfl,d.trans U⟩
  ·rw [G,bu9];exact ⟨rfl,d⟩
 ·rw [show ((2:Nat):Int)=2 from rfl,W9];refine bG rfl (bk rfl ?_);refine fJ (cs:=[(false,[.bool])]) (fun y h'=>y.1=false/\x.kind=2/\nq x.inst.op=true/\h'=h2) ?_ ?_
  ·have hno:¬ (x.kind=2/\12<=cC x.inst.op)->(x.kind==2 && nq x.inst.op && !kH (nW L 0 []) x.e)=false:=by
    intro hh
    have:(x.kind==2 && nq x.inst.op)=false:=by
     rw [Bool.eq_false_iff];intro ht;rw [YZ] at ht;exact hh ⟨eq_of_beq ht.1,Yz ht.2⟩
    rw [this] <;> rfl
   have hyes:x.kind=2/\12<=cC x.inst.op->x.kind=2/\nq x.inst.op=true:=fun hh=>⟨hh.1,YA hh.2⟩
   refine ar (fun F=>?_) (fun F=>?_)
   ·refine ar (fun J=>?_) (fun J=>?_)
    ·have F:¬ ((if x.kind=2 then cC x.inst.op else 0:Nat):Int)=12:=by simpa using F
     have J:¬ ((if x.kind=2 then cC x.inst.op else 0:Nat):Int)=13:=by simpa using J
     rw [hno (by
      rintro ⟨a1,a2⟩;rw [YC a1] at F J;omega)]
     exact ⟨rfl,d⟩
    ·have J:((if x.kind=2 then cC x.inst.op else 0:Nat):Int)=13:=by simpa using J
     refine cT (cs:=[(false,[.bool])]) (false,()) rfl rfl ⟨rfl,?_⟩;split at J
     ·next hk=>exact ⟨hk,YA ad,rfl⟩
     ·omega
   ·have F:((if x.kind=2 then cC x.inst.op else 0:Nat):Int)=12:=by simpa using F
    refine cT (cs:=[(false,[.bool])]) (false,()) rfl rfl ⟨rfl,?_⟩;split at F
    ·next hk=>exact ⟨hk,YA ad,rfl⟩
    ·omega
  rintro ⟨b6,⟨⟩⟩ _ ⟨hb6,G,hsp,rfl⟩;refine ak ?_;rw [show (x.kind==2)=true by rw [G]; rfl,hsp,YU,YU];refine af b2 ((q,l,c),(x.e.num:Int),()) rfl (ak ?_);have p2:=pr.an d;refine av rfl ?_;rw [aE];refine af p2.box ((lb.p,lb.l,lb.c),()) rfl (ak ?_);rw [X];refine aI (Ex v2.lin L.length) ?_;rintro _ h3 ⟨rfl,U⟩;refine ⟨(KU (rc x.e L.length),()),rfl,ak ?_⟩;have b3:=(p2.an U).box.cells (off:=1) [.slice lb.p lb.l lb.c] rfl;rw [X] at b3;refine ⟨⟨b3,trivial⟩,?_⟩;have hal:=J5 (x:=x.e) (L:=L);cases ha:rc x.e L.length with
  | none =>
   rw [hal.1 ha Y];exact bk rfl ⟨rfl,d.trans U⟩
  | some k =>
   obtain ⟨hk,hb⟩:=hal.2 k ha Y;rw [hb];refine bG (by show decide ((k:Int)<0)=false; simp) ?_;refine O k hk (d.trans U) ?_;refine ⟨?_,d.trans U⟩
   congr 1
   rw [Z3]
   simp
 ·rw [show ((3:Nat):Int)=3 from rfl,Xb];refine bG rfl (bG rfl (bk rfl ?_));refine fJ (cs:=[(false,[.bool])]) (fun y h'=>(x.kind==6 || (x.kind==2 && (((cC x.inst.op:Nat):Int)==10 || ((cC x.inst.op:Nat):Int)==11)))=true/\h'=h2) ?_ ?_
  ·refine af b2 (x.kind,()) rfl (ak ?_);refine ar (fun q0=>?_) (fun q0=>?_)
   ·have q0:¬ x.kind=6:=by simpa using q0
    refine ar (fun F=>?_) (fun F=>?_)
    ·have F:¬ ((if x.kind=2 then cC x.inst.op else 0:Nat):Int)=10:=by simpa using F
     refine ar (fun J=>?_) (fun J=>?_)
     ·have J:¬ ((if x.kind=2 then cC x.inst.op else 0:Nat):Int)=11:=by simpa using J
      have:(x.kind==6 || (x.kind==2 && (((cC x.inst.op:Nat):Int)==10 || ((cC x.inst.op:Nat):Int)==11)))=false:=by
       rw [Bool.eq_false_iff];simp only [ne_eq,Bool.or_eq_true,Bool.and_eq_true,beq_iff_eq];rintro (a | ⟨a,b⟩)
       ·exact q0 a
       ·rw [YC a] at F J;omega
      rw [this,bu9];exact ⟨rfl,d⟩
     ·have J:((if x.kind=2 then cC x.inst.op else 0:Nat):Int)=11:=by simpa using J
      refine cT (cs:=[(false,[.bool])]) (false,()) rfl rfl ⟨?_,rfl⟩;split at J
      ·next hk =>
       simp only [Bool.or_eq_true,Bool.and_eq_true,beq_iff_eq];exact .inr ⟨hk,.inr J⟩
      ·omega
    ·have F:((if x.kind=2 then cC x.inst.op else 0:Nat):Int)=10:=by simpa using F
     refine cT (cs:=[(false,[.bool])]) (false,()) rfl rfl ⟨?_,rfl⟩;split at F
     ·next hk =>
      simp only [Bool.or_eq_true,Bool.and_eq_true,beq_iff_eq];exact .inr ⟨hk,.inl F⟩
     ·omega
   ·have q0:x.kind=6:=by simpa using q0
    exact cT (cs:=[(false,[.bool])]) (false,()) rfl rfl ⟨by rw [q0]; rfl,rfl⟩
  rintro ⟨b6,⟨⟩⟩ h2 ⟨hyes,rfl⟩;refine ak ?_;rw [hyes,YU];have hln:=v.lin.vw.len;have hlm:=v.lin.many;refine aS (cs:=[(false,[.bool]),(false,[.int .i64])]) (fun y k h'=>∃ i:Nat,y.2.1=(i:Int)/\k=l-i/\i<=l/\((x.e.ai.take i).any fun t=>gB (nW L 0 []) t.1)=false/\Ext h2 h') (b6,(0:Int),()) l rfl ⟨0,rfl,rfl,ad,rfl,Ch.refl _ _⟩ ?_;rintro ⟨b7,n8,⟨⟩⟩ kk h3 ⟨i,hi,rfl,hile,V,U⟩;simp only at hi;subst hi;refine ak ?_;have b3:=b2.an U aj;have Z:=d.trans U;refine af b3 ((q,l,c),()) rfl (ak ?_);refine aM (fun g1=>?_) (fun g1=>?_)
  ·have hit:i<x.e.ai.length:=ad
   obtain ⟨a,ha,hc⟩:=(v2.lin.vw.an U aj).cells i hit;have hc:aJ h3 (a.add (i*2)) 0 [.string x.e.ai[i].1,.int .u32 (x.e.ai[i].2:Int)]:=hc;refine af b3 ((q,l,c),()) rfl (ak ?_);refine ax ⟨ad,ad⟩ (av ha ?_);rw [show Int.toNat (i:Int)=i from ad];refine ay (x.e.ai[i].1,()) ⟨hc.1,trivial⟩ (ak ?_);have p3:=pr.an Z;refine av rfl ?_;rw [aE];refine af p3.box ((lb.p,lb.l,lb.c),()) rfl (ak ?_);refine jC (cells:=[.string x.e.ai[i].1,.int .u32 1]) xQ rl cm cm az ?_;intro h4 b4 e4 z4;have hst:∀ h',Ext h3 h'->T.BC h' [(⟨g,0+1,none⟩,[.slice lb.p lb.l lb.c]),(a.add (i*2),[.string x.e.ai[i].1]),(⟨h.size,0+7,none⟩,[.slice q l c])]:=by
    intro h' e;exact ⟨(p3.an e).box.cells _ rfl,⟨(aT e aj _ _ hc).1,trivial⟩,(b3.an e aj).cells _ rfl,trivial⟩
   refine ⟨hst h4 e4,?_⟩;have hnm:=v.lin.names _ (YD hit);have vl:oK h4 (some ⟨h3.size,0,none⟩) 1 ⟨[(x.e.ai[i].1,1)],0⟩:=by
    refine ⟨⟨rfl,fun j hj=>?_⟩,aj,fun t ht=>?_⟩
    ·have hj:j=0:=by simp at hj; omega
     subst hj;exact ⟨_,rfl,b4.cells [.string x.e.ai[i].1,.int .u32 1] rfl⟩
    ·rw [YP.1 ht]; exact hnm
   rw [X];refine aI (Ex vl L.length) ?_;rintro _ h5 ⟨rfl,e5⟩;refine ⟨(KU (rc ⟨[(x.e.ai[i].1,1)],0⟩ L.length),()),rfl,ak ?_⟩;have e35:=e4.trans e5;have hst5:=hst h5 e35;rw [X] at hst5;refine ⟨hst5,?_⟩;rw [show rc ⟨[(x.e.ai[i].1,1)],0⟩ L.length=jy x.e.ai[i].1 L.length from (YC ⟨rfl,rfl⟩:(if (1:Nat)=1/\(0:Nat)=0 then jy x.e.ai[i].1 L.length else none)=jy x.e.ai[i].1 L.length)];have hw:=gu i;have go:gB (nW L 0 []) x.e.ai[i].1=false->T.again 0 [.bool b7,.int .i64 (IntKind.wrap .i64 ((i:Int)+1))] ([]++[Jl (cs:=[(false,[.bool]),(false,[.int .i64])]) (fun y k h'=>∃ i:Nat,y.2.1=(i:Int)/\k=l-i/\i<=l/\((x.e.ai.take i).any fun t=>gB (nW L 0 []) t.1)=false/\Ext h2 h') (l-i)]) (fun w h'=>w=.bool (x.e.ai.any fun t=>gB (nW L 0 []) t.1)/\Ext h h') h5:=by
    intro hg;exact aG (cs:=[(false,[.bool]),(false,[.int .i64])]) (b7,((i+1:Nat):Int),()) (l-(i+1)) rfl ad (YJ (fun z=>[Value.bool b7,Value.int .i64 z]) hw) ⟨i+1,rfl,rfl,ad,by rw [Yw hit,bc9,V]; simp [hg],U.trans e35⟩
   cases hlr:jy x.e.ai[i].1 L.length with
   | none=>exact bG rfl (go (Ij Y hlr))
   | some k =>
    have hk:=GM hlr;have hg:=Nv Y hlr hk;refine bk (by show decide ((k:Int)>=0)=true; simp) ?_;refine O k hk (Z.trans e35) ?_;refine ar (fun F=>?_) (fun F=>?_)
    ·have F:(L[k].s:Int)=0:=by simpa using F
     have:(x.e.ai.any fun t=>gB (nW L 0 []) t.1)=true:=ZL.2 ⟨_,YD hit,by rw [hg]; exact YA ad⟩
     rw [this];exact ⟨rfl,Z.trans e35⟩
    ·have F:¬ (L[k].s:Int)=0:=by simpa using F
     exact go (by rw [hg]; exact YB ad)
  ·rw [YW ad] at V;rw [V];exact ⟨rfl,Z⟩
 ·rw [show ((4:Nat):Int)=4 from rfl,Xg];refine bG rfl (bG rfl (bG rfl ?_));refine af b2 (x.kind,()) rfl (ak ?_);refine ar (fun k3=>?_) (fun k3=>?_)
  ·rw [k3];exact ⟨rfl,d⟩
  ·rw [k3];exact ⟨rfl,d⟩
def WS {nm:Nat->Xaa} {D:List (Xaa × Xab)} {p:Wh->Bool} {u s i:Nat} {x:cB} (h:r<5):(Bg nm D u s i x r).find? p=if yb nm D x s r && p ⟨u,s,i,r⟩ then some ⟨u,s,i,r⟩ else (Bg nm D u s i x (r+1)).find? p:=by
 have h1:Bg nm D u s i x r=(if yb nm D x s r then [(⟨u,s,i,r⟩:Wh)] else [])++Bg nm D u s i x (r+1):=by
  unfold Bg;rw [show 5-r=(5-(r+1))+1 from ad,List.range'_succ,ap9];split
  ·next d =>
   split at d
   ·cases d
   ·next hn=>rw [Yx hn]; rfl
  ·next b d =>
   split at d
   ·next hn=>rw [YC hn]; cases d; rfl
   ·cases d
 rw [h1];cases F:yb nm D x s r with
 | false=>rfl
 | true =>
  simp only [if_true,Bool.true_and];cases j:p ⟨u,s,i,r⟩ with
  | true=>simp [j]
  | false=>simp [j]
def Ws {nm:Nat->Xaa} {D:List (Xaa × Xab)} {p:Wh->Bool} {u s i:Nat} {x:cB} (h:5<=r):(Bg nm D u s i x r).find? p=none:=by
 unfold Bg;rw [show 5-r=0 from ad] <;> rfl
def QG {nm:Nat->Xaa} {D:List (Xaa × Xab)} {u s i:Nat} {x:cB} {q:Wh} (h:q∈Bg nm D u s i x r):q=⟨u,s,i,q.r⟩/\r<=q.r:=by
 unfold Bg at h;obtain ⟨k,hk,d⟩:=ZQ.1 h;rw [List.mem_range'_1] at hk;split at d
 ·cases d; exact ⟨rfl,hk.1⟩
 ·cases d
def G6 {h:Hp} {g:Nat} {su st:cr} {L:List Lb} (pr:Bf h g su lb st sd L) (hL:L.length<=2^29) {q:Xac} {l c:Nat} {x:cB} (v:js h q l x) (hop:x.kind=2->cC x.inst.op≠0) {p:Xac} {m d:Nat} (w:wA h p m rs) (u s i:Nat) :
  HC Tryz.prog 27 #[.pointer (some ⟨g,0,none⟩),.agg (encI q l c x).toArray,.int .i64 (s:Int),.slice p m d] h fun z h'=>z=.int .i64 (f4 ((Bg fj (nW L 0 []) u s i x 1).find? (sN rs)))/\Ext h h':=by
 refine aY (args:=[.pointer (some ⟨g,0,none⟩),.agg (encI q l c x).toArray,.int .i64 (s:Int),.slice p m d]) mixed Tryz.func27 az (mI (some ⟨g,0,none⟩) x.kind x.name x.inst.op x.inst.a x.inst.b x.inst.n x.inst.form q l c x.e.num x.n (s:Int) p m d) ?_;unfold iG bf bg bz aK aX aH aP bR;generalize hO:(Bg fj (nW L 0 []) u s i x 1).find? (sN rs)=O;have hlen:=w.len;have hmany:=w.many;refine br ?_;intro h1 b1 e1 z1;have b1:bI h1 h.size 71 (encI q l c x):=b1;refine aS (cs:=[(false,[.int .i64]),(false,[.int .i64])]) (fun y k h'=>∃ r:Nat,y.2.1=(r:Int)/\1<=r/\r<=5/\k=5-r/\Ext h1 h'/\(Bg fj (nW L 0 []) u s i x r).find? (sN rs)=O) ((0:Int),(1:Int),()) 4 rfl ⟨1,rfl,ad,ad,rfl,Ch.refl _ _,hO⟩ ?_;rintro ⟨n5,n6,⟨⟩⟩ k h2 ⟨r,hr,hr1,hr5,rfl,e2,F⟩;simp only at hr;subst hr;refine ak ?_;have hwr:=gu r;refine aM (fun q1=>?_) (fun q1=>?_)
 ·have hr4:r<5:=ad
  rw [WS hr4] at F;refine aS (cs:=[(false,[.bool]),(false,[.int .i64])]) (fun y k h'=>∃ j:Nat,y.2.1=(j:Int)/\j<=m/\k=m-j/\h'=h2/\y.1=decide ((r:Int)∈rs.take j)) (false,(0:Int),()) m rfl ⟨0,rfl,ad,rfl,rfl,rfl⟩ ?_;rintro ⟨b7,n8,⟨⟩⟩ k h2 ⟨j,hj,hjm,rfl,rfl,hb⟩;simp only at hj hb;subst hj hb;refine ak ?_;have G:=e1.trans e2;have U:IntKind.wrap .i64 ((j:Int)+1)=((j+1:Nat):Int)\/¬ j<m:=by
   by_cases hjl:j<m
   ·left; rw [wrap_i64 ad ad]; omega
   ·exact .inr hjl
  refine aM (fun q2=>?_) (fun q2=>?_)
  ·have X:j<rs.length:=ad
   have U:=U.resolve_right ad;have Y:rs.take (j+1)=rs.take j++[rs[j]]:=Yw X;refine aM (fun q3=>?_) (fun q3=>?_)
   ·exact aG (cs:=[(false,[.bool]),(false,[.int .i64])]) (true,((j+1:Nat):Int),()) (m-(j+1)) rfl ad (YJ (fun z=>[Value.bool true,Value.int .i64 z]) U) ⟨j+1,rfl,ad,rfl,rfl,by rw [Y,YA (Y3 _ q3)]⟩
   ·obtain ⟨a,ha,hc⟩:=(w.an G).cells j X;refine ax ⟨ad,ad⟩ (av ha ?_);rw [show Int.toNat (j:Int)=j from ad];refine ay (rs[j],()) hc (ak ?_);refine aG (cs:=[(false,[.bool]),(false,[.int .i64])]) (rs[j]==(r:Int),((j+1:Nat):Int),()) (m-(j+1)) rfl ad (YJ (fun z=>[Value.bool (rs[j]==(r:Int)),Value.int .i64 z]) U) ⟨j+1,rfl,ad,rfl,rfl,?_⟩;show (rs[j]==(r:Int))=_;rw [Y,Z3];simp only [beq_iff_eq,decide_eq_true_eq,List.mem_append,List.mem_singleton];constructor
    ·intro V; exact .inr V.symm
    ·rintro (V | V)
     ·exact absurd V q3
     ·exact V.symm
  ·rw [YW ad];have go:∀ h':Hp,Ext h1 h'->(Bg fj (nW L 0 []) u s i x (r+1)).find? (sN rs)=O->∀ J,T.again 0 [.int .i64 n5,.int .i64 (IntKind.wrap .i64 ((r:Int)+1))] (([]++[Jl (cs:=[(false,[.int .i64]),(false,[.int .i64])]) (fun y k h'=>∃ r:Nat,y.2.1=(r:Int)/\1<=r/\r<=5/\k=5-r/\Ext h1 h'/\(Bg fj (nW L 0 []) u s i x r).find? (sN rs)=O) (5-r)])++[J]) (fun z h'=>z=.int .i64 (f4 O)/\Ext h h') h':=by
    intro h' e V J;exact aG (cs:=[(false,[.int .i64]),(false,[.int .i64])]) (n5,((r+1:Nat):Int),()) (5-(r+1)) rfl ad (YJ (fun z=>[Value.int .i64 n5,Value.int .i64 z]) hwr) ⟨r+1,rfl,ad,ad,rfl,e,V⟩
   cases Z:decide ((r:Int)∈rs) with
   | false =>
    refine bG rfl ?_;rw [show sN rs ⟨u,s,i,r⟩=false from Z,aj9] at F;exact go h2 e2 (by simpa using F) _
   | true =>
    refine bk rfl ?_;rw [show sN rs ⟨u,s,i,r⟩=true from Z,ZK] at F;refine af (b1.an e2 aj) (x.kind,x.name,x.inst.op,x.inst.a,x.inst.b,x.inst.n,x.inst.form,(q,l,c),(x.e.num:Int),x.n,()) rfl (ak ?_);refine aI (O9 (pr.an G) hL (v.an G) hop (s:Int) r hr1 ad) ?_;rintro _ h3 ⟨rfl,e3⟩;refine ⟨(yb fj (nW L 0 []) x s r,()),rfl,ak ?_⟩;cases hrs:yb fj (nW L 0 []) x s r with
    | true =>
     rw [hrs] at F;refine bk rfl ?_;rw [<- F];exact ⟨rfl,G.trans e3⟩
    | false =>
     rw [hrs] at F;refine bG rfl ?_;exact go h3 (e2.trans e3) (by simpa using F) _
 ·rw [Ws ad] at F;subst F;exact ⟨rfl,e1.trans e2⟩
def tB (h:Hp) (st:cr) (N:Nat) (F:Nat->List cB):Prop:=st.l=N/\∀ n,n<N->∃ (a:Xax) (t:cr),st.p=some a/\aJ h (a.add (n*1)) 0 [t.v]/\Bx h t.p t.l (F n)
def tB.an {h h':Hp} {st:cr} {N:Nat} {F:Nat->List cB} (v:tB h st N F) (e:Ext h h'):tB h' st N F :=
 ⟨v.1,fun n hn=>by
  obtain ⟨a,t,d,hc,hv⟩:=v.2 n hn;exact ⟨a,t,d,aT e aj _ _ hc,hv.an e⟩⟩
def TN {d:Lp} {lv:Nat} (h:d.length=lv) (J:List Xab->Hp->Prop):(d++[J])[lv]?=some J:=by
 rw [Y5 ad,h,ao9] <;> rfl
def NX (p0:Xac) (off:Nat) (a2:Xax) (u:Int) (sec:Int) (p:Xac) (m d:Nat) (lv:Nat) (b3:Bool) (exit:Bool->T):T :=
 T.loop [bR,aP] [.bool b3,.int .i64 (0:Int)] <| fun (b9:Bool) (j:Int) =>
 T.bi p0 <| fun (G:Xax) =>
 T.ah (G.add off) [.slice 43] <| fun (J:Xac) (O:Nat) (l14:Nat) =>
 T.need (dU u O) <|
 T.bi J <| fun (U:Xax) =>
 T.ah (U.add (aK u 1)) [.slice 71] <| fun (p16:Xac) (l17:Nat) (l18:Nat) =>
 bz j l17
  (T.bi p0 <| fun (V:Xax) =>
  T.ah (V.add off) [.slice 43] <| fun (X:Xac) (Y:Nat) (l22:Nat) =>
  T.need (dU u Y) <|
  T.bi X <| fun (a23:Xax) =>
  T.ah (a23.add (aK u 1)) [.slice 71] <| fun (Z:Xac) (l25:Nat) (l26:Nat) =>
  T.need (dU j l25) <|
  T.bi Z <| fun (a27:Xax) =>
  T.ah (a27.add (aK j 10)) [.int .i64,.string,.int .i64,.int .i64,.int .i64,.int .i32,.int .i64,.slice 117,.int .u32,.int .i64] <| fun (n28:Int) (s29:Xaa) (n30:Int) (n31:Int) (n32:Int) (n33:Int) (n34:Int) (p35:Xac) (l36:Nat) (l37:Nat) (n38:Int) (n39:Int) =>
  bJ 27 [.pointer p0,.agg #[.int .i64 n28,.string s29,.int .i64 n30,.int .i64 n31,.int .i64 n32,.int .i32 n33,.int .i64 n34,.slice p35 l36 l37,aH n38,.int .i64 n39],.int .i64 sec,.slice p m d] false [aP] <| fun (F:Int) =>
  cond (decide (F>(0:Int)))
  (T.aC a2 [.int .i64 u,.int .i64 sec,.int .i64 j,.int .i64 F] <|
  T.ah a2 [.int .i64,.int .i64,.int .i64,.int .i64] <| fun (n41:Int) (n42:Int) (n43:Int) (n44:Int) =>
  bn #[.agg #[.int .i64 n41,.int .i64 n42,.int .i64 n43,.int .i64 n44],.bool true])
  (T.again lv [.bool b9,.int .i64 (bm (j+(1:Int)))]))
  (exit b9)
def FM {h0 h:Hp} {g:Nat} {su st sx:cr} {L:List Lb} (pr:Bf h g su lb st sd L) (hL:L.length<=2^29) {N:Nat} {I:Nat->Nat->List cB} {off s:Nat} (V:(([su.v,lb.v,st.v,sd.v]:List Xab).drop (0+off)).take 1=[.slice sx.p sx.l sx.c]) (hN:N<=2^29) (rv:tB h sx N fun n=>I n s)
  (hop:∀ n j x,n<N->x∈I n j->x.kind=2->cC x.inst.op≠0) {p:Xac} {m d:Nat} (w:wA h p m rs) {n:Nat} (hn:n<N) {ga:Nat} (b1:bI h ga 36 [.int .i64 0,.int .i64 0,.int .i64 0,.int .i64 0]) {h1:Hp} (e1:Ext h0 h) (hga:h0.size<=ga) (e:Ext h h1) {R:Option Wh} (u:Lm fj (nW L 0 []) I N (sN rs) n s 0=R)
  {Lc:Lp} {lv:Nat} (hlv:Lc.length=lv) {b3:Bool} {exit:Bool->T}
  (hx:∀ (b:Bool) (h2:Hp) J,Ext h h2->PB fj (nW L 0 []) I N (sN rs) n (s+1)=R->exit b (Lc++[J]) (fun z h'=>Ext h0 h'/\z=Ef R) h2) :
  NX (some ⟨g,0,none⟩) off ⟨ga,0,none⟩ (n:Int) (s:Int) p m d lv b3 exit Lc (fun z h'=>Ext h0 h'/\z=Ef R) h1:=by
 unfold NX bz aK bJ bm dU aH bn aP bR;obtain ⟨hsl,X⟩:=rv;obtain ⟨_,_,_,_,vi0⟩:=X n hn;have F:=vi0.many;refine aS (cs:=[(false,[.bool]),(false,[.int .i64])]) (fun y k h'=>∃ i:Nat,y.2.1=(i:Int)/\k=(I n s).length-i/\i<=(I n s).length/\Ext h h'/\Lm fj (nW L 0 []) I N (sN rs) n s i=R) (b3,(0:Int),()) (I n s).length rfl ⟨0,rfl,rfl,ad,e,u⟩ ?_;rintro ⟨b9,n10,⟨⟩⟩ k h2 ⟨i,hi,rfl,hil,e2,u⟩;simp only at hi;subst hi;refine ak ?_;obtain ⟨a,t,ha,hc,vi⟩:=(tB.an ⟨hsl,X⟩ e2).2 n hn;have p2:=pr.an e2
 have rd:∀ {h3:Hp} {K:Xab->Hp->Prop} {Lq:Lp} {kk:Xac->Nat->Nat->T},Ext h2 h3->kk t.p t.l t.c Lq K h3->T.bi (some (⟨g,0,none⟩:Xax)) (fun (a11:Xax)=>T.ah (a11.add off) [.slice 43] <| fun (p12:Xac) (l13:Nat) (l14:Nat) =>
   T.need (((0:Int)<=(n:Int))/\((n:Int)<(l13:Int))) <| T.bi p12 <| fun (a15:Xax)=>T.ah (a15.add ((Int.toNat (n:Int))*1)) [.slice 71] kk) Lq K h3:=by
  intro h3 K Lq kk Z hk;refine av rfl ?_;rw [aE];refine af (p2.an Z).box ((sx.p,sx.l,sx.c),()) V (ak ?_);refine ax ⟨ad,ad⟩ (av ha ?_);rw [show Int.toNat (n:Int)=n from ad];exact ay ((t.p,t.l,t.c),()) (aT Z aj _ _ hc) hk
 refine rd (Ch.refl _ _) ?_;have htl:t.l=(I n s).length:=vi.len;have F:(I n s).length<=2^60:=F;refine aM (fun q1=>?_) (fun q1=>?_)
 ·have O:i<(I n s).length:=ad
  refine rd (Ch.refl _ _) ?_;rw [Th _ _ _ _ _ O] at u;unfold R5 at u;obtain ⟨aa,qq,mm,cc,hha,Y,hv⟩:=vi.cells i O;have G:=hop n s _ hn (YD O);generalize (I n s)[i]=x at u Y hv G;refine ax ⟨ad,ad⟩ (av hha ?_);rw [show Int.toNat (i:Int)=i from ad];refine ay (x.kind,x.name,x.inst.op,x.inst.a,x.inst.b,x.inst.n,x.inst.form,(qq,mm,cc),(x.e.num:Int),x.n,()) Y (ak ?_);refine aI (G6 p2 hL hv G (w.an e2) n s i) ?_;rintro _ h3 ⟨rfl,Z⟩;refine ⟨(f4 ((Bg fj (nW L 0 []) n s i x 1).find? (sN rs)),()),rfl,ak ?_⟩;have U:=e2.trans Z;cases hf:(Bg fj (nW L 0 []) n s i x 1).find? (sN rs) with
  | some q =>
   have hq:=QG (List.mem_of_find?_eq_some hf);rw [hf] at u;have u:some q=R:=u;refine bk (by show decide ((q.r:Int)>0)=true; exact YA ad) ?_;refine aw (b1.an U aj) rfl aj ?_;intro h6 b6 k6 z6;refine af b6 ((n:Int),(s:Int),(i:Int),(q.r:Int),()) rfl ?_;refine ⟨bQ (e1.trans U) k6,?_⟩;rw [<- u,hq.1] <;> rfl
  | none =>
   rw [hf] at u;have u:Lm fj (nW L 0 []) I N (sN rs) n s (i+1)=R:=u;refine bG rfl ?_;have hw:=gu i;exact aG (cs:=[(false,[.bool]),(false,[.int .i64])]) (b9,((i+1:Nat):Int),()) ((I n s).length-(i+1)) (TN hlv _) ad (YJ (fun z=>[Value.bool b9,Value.int .i64 z]) hw) ⟨i+1,rfl,rfl,ad,U,u⟩
 ·rw [Te _ _ _ _ _ ad] at u;exact hx b9 h2 _ e2 u
def R9 {h:Hp} {g:Nat} {su st:cr} {L:List Lb} (pr:Bf h g su lb st sd L) (U:L.length<=2^29) {N:Nat} {I:Nat->Nat->List cB} (V:N<=2^29) (X:tB h st N fun n=>I n 0) (rd:tB h sd N fun n=>I n 1)
  (F:∀ n j x,n<N->x∈I n j->x.kind=2->cC x.inst.op≠0) {p:Xac} {m d:Nat} (w:wA h p m rs) :
  HC Tryz.prog 14 #[.pointer (some ⟨g,0,none⟩),.slice p m d] h fun v h'=>Ext h h'/\v=Ef (Gy fj (nW L 0 []) I N (sN rs) 0):=by
 refine aY (args:=[.pointer (some ⟨g,0,none⟩),.slice p m d]) mixed Tryz.func14 az (pY (some ⟨g,0,none⟩) p m d) ?_;unfold kP bf bg bz aK ct aH bn aP bR;refine br ?_;intro h1 b1 e1 z1;generalize G:Gy fj (nW L 0 []) I N (sN rs) 0=R;have p1:=pr.an e1;refine aS (cs:=[(false,[.bool]),(false,[.int .i64])]) (fun y k h'=>∃ n:Nat,y.2.1=(n:Int)/\k=N-n/\n<=N/\Ext h1 h'/\Gy fj (nW L 0 []) I N (sN rs) n=R) (false,(0:Int),()) N rfl ⟨0,rfl,rfl,ad,Ch.refl _ _,G⟩ ?_;rintro ⟨b3,n4,⟨⟩⟩ k h2 ⟨n,hi,rfl,Y,e2,u⟩;simp only at hi;subst hi;refine ak ?_;refine av rfl ?_;rw [aE];refine af (p1.an e2).box ((st.p,st.l,st.c),()) rfl (ak ?_);rw [X.1];refine aM (fun q=>?_) (fun q=>?_)
 ·have hn:n<N:=ad
  rw [SR _ _ _ _ _ hn,M9 _ _ _ _ _ ad] at u;have hw:=gu n;refine FM (h0:=h) (sx:=st) (off:=2) (s:=0) (m:=m) p1 U rfl V (X.an e1) F (w.an e1) hn b1 e1 (YI _) e2 u (lv:=1) rfl (exit:=fun O=>NX (some ⟨g,0,none⟩) 3 ⟨h.size,0,none⟩ (n:Int) 1 p m d 2 O fun b=>T.again 0 [.bool b,.int .i64 (IntKind.wrap .i64 ((n:Int)+(1:Int)))]) ?_;intro b h3 J Z u;rw [M9 _ _ _ _ _ ad] at u;refine FM (h0:=h) (sx:=sd) (off:=3) (s:=1) (m:=m) p1 U rfl V (rd.an e1) F (w.an e1) hn b1 e1 (YI _) Z u (lv:=2) rfl ?_;intro b h4 J4 e4 u;rw [Tg _ _ _ _ _ ad] at u;exact aG (cs:=[(false,[.bool]),(false,[.int .i64])]) (b,((n+1:Nat):Int),()) (N-(n+1)) rfl ad (YJ (fun z=>[Value.bool b,Value.int .i64 z]) hw) ⟨n+1,rfl,rfl,ad,e4,u⟩
 ·rw [SI _ _ _ _ _ ad] at u;refine aw (b1.an e2 aj) rfl aj ?_;intro h6 b6 k6 z6;refine af b6 ((0:Int),(0:Int),(0:Int),(0:Int),()) rfl ?_;exact ⟨bQ (e1.trans e2) k6,by rw [<- u]; rfl⟩
section
variable {L:Lp} {K:Xab->Hp->Prop} {h:Hp} {k:Xac->Nat->Nat->T}
def BO (hk:∀ h' p l c,wA h' p l [1,2,3]->Ext h h'->k p l c L K h'):T.ek Tryz.prog (Instr.buildSlice 31 3 #[(0,.int .i64 (1:Int)),(1,.int .i64 (2:Int)),(2,.int .i64 (3:Int))]) false [(false,[.slice 0])] k L K h:=by
 refine jC (cells:=[.int .i64 1,.int .i64 2,.int .i64 3]) zV OB cm cm az ?_;intro h2 d e2 z2;refine hk h2 _ _ _ ⟨rfl,cm,fun i hi=>⟨_,rfl,?_⟩⟩ e2;rw [aE]
 match i,hi with
 | 0,_=>exact d.cells _ rfl
 | 1,_=>exact d.cells _ rfl
 | 2,_=>exact d.cells _ rfl
def EF (hk:∀ h' p l c,wA h' p l [2,4]->Ext h h'->k p l c L K h'):T.ek Tryz.prog (Instr.buildSlice 31 2 #[(0,.int .i64 (2:Int)),(1,.int .i64 (4:Int))]) false [(false,[.slice 0])] k L K h:=by
 refine jC (cells:=[.int .i64 2,.int .i64 4]) zV OB cm cm az ?_;intro h2 d e2 z2;refine hk h2 _ _ _ ⟨rfl,cm,fun i hi=>⟨_,rfl,?_⟩⟩ e2;rw [aE]
 match i,hi with
 | 0,_=>exact d.cells _ rfl
 | 1,_=>exact d.cells _ rfl
end
def Aq (o:Option Wh):Xab:=.tuple #[.agg #[.int .i64 (f1 o),.int .i64 (f2 o),.int .i64 (f3 o),.int .i64 (f4 o)],.bool (!o.isSome)]
def Ju {h:Hp} {B:Nat} {p:Xac} {l c:Nat} {o:Option Wh} (any:∀ h',Ext h h'->HC Tryz.prog 10 #[ptr (B+3),.slice p l c] h' fun v h''=>Ext h' h''/\v=Ef o):HC Tryz.prog 19 #[ptr (B+3),.slice p l c] h fun v h'=>Ext h h'/\v=Aq o:=by
 refine aY (args:=[ptr (B+3),.slice p l c]) mixed Tryz.func19 az (yG (some ⟨B+3,0,none⟩) p l c) ?_;unfold uT bJ bn bR;refine br ?_;intro h1 b1 e1 z1;refine aI (any h1 e1) ?_;rintro _ h2 ⟨e2,rfl⟩;rw [vu];refine ⟨(f1 o,f2 o,f3 o,f4 o,o.isSome,()),rfl,ak ?_⟩;refine br ?_;intro h3 O U z3;refine aw O rfl aj ?_;intro h4 u V z4;have u:bI h4 h2.size 25 [.int .i64 (f1 o),.int .i64 (f2 o),.int .i64 (f3 o),.int .i64 (f4 o)]:=u;have F:Ext h2 h4:=bQ U V;have d:=e2.trans F;refine af u (f1 o,f2 o,f3 o,f4 o,()) rfl (ak ?_);have j:=b1.an d aj;cases hs:o.isSome with
 | false =>
  refine bk rfl ?_;refine aw j rfl aj ?_;intro h6 G J X;refine af G (f1 o,f2 o,f3 o,f4 o,()) rfl ?_;exact ⟨bQ (e1.trans d) J,by unfold Aq; rw [hs]⟩
 | true =>
  refine bG rfl ?_;refine aw j rfl aj ?_;intro h6 G J X;refine af G (f1 o,f2 o,f3 o,f4 o,()) rfl ?_;exact ⟨bQ (e1.trans d) J,by unfold Aq; rw [hs]; rfl⟩
section
variable {h:Hp} {B:Nat} {A:List Int->Option Wh} (any:∀ (h':Hp),Ext h h'->∀ (p:Xac) (l c:Nat) (rs:List Int),wA h' p l rs->HC Tryz.prog 10 #[ptr (B+3),.slice p l c] h' fun v h''=>Ext h' h''/\v=Ef (A rs))
include any
def vP:HC Tryz.prog 8 #[ptr (B+3)] h fun v h'=>Ext h h'/\v=Aq (A [1,2,3]):=by
 refine aY (args:=[ptr (B+3)]) mixed Tryz.func8 az (xg (some ⟨B+3,0,none⟩)) ?_;unfold tu bJ bt bn bR;refine br ?_;intro h1 b1 e1 z1;refine BO ?_;intro h2 p l c v2 e2;have d:=e1.trans e2;refine aI (Ju fun h' e=>any h' (d.trans e) p l c _ (v2.an e)) ?_;rintro _ h3 ⟨j,rfl⟩;generalize A [1,2,3]=o;refine ⟨(f1 o,f2 o,f3 o,f4 o,!o.isSome,()),rfl,ak ?_⟩;refine aw ((b1.an e2 aj).an j aj) rfl aj ?_;intro h6 u F G;refine af u (f1 o,f2 o,f3 o,f4 o,()) rfl ?_;exact ⟨bQ (d.trans j) F,rfl⟩
def Lh:HC Tryz.prog 9 #[ptr (B+3)] h fun v h'=>Ext h h'/\v=Aq (A [2,4]):=by
 refine aY (args:=[ptr (B+3)]) mixed Tryz.func9 az (vR (some ⟨B+3,0,none⟩)) ?_;unfold ri bJ bt bn bR;refine br ?_;intro h1 b1 e1 z1;refine EF ?_;intro h2 p l c v2 e2;have d:=e1.trans e2;refine aI (Ju fun h' e=>any h' (d.trans e) p l c _ (v2.an e)) ?_;rintro _ h3 ⟨j,rfl⟩;generalize A [2,4]=o;refine ⟨(f1 o,f2 o,f3 o,f4 o,!o.isSome,()),rfl,ak ?_⟩;refine aw ((b1.an e2 aj).an j aj) rfl aj ?_;intro h6 u F G;refine af u (f1 o,f2 o,f3 o,f4 o,()) rfl ?_;exact ⟨bQ (d.trans j) F,rfl⟩
end
end Go.Sx.Pn
namespace Go.Sx.Lk
open Go.Proofs Go.Sx.Ob
section
variable {h0 h h':Hp} {us:List cd} {su:cr} {P:LP} {B:Nat} {usl lb:cr} {S:Nat->kx} {g b':Nat} {lb2 st sd:cr} {tw dw:List (cr × List (cr × cB))}
def KY.Ya (b:KY h0 h us su P B usl lb S g b' lb2 st sd tw dw) {hv:Hp} {p:Xac} {l:Nat} (v:xS hv p l us) {n j:Nat} (hn:n<us.length) (U:j<2) :
  ∃ (a:Xax) (t:cr),(if j=0 then st else sd).p=some a/\(if j=0 then st else sd).l=us.length/\aJ h (a.add (n*1)) 0 [t.v]/\Bx h t.p t.l ((tj us[n] j).map (P.ff n)):=by
 have key:∀ {s:cr} {w:List (cr × List (cr × cB))} {F:cd->List cB},uI h b' s w->Jy us P F w->F us[n]=tj us[n] j->∃ (a:Xax) (t:cr),s.p=some a/\s.l=us.length/\aJ h (a.add (n*1)) 0 [t.v]/\Bx h t.p t.l ((tj us[n] j).map (P.ff n)):=by
  intro s w F O d V;have hw:n<w.length:=by rw [d.1]; exact hn
  obtain ⟨a,X,hc⟩:=SL.cells O.sl (i:=n) (by rw [Yu]; exact hw);rw [YE] at hc;have hl:s.l=w.length:=by have:=O.sl.1; rwa [Yu] at this
  have u:=O.fq _ (YD hw);have J:=d.2 n us[n] w[n] (Yv hn) (Yv hw);rw [V] at J;refine ⟨a,w[n].1,X,by rw [hl,d.1],hc,?_⟩;have o:Fk h b' w[n].1 w[n].2:=⟨u.sl,u.own⟩
  have hm:=b.one.many hn U;have G:w[n].2.length<=2^60:=by
   have:=YJ List.length J
   rw [Yu,Yu] at this;omega
  have:=o.vw G (by rw [J]; exact b.one.ok v hn U)
  rwa [J] at this
 by_cases h:j=0
 ·subst h;exact key b.tx b.ti rfl
 ·have:j=1:=ad
  subst this;exact key b.dx b.di rfl
end
end Go.Sx.Lk
namespace Go.Sx.Pn
open Go.Proofs Go.Sx.Ob Go.Sx.Lk
def Ud {us:List cd} (F:∀ u,u∈us->eO u=0) (P:LP):∀ (n j:Nat) (x:cB),n<us.length->x∈(if hn:n<us.length then (tj us[n] j).map (P.ff n) else [])->x.kind=2->cC x.inst.op≠0:=by
 intro n j x hn hx hk;rw [dif_pos hn] at hx;obtain ⟨y,d,rfl⟩:=YF.1 hx;have hk:y.kind=2:=hk;show cC y.inst.op≠0;have hu:=(wZ (F _ (YD hn))).2;unfold tN at hu;simp only [Bool.and_eq_true] at hu;have key:∀ sec,cD y sec=true->cC y.inst.op≠0:=by
  intro sec h;unfold cD at h;rw [Yx ad,YC hk] at h;simp only [Bool.and_eq_true] at h;have h2:=h.1.1.2;unfold yC at h2;simp only [Bool.and_eq_true,decide_eq_true_eq] at h2;exact h2.1.1
 unfold tj at d
 by_cases h:j=0
 ·rw [YC h] at d;exact key 0 (kf hu.1.1.1 y d)
 ·rw [Yx h] at d;exact key 1 (kf hu.1.1.2 y d)
def sT {L:Lp} {K:Xab->Hp->Prop} {h:Hp} {e:TypeId} {a b c d:Int} {k:Xax->T} (hk:∀ h',bI h' h.size e [.int .i64 a,.int .i64 b,.int .i64 c,.int .i64 d]->Ext h h'->k ⟨h.size,0,none⟩ L K h') :
  T.new [.int .i64 (0:Int),.int .i64 (0:Int),.int .i64 (0:Int),.int .i64 (0:Int)] e (fun x=>T.aC x [.int .i64 a,.int .i64 b,.int .i64 c,.int .i64 d] (k x)) L K h:=by
 refine br ?_;intro h3 j u z3;refine aw j rfl aj ?_;intro h4 F G z4;exact hk h4 F (bQ u G)
def Ro {h:Hp} (pw:fS h) (tn:Aj fj h) (kn:SW h) {su sr:cr} {us:List cd} {rs:List Int} (v:xS h su.p su.l us) (sm:Jk us) (V:wA h sr.p sr.l rs) (hrs:rs.length<=2^30) :
  HC Tryz.prog 4 #[.slice su.p su.l su.c,.slice sr.p sr.l sr.c] h fun w h'=>w=.bool true/\Ext h h':=by
 refine aY (args:=[.slice su.p su.l su.c,.slice sr.p sr.l sr.c]) mixed Tryz.func4 az (ly su.p su.l su.c sr.p sr.l sr.c) ?_;unfold gJ aX bJ bt bC bR;refine aI (Vr (su:=su) pw tn.TZ v sm) ?_;rintro w1 h1 ⟨e1,hq⟩
 by_cases hlg:tQ us=true
 ·rw [YC hlg] at hq;refine ⟨(none,none,false,true,()),hq,ak ?_⟩;exact bk rfl (bk rfl (HF kn e1))
 rw [Yx hlg] at hq;have ag:=Ap (us:=us) sm.num;cases hlp:me us with
 | error f =>
  rw [hlp] at hq;refine ⟨(none,none,false,true,()),hq,ak ?_⟩;exact bk rfl (bk rfl (HF kn e1))
 | ok P =>
 rw [hlp] at hq ag;obtain ⟨_,h64,_,_,A,_,_,_⟩:=ag;obtain ⟨B,usl,lb,S,g,b',lb2,st,sd,tw,dw,rfl,U⟩:=hq;have r:Gb us:=⟨A.right,h64⟩
 have hLl:=r.ef;have X:P.w.lb=bZ 0 us:=A.wi.lb;have b:One h h1 us P B usl lb S:=⟨U.le,U.pg,U.PE,U.sz⟩
 refine ⟨(some ⟨B+3,0,none⟩,some ⟨g,0,none⟩,true,true,()),rfl,ak ?_⟩;refine bG rfl ?_;have any:=fun (h':Hp) (e:Ext h1 h') (p:Xac) (l c:Nat) (rs:List Int) (V:wA h' p l rs)=>US (c:=c) (tn.an (e1.trans e) aj) (pw.an (e1.trans e) aj) (b.ext e).pg (by rw [X]; omega) ad (Uq (b.ext e) ad v) V
 have hop:=Ud A.right P;have Y:∀ j,j<2->tB h1 (if j=0 then st else sd) us.length fun n=>(if hn:n<us.length then (tj us[n] j).map (P.ff n) else []):=by
  intro j hj;refine ⟨?_,fun n hn=>?_⟩
  ·by_cases h:j=0
   ·rw [YC h]
    have:=U.tx.sl.1
    rw [Yu,U.ti.1] at this;exact this
   ·rw [Yx h]
    have:=U.dx.sl.1
    rw [Yu,U.di.1] at this;exact this
  ·obtain ⟨a,t,ha,_,hc,hv⟩:=U.Ya v hn hj;refine ⟨a,t,ha,hc,?_⟩;simp only;rw [dif_pos hn];exact hv
 generalize hI:(fun n j=>if hn:n<us.length then (tj us[n] j).map (P.ff n) else [])=I at any;have hrT:tB h1 st us.length fun n=>I n 0:=by rw [<- hI]; exact Y 0 ad
 have hrD:tB h1 sd us.length fun n=>I n 1:=by rw [<- hI]; exact Y 1 ad
 have hop:∀ n j x,n<us.length->x∈I n j->x.kind=2->cC x.inst.op≠0:=by rw [<- hI]; exact hop
 rw [X] at any;have AM:=fun (h':Hp) (e:Ext h1 h') (p:Xac) (l c:Nat) (rs:List Int) (V:wA h' p l rs)=>R9 (d:=c) (U.pr.an e) ad (N:=us.length) (I:=I) ad (hrT.an e) (hrD.an e) hop V
 generalize Gy fj (nW (bZ 0 us) 0 []) I us.length=F at any AM;have fF:∀ h',Ext h1 h'->HC Tryz.prog 8 #[ptr (B+3)] h' fun v h''=>Ext h' h''/\v=Aq (F (sN [1,2,3]) 0):=fun h' e=>vP (A:=fun rs=>F (sN rs) 0) fun h'' e'=>any h'' (e.trans e')
 have dir:∀ h',Ext h1 h'->HC Tryz.prog 9 #[ptr (B+3)] h' fun v h''=>Ext h' h''/\v=Aq (F (sN [2,4]) 0):=fun h' e=>Lh (A:=fun rs=>F (sN rs) 0) fun h'' e'=>any h'' (e.trans e')
 have hrl:=V.len;refine aI (K7 (c:=sr.c) (V.an e1) ad (-7)) ?_;rintro _ h2 ⟨e2,gr,rfl,hgr,s2⟩;refine ⟨((some ⟨gr,0,none⟩,sr.l+80,sr.l+80),()),rfl,ak ?_⟩;refine ax ⟨ad,ad,ad⟩ ?_;have hsl:(if sr.l+80=0 then some (⟨gr,0,none⟩:Xax) else Option.map (fun a=>Addr.add a 0) (some ⟨gr,0,none⟩))=some ⟨gr,0,none⟩:=by
  rw [Yx ad];simp [Addr.add]
 rw [hsl,show Int.toNat (sr.l:Int)-0=sr.l from ad,ay9];have wf:wA h2 (some ⟨gr,0,none⟩) (sr.l+80) (rs++List.replicate 80 (-7)):=Pv s2 (by rw [Yy,bf9]; omega);have w2:=wf.take (n:=sr.l) ad;rw [List.take_append_of_le_length ad,YW ad] at w2;refine aI (any h2 e2 _ _ _ rs w2) ?_;rintro _ h3 ⟨e3,rfl⟩;generalize ho1:F (sN rs) 0=u;rw [vu];refine ⟨(f1 u,f2 u,f3 u,f4 u,u.isSome,()),rfl,ak ?_⟩;refine sT ?_;intro h4 b4 e4;have e14:=(e2.trans e3).trans e4;refine aI (AM h4 e14 sr.p sr.l sr.c rs (V.an (e1.trans e14))) ?_;rintro _ h5 ⟨e5,rfl⟩;rw [ho1,vu];refine ⟨(f1 u,f2 u,f3 u,f4 u,u.isSome,()),rfl,ak ?_⟩;refine sT ?_;intro h6 b6 e6;have e16:=(e14.trans e5).trans e6;refine aI (fF h6 e16) ?_;rintro _ h7 ⟨e7,rfl⟩;generalize ho2:F (sN [1,2,3]) 0=G;refine ⟨(f1 G,f2 G,f3 G,f4 G,!G.isSome,()),rfl,ak ?_⟩;refine sT ?_;intro h8 b8 e8;have e18:=(e16.trans e7).trans e8;refine BO ?_;intro h9 p9 l9 c9 v9 e9;have e19:=e18.trans e9;refine aI (AM h9 e19 p9 l9 c9 _ v9) ?_;rintro _ h10 ⟨e10,rfl⟩;rw [ho2,vu];refine ⟨(f1 G,f2 G,f3 G,f4 G,G.isSome,()),rfl,ak ?_⟩;refine sT ?_;intro h11 b11 e11;have Z:=(e19.trans e10).trans e11;refine aI (dir h11 Z) ?_;rintro _ h12 ⟨e12,rfl⟩;generalize ho3:F (sN [2,4]) 0=J;refine ⟨(f1 J,f2 J,f3 J,f4 J,!J.isSome,()),rfl,ak ?_⟩;refine sT ?_;intro h13 b13 e13;have e113:=(Z.trans e12).trans e13;refine EF ?_;intro h14 p14 l14 c14 v14 e14';have e114:=e113.trans e14';refine aI (AM h14 e114 p14 l14 c14 _ v14) ?_;rintro _ h15 ⟨e15,rfl⟩;rw [ho3,vu];refine ⟨(f1 J,f2 J,f3 J,f4 J,J.isSome,()),rfl,ak ?_⟩;refine sT ?_;intro h16 b16 e16';have f15:=e15.trans e16';have f14:=e14'.trans f15;have f13:=(e12.trans e13).trans f14;have f11:=(e10.trans e11).trans f13;have f9:=e9.trans f11;have f8:=(e7.trans e8).trans f9;have f6:=(e5.trans e6).trans f8;have f4':=(e3.trans e4).trans f6;have g1:=b4.an f6 aj;have g2:=b6.an f8 aj;have g3:=b8.an f9 aj;have g4:=b11.an f13 aj;have g5:=b13.an f14 aj;have e116:=e114.trans f15;refine af g1 (f1 u,f2 u,f3 u,f4 u,()) rfl (ak ?_);refine af g2 (f1 u,f2 u,f3 u,f4 u,()) rfl (ak ?_);refine aI (Pu _ _ _ _) ?_;rintro _ h17 ⟨rfl,e17⟩;refine ⟨(true,()),rfl,ak ?_⟩;refine bk rfl (bk aj ?_);refine af (g3.an e17 aj) (f1 G,f2 G,f3 G,f4 G,()) rfl (ak ?_);refine af (g4.an e17 aj) (f1 G,f2 G,f3 G,f4 G,()) rfl (ak ?_);refine aI (Pu _ _ _ _) ?_;rintro _ h18 ⟨rfl,e18'⟩;refine ⟨(true,()),rfl,ak ?_⟩;refine bk rfl (bk aj ?_);have O:=e17.trans e18';refine af (g5.an O aj) (f1 J,f2 J,f3 J,f4 J,()) rfl (ak ?_);refine af (b16.an O aj) (f1 J,f2 J,f3 J,f4 J,()) rfl (ak ?_);refine aI (Pu _ _ _ _) ?_;rintro _ h19 ⟨rfl,e19'⟩;refine ⟨(true,()),rfl,ak ?_⟩;refine bk rfl (bk aj ?_);have e169:=O.trans e19';have e0:=(e1.trans e116).trans e169;refine aI (G5 (d:=sr.c) (s2.bP (f4'.trans e169) aj) (V.an e0) ad) ?_;rintro _ h20 ⟨rfl,e20⟩;refine ⟨(true,()),rfl,ak ?_⟩;exact bk rfl (HF kn (e0.trans e20))
end Go.Sx.Pn
namespace Go.Sx.Ob
open Go.Proofs Go.Proofs.YthbffkdafjboiaaGreatDoor
open Go.ChangeShapes Go.WideShapes Go.ChangeAt Go.WideMaps Go.WideElems Go.RowKit
def vV (P:Program) (t:TypeId):Option (List (TypeId × Nat)):=(P.underlying t).bind fun d=>match d with | .struct fs=>some (fs.toList.map fun f=>(f.type,f.offset)) | _=>none
section
variable {H:Type} {enc:TypeId × Xab->H} {P:Program} {W:World} {base fuel:Nat} {sp:Nat->Bool} {held:Bool} {t:TypeId} {cs:List Xab} {y:DataW H × List MemPlace}
def fX {l:List (TypeId × Nat)} (hu:vV P t=some l) (h:DataW.trod enc P W base sp held fuel t cs=some y) :
  ∃ (xs:List (DataW H × List MemPlace)) (n:Nat),y.1=.agg (xs.map (·.1))/\cs.length=P.cellsOf t/\xs.length=l.length/\∀ (i:Nat) (p:TypeId × Nat),l[i]?=some p->∃ x,xs[i]?=some x/\DataW.trod enc P W base sp held n p.1 ((cs.drop p.2).take (P.cellsOf p.1))=some x:=by
 unfold vV at hu;cases F:P.underlying t with
 | none=>rw [F] at hu; cases hu
 | some d =>
  rw [F] at hu;simp only [Option.bind_some] at hu;split at hu
  ·rename_i fs;simp only [Option.some.injEq] at hu;obtain ⟨xs,n,_,J,hl,u,O⟩:=DataW.trod_struct F h;refine ⟨xs,n,by rw [J],hl,by rw [<- hu,Yu,u,ZE],fun i p G=>?_⟩;rw [<- hu,Zj,ac9] at G;obtain ⟨f,j,rfl⟩:=G;rw [ZO] at j;have h1:=O i f j;cases hx:xs[i]? with
   | none =>
    rw [List.getElem?_eq_none_iff] at hx
    have:i<fs.size:=by
     by_cases g:i<fs.size
     ·exact g
     ·rw [Zt ad] at j;cases j
    omega
   | some x=>rw [hx] at h1; exact ⟨x,rfl,h1⟩
  ·cases hu
theorem jz {h:Hp} {a:Xax}:∀ (vs:List Xab) (i:Nat),(∀ j,(d:j<vs.length)->iD h (a.add (i+j))=some vs[j])->aJ h a i vs
 | [],_,_=>trivial
 | v::vs,i,u=>⟨by have:=u 0 aj; rw [bm9] at this; exact this,jz vs (i+1) fun j d=>by
  have:=u (j+1) (by simpa using d)
  rw [show i+1+j=i+(j+1) from ad];simpa using this⟩
def UT {a:Xax} {n:Nat} (h:W.cells? base a n=some cs):cs.length=n/\aJ W.heap a 0 cs:=by
 unfold World.cells? at h;split at h
 ·have hl:cs.length=n:=by simpa using Lib.mapM_length h
  refine ⟨hl,jz cs 0 fun j u=>?_⟩;obtain ⟨b,d,F⟩:=Lib.mapM_at h j j (ZN ad);rw [Yv u] at d;cases d;rw [Y7,<- KI];exact F
 ·cases h
theorem yf {α:Type} (Q:Nat->α->Prop):∀ n,(∀ i,i<n->∃ x,Q i x)->∃ l:List α,l.length=n/\∀ i (hi:i<l.length),Q i l[i]
 | 0,_=>⟨[],rfl,fun i hi=>by simp at hi⟩
 | n+1,h=>by
  obtain ⟨l,hl,u⟩:=yf Q n (fun i hi=>h i ad);obtain ⟨x,hx⟩:=h n ad;refine ⟨l++[x],by simp [hl],fun i hi=>?_⟩
  by_cases d:i<l.length
  ·rw [ZD d];exact u i d
  ·have j:i=n:=by simp at hi; omega
   subst j;rw [ZW ad];simpa using hx
def O3 {ds:List (DataW H)} {ks:List Nat} (hl:ds.length=ks.length) (h:∀ i,(hi:i<ks.length)->(j:i<ds.length)->ks[i]=Rows.uptoBulk ds[i]):Rows.uptoBulkAll ds=ks.sum:=by
 induction ds generalizing ks with
 | nil =>
  cases ks with
  | nil=>rfl
  | cons k ks=>simp at hl
 | cons d ds u =>
  cases ks with
  | nil=>simp at hl
  | cons k ks =>
   have h0:=h 0 aj aj;simp only [List.getElem_cons_zero] at h0
   have:=u (ks:=ks) (by simpa using hl) (fun i hi j=>h (i+1) (by simpa using hi) (by simpa using j))
   unfold Rows.uptoBulkAll;rw [this,Zv,h0]
structure BA {α:Type} (Q:α->List Xab->Nat->Prop) (h:Hp) (sz:Nat) (p:Xac) (l c:Nat) (us:List α) (ks:List Nat):Prop where
 len:l=us.length
 yz:ks.length=us.length
 cells:∀ i,(hi:i<us.length)->(hk:i<ks.length)->∃ a cs,p=some a/\aJ h (a.add (i*sz)) 0 cs/\Q us[i] cs ks[i]
 cap:l<=c
 Vp:c<=maxLen
 nil:p=none->c=0
def open_slice {α:Type} {e:TypeId} {sz:Nat} (hu:P.underlying t=some (.slice e)) (hc:P.cellsOf e=sz) (Q:α->List Xab->Nat->Prop)
  (V:∀ (cs:List Xab) (y:DataW H × List MemPlace) (n:Nat),DataW.trod enc P W base sp held n e cs=some y->∃ x:α,Q x cs (Rows.uptoBulk y.1))
  (h:DataW.trod enc P W base sp held fuel t cs=some y) :
  ∃ (p:Xac) (l c:Nat) (us:List α) (ks:List Nat),cs=[.slice p l c]/\BA Q W.heap sz p l c us ks/\ks.sum+1<=Rows.uptoBulk y.1:=by
 rcases DataW.trod_slice hu h with ⟨e0,u⟩ | ⟨a,len,cap,d,rest,n,_,e0,u,X,Y,Z,F,hev,_,_⟩
 ·refine ⟨none,0,0,[],[],e0,⟨rfl,rfl,fun i hi=>by simp at hi,YI _,bj9 _,fun _=>rfl⟩,?_⟩;rw [u];simp only [Rows.uptoBulk];decide
 ·have G:∀ i,i<len->∃ x:α × Nat,∃ j,aJ W.heap (a.add (i*sz)) 0 j/\Q x.1 j x.2/\∃ y,d[i]?=some y/\x.2=Rows.uptoBulk y.1:=by
   intro i hi;have he:=hev i hi;cases J:d[i]? with
   | none=>rw [List.getElem?_eq_none_iff] at J; omega
   | some y =>
    rw [J,hc] at he;simp only [Option.bind_eq_some_iff] at he;obtain ⟨j,hcs,htr⟩:=he;obtain ⟨hl,iD⟩:=UT hcs;obtain ⟨x,hx⟩:=V _ _ _ htr;exact ⟨(x,Rows.uptoBulk y.1),j,iD,hx,y,rfl,rfl⟩
  obtain ⟨xs,O,U⟩:=yf _ len G;refine ⟨some a,len,cap,xs.map (·.1),xs.map (·.2),e0,⟨by rw [Yu,O],by rw [Yu,Yu],fun i hi hk=>?_,Y,Z,fun h=>by cases h⟩,?_⟩
  ·rw [Yu] at hi;obtain ⟨j,h1,h2,_⟩:=U i hi;rw [YE,YE];exact ⟨a,j,rfl,h1,h2⟩
  ·have:=O3 (ds:=d.map (·.1)) (ks:=xs.map (·.2)) (by rw [Yu,Yu,F,O]) (fun i hi hj=>by
    rw [Yu] at hi hj;obtain ⟨j,_,_,y,J,hk⟩:=U i hi;rw [Yv hj] at J;rw [YE,YE,hk,YR J])
   rw [u];simp only [Rows.uptoBulk];rw [this];omega
end
def OJ {P:Program} {f:FuncId} {args:Array Xab} {W:World} {R:Xab->Hp->Prop} (h:HC P f args W.heap R) (j:∀ v h',R v h'->Ext W.heap h'):Calls P f args W fun e w'=>∃ v,e=.returned v/\Below W.heap.size W w'/\R v w'.heap:=by
 refine (h W rfl).mono fun e w' ⟨v,hv,hs,d⟩=>⟨v,hv,⟨hs.os,hs.tape,hs.output,(j v _ d).size,fun k hk=>(j v _ d).same k hk aj⟩,d⟩
def Hi {W W':World} (d:Below W.heap.size W W') {p:MemPlace} (j:p.block<W.heap.size):W.sameAt W' p:=by
 cases p with
 | cell b off =>
  show W'.cell? _=W.cell? _;unfold World.cell?;rw [d.block b j]
 | map b=>exact d.block b j
def Xv:ownKnob Tryz.prog.godebug=none:=az
def u9:Tryz.prog.underlying 9=some .string:=az
def u4:Tryz.prog.underlying 4=some .bool:=az
def u3:Tryz.prog.underlying 3=some (.int .i64):=az
def u5:Tryz.prog.underlying 5=some (.int .u8):=az
def Xn:Tryz.prog.underlying 155=some (.array 43 120):=az
def Wp:Tryz.prog.cellsOf 120=3:=az
def XC:Tryz.prog.cellsOf 155=129:=az
def c9:Tryz.prog.cellsOf 9=1:=az
def c5:Tryz.prog.cellsOf 5=1:=az
def c3:Tryz.prog.cellsOf 3=1:=az
def XM:vV Tryz.prog 120=some [(9,0),(5,1),(3,2)]:=az
def D7:List (DataW Unit):=match (Rows.laid_spandrel_isa_table:DataW Unit) with | .agg l=>l | _=>[]
def MZ:DataW Unit->Int
 | .agg [_,_,.lit (.int _ n)]=>n
 | _=>0
def QL:(Rows.laid_spandrel_isa_table:DataW Unit)=.agg D7:=az
def NE:D7.map MZ=(List.range 43).map fun k=>((iN.getD k 0:Nat):Int):=az
theorem Ez {α β:Type} (f:α->List β) (m:Nat) (d:∀ x,(f x).length=m):∀ l:List α,(l.flatMap f).length=l.length*m
 | []=>aj
 | x::l=>by rw [Zd,Yy,d,Ez f m d l,Zi,Nat.succ_mul,Nat.add_comm]
def Di (nm:Nat->Xaa) (by_:Nat->Int):(gw nm by_).length=129:=by
 unfold gw;rw [Ez _ 3 (fun x=>rfl),ZX]
def UO:DataW Unit->List UInt8
 | .agg [.lit (.string s),_,_]=>s
 | _=>[]
def UQ:DataW Unit->Int
 | .agg [_,.lit (.int _ n),_]=>n
 | _=>0
def Xe (k:Nat):List UInt8:=(fj k).data.toList
def PZ:D7.map UO=(List.range 43).map fun k=>Xe k:=az
def Q8:D7.map UQ=(List.range 43).map fun k=>rR k:=az
def Ct {enc:TypeId × Xab->Unit} {W:World} {base fuel:Nat} {sp:Nat->Bool} {held:Bool} {cs:List Xab} {p:List MemPlace}
  (h:DataW.trod enc Tryz.prog W base sp held fuel 155 cs=some (Rows.laid_spandrel_isa_table,p)):cs=gw fj rR:=by
 obtain ⟨xs,m,_,hx,hl,hlen,hf⟩:=DataW.trod_array Xn h;rw [XC] at hl;have O:xs.map (·.1)=D7:=by
  have:=YJ Prod.fst hx
  rw [show (Rows.laid_spandrel_isa_table,p).1=DataW.agg D7 from QL] at this;simpa using this.symm
 have F:∀ i,i<43->(cs.drop (i*3)).take 3=[.string (fj i),.int .u8 (rR i),.int .i64 ((iN.getD i 0:Nat):Int)]:=by
  intro i hi;have h1:=hf i hi;rw [Wp] at h1;rw [Yv ad] at h1;obtain ⟨ys,n,U,G,V,u⟩:=fX XM h1;obtain ⟨y0,g0,t0⟩:=u 0 _ rfl;obtain ⟨y1,g1,t1⟩:=u 1 _ rfl;obtain ⟨y2,g2,t2⟩:=u 2 _ rfl;rw [Wp] at G;generalize hc:(cs.drop (i*3)).take 3=c at *
  match c,G with
  | [v0,v1,v2],_ =>
   rw [show Tryz.prog.cellsOf (9,0).1=1 from c9] at t0;rw [show Tryz.prog.cellsOf (5,1).1=1 from c5] at t1;rw [show Tryz.prog.cellsOf (3,2).1=1 from c3] at t2;obtain ⟨s,e0,X,_⟩:=DataW.trod_string u9 t0;obtain ⟨b,e1,Y,_⟩:=DataW.trod_int u5 t1;obtain ⟨k,e2,Z,_⟩:=DataW.trod_int u3 t2;cases e0; cases e1; cases e2;have d:ys=[y0,y1,y2]:=by
    apply ZF;intro j
    match j with
    | 0=>exact g0
    | 1=>exact g1
    | 2=>exact g2
    | j+3=>rw [Y9 (by rw [V]; simp),Y9 aj]
   have h2:(xs.map (·.1))[i]?=some (xs[i]'ad).1:=by rw [Zj,Yv ad]; rfl
   rw [O] at h2;have hk:k=((iN.getD i 0:Nat):Int):=by
    have h3:(D7.map MZ)[i]?=some (MZ (xs[i]'ad).1):=by rw [Zj,h2]; rfl
    rw [NE,Zj,ZN hi] at h3;rw [U,d,X,Y,Z] at h3;exact (YR h3).symm
   have J:b=rR i:=by
    have h3:(D7.map UQ)[i]?=some (UQ (xs[i]'ad).1):=by rw [Zj,h2]; rfl
    rw [Q8,Zj,ZN hi] at h3;rw [U,d,X,Y,Z] at h3;exact (YR h3).symm
   have hs:s=fj i:=by
    have h3:(D7.map UO)[i]?=some (UO (xs[i]'ad).1):=by rw [Zj,h2]; rfl
    rw [PZ,Zj,ZN hi] at h3;rw [U,d,X,Y,Z] at h3;exact C2 (YR h3).symm
   rw [hk,J,hs]
 apply ZF;intro j
 by_cases hj:j<129
 ·obtain ⟨a,b,hab,J⟩:∃ a b,j=a*3+b/\b<3:=⟨j / 3,j % 3,ad,ad⟩
  subst hab;unfold gw;rw [oM (fun k=>[Value.string (fj k),.int .u8 (rR k),.int .i64 (iN.getD k 0:Nat)]) 3 (fun x=>rfl) _ a b J,ZN ad];show cs[a*3+b]?=[Value.string (fj a),.int .u8 (rR a),.int .i64 ((iN.getD a 0:Nat):Int)][b]?
  have:=F a ad
  rw [<- this,ah9,YC J,Z6]
 ·have hr:(gw fj rR).length=129:=Di _ _;rw [Y9 ad,Y9 ad]
def Dd {P:Program} {W:World} {name:String} {g:Nat} {cs:Array Xab} (d:P.globalNamed name=some g) (hv:W.var? P name=some cs):∃ e f,W.heap[g]?=some (.cells cs e f):=by
 unfold World.var? at hv;rw [d] at hv;have hv:(match (W.heap[g]?:Option Obj) with | some (.cells cs _ _)=>some cs | _=>none)=some cs:=hv;split at hv
 ·rename_i j e f u;cases hv;exact ⟨e,f,u⟩
 ·cases hv
def P0 {W:World} (h:laidMetH Tryz.prog Rows.plainNumbersRow.laid W):Bh W.heap/\fS W.heap:=by
 rw [MakeChecks.laidMetH_plain _ _ _ az] at h;obtain ⟨ps,⟨g0,t0,cs0,f0,p0,q0,hg0,ht0,hv0,hd0,⟨g1,t1,cs1,f1,p1,q1,hg1,ht1,hv1,hd1,⟨g2,t2,cs2,f2,p2,q2,d,u,F,G,⟨g3,t3,cs3,f3,p3,q3,j,J,O,U,_,_⟩,_⟩,_⟩,_⟩,_,_⟩:=h;obtain rfl:=YR ((show Tryz.prog.globalNamed _=some 1 from az).symm.trans d);obtain rfl:=YR ((show Tryz.prog.globalNamed _=some 0 from az).symm.trans j);have h2:(Tryz.prog.globals[1]?).map (·.type)=some 239:=az
 obtain rfl:=YR (h2.symm.trans u);have h3:(Tryz.prog.globals[0]?).map (·.type)=some 155:=az
 obtain rfl:=YR (h3.symm.trans J);have hc:=Lib.cells_of_tab (n:=20) (e:=215) (k:=.u64) (zs:=Lib.pow10Tab) az az az az G;have hr:=Ct U;obtain ⟨e2,V,X⟩:=Dd d F;obtain ⟨e3,Y,Z⟩:=Dd j O;refine ⟨⟨fj,rR,e3,Y,?_⟩,⟨e2,V,?_⟩⟩
 ·rw [Z,<- hr]
 ·rw [X,<- hc]
def OV (os:Os) (args:Array Xab):laidMetH Tryz.prog Rows.plainNumbersRow.laid ((World.doorLaid Tryz.prog 400 os).forCall (fun _ _=>0) ⟨#[],args,[]⟩).memory :=
 laidMetH_of_parts3 (fuel:=8) (laidMet_of_run' 8 az az) az az
def V5:Kids Tryz.prog (·<Tryz.prog.types.size):=kids_rows az az
def sliceB:((List.range Tryz.prog.types.size).all fun t=>match Tryz.prog.underlying t with | some (.slice e)=>decide (0<Tryz.prog.cellsOf e) | _=>true)=true:=az
def T' {t e:TypeId} (d:t<Tryz.prog.types.size) (hu:Tryz.prog.underlying t=some (.slice e)):0<Tryz.prog.cellsOf e:=by
 have:=Y1.1 sliceB t (ag9.2 d)
 rw [hu] at this;exact Yz this
theorem tL {H:Type} {enc:TypeId × Xab->H} {W W':World} {sp:Nat->Bool} (u:Below W.heap.size W W'):∀ {ts:List TypeId} {vs:List Xab} {ds:List (DataW H)} {ps:List MemPlace},(∀ t∈ts,t<Tryz.prog.types.size) ->
  DataW.TrodAll enc Tryz.prog W 0 (fun _=>true) true ts vs ds ps->(∀ p∈ps,p.block<W.heap.size)->(∀ p∈ps,sp p.block=true)->DataW.TrodAll enc Tryz.prog W' 0 sp true ts vs ds ps
 | [],_,_,_,_,h,_,_=>by
  obtain ⟨rfl,rfl,rfl⟩:=trodAll_nil h;exact trodAll_mk0
 | t::ts,_,_,_,F,h,hl,hs=>by
  obtain ⟨v,G,d,J,a,b,rfl,rfl,rfl,⟨n,h1⟩,h2⟩:=trodAll_cons h;exact ⟨a,b,⟨n,DataW.trod_stays V5 (fun h hu=>T' h hu) (fun h=>by cases h) (F t (Z7 ..)) h1 (fun p j=>Hi u (hl p (Y3 _ j))) (fun p j=>hs p (Y3 _ j))⟩,
   tL u (fun t h=>F t (YM _ h)) h2 (fun p j=>hl p (Y8 _ j)) (fun p j=>hs p (Y8 _ j)),rfl⟩
def Nc {H:Type} {enc:TypeId × Xab->H} {f:Func} {s:ChangeSpec} {apart fresh handsOn:Bool} {W W':World} {args:Array Xab} {v:Xab} {ds J:List (DataW H)} {before:List MemPlace} (u:s.vars=[])
  (O:DataW.Whole enc Tryz.prog f.params.toList s.vars apart W args.toList ds J before)
  (F:∀ (b:Nat) (sp:Nat->Bool) (Y:Bool),DataW.TrodAll enc Tryz.prog W' b sp Y f.resultTypes.toList (v.resultList f.resultTypes.size) (s.fn H (ds++J)).results [])
  (d:(s.fn H (ds++J)).args=ds) (ec:(s.fn H (ds++J)).vars=[]) (U:∀ t∈f.params.toList,t<Tryz.prog.types.size) (V:Below W.heap.size W W') :
  s.post enc Tryz.prog f apart fresh handsOn false W args v W':=by
 have j:=O.lt;have G:=O;obtain ⟨p,q,Z,X,rfl,hz,hn⟩:=O;rw [u] at X;obtain ⟨rfl,rfl⟩:=trodVars_none X;rw [Zs] at j G;refine ⟨ds,[],p,[],p,[],G,F _ _ _,?_,?_,V.frame _,fun h=>by cases h⟩
 ·rw [d];exact tL V U Z j (fun p hp=>YA (j p hp))
 ·rw [ec,u] <;> rfl
def Mz {H:Type} {enc:TypeId × Xab->H} {a:Assume} {C:Checked} {os:Os} {f:FuncId} {fn:Func} {s:OpenSpec} {k:(H:Type)->List (DataW H)->Bool} (hk:s.cond=some k) {F:Stop.Interp} {conds:List PathCond} {apart fresh handsOn again:Bool} {X:World->Array Xab->Prop}
  (hX:∀ (w w':World) (args:Array Xab),w.heap=w'.heap->X w args->X w' args)
  (own:ownKnob C.prog.godebug=none) (started:os.Started) (u:C.prog.inits.idxOf? f=none) (Y:C.prog.funcs[f]?=some fn)
  (witness:∃ (w:World) (tape:Tape) (i:Input),w.os=os/\(w.forCall tape i).Shaped C.prog/\i.vars=[]/\Input.okWide C.prog (w.forCall tape i) .any w.heap.size f i /\
   ((s.pre enc C.prog fn conds apart (w.forCall tape i).memory i.args/\X (w.forCall tape i).memory i.args)/\sizedMet enc C.prog fn s apart (w.forCall tape i).memory i.args)/\a.holds C.prog (lone (Frame.enter C.prog f i.args .normal) [] (w.forCall tape i)))
  (d:∀ (W:World) (base:Nat) (args:Array Xab) (ds U:List (DataW H)) (before:List MemPlace),
   (∀ (j:Nat) t v,fn.params[j]?=some t->args[j]?=some v->Value.okWide C.prog W .any base t v) ->
   DataW.Whole enc C.prog fn.params.toList s.vars apart W args.toList ds U before->k H (ds++U)=true->X W args ->
   Calls C.prog f args W fun e W'=>∃ v,e=.returned v/\(s.at F).post enc C.prog fn apart fresh handsOn again W args v W') :
  ReturnsInHanded a C os f .any (fun w args=>(s.pre enc C.prog fn conds apart w args/\X w args)/\sizedMet enc C.prog fn s apart w args) ((s.at F).post enc C.prog fn apart fresh handsOn again):=by
 refine returnsInHanded_of_calls own started u witness ?_;intro w tape i _ _ _ Z G V;obtain ⟨_,_,_,fn',J,_,_,_,_,O⟩:=Z;have e:fn'=fn:=YR (J.symm.trans Y);subst e;obtain ⟨⟨hp,hx⟩,hz⟩:=G;obtain ⟨ds,U,before,hw,hc,hkk⟩:=(OpenSpec.pre_some hk conds apart _ _).1 hp;have hw':=DataW.Whole.of_heap (w':=w.forCall tape i) (by rfl) hw;refine (d (w.forCall tape i) w.heap.size i.args ds U before O hw' hkk (hX _ _ _ (by rfl) hx)).mono fun e W' ⟨v,he,hp⟩=>?_
 subst he;exact ChangeSpec.post_blind hp
def GL {H:Type} {enc:TypeId × Xab->H} {C:Checked} {os:Os} {f:FuncId} {fn:Func} {s:OpenSpec} {k:(H:Type)->List (DataW H)->Bool} (hk:s.cond=some k) {apart:Bool} {X:World->Array Xab->Prop} (d:World) (args:Array Xab) (fuel:Nat) (u:d.os=os)
  (F:(d.forCall (fun _ _=>0) ⟨#[],args,[]⟩).Shaped C.prog)
  (j:Input.okWideB C.prog (d.forCall (fun _ _=>0) ⟨#[],args,[]⟩) f ⟨#[],args,[]⟩=true)
  {x:List (DataW H) × List (DataW H) × List MemPlace} (hx:DataW.whole enc C.prog (d.forCall (fun _ _=>0) ⟨#[],args,[]⟩).memory fn.params.toList s.vars apart args.toList fuel=some x) (G:k H (x.1++x.2.1)=true)
  (J:s.bare.sizedB enc C.prog fn apart (d.forCall (fun _ _=>0) ⟨#[],args,[]⟩).memory args fuel=true)
  (O:X (d.forCall (fun _ _=>0) ⟨#[],args,[]⟩).memory args) :
  ∃ (w:World) (tape:Tape) (i:Input),w.os=os/\(w.forCall tape i).Shaped C.prog/\i.vars=[]/\Input.okWide C.prog (w.forCall tape i) .any w.heap.size f i /\
   ((s.pre enc C.prog fn [] apart (w.forCall tape i).memory i.args/\X (w.forCall tape i).memory i.args)/\sizedMet enc C.prog fn s apart (w.forCall tape i).memory i.args)/\({}:Assume).holds C.prog (lone (Frame.enter C.prog f i.args .normal) [] (w.forCall tape i)) :=
 ⟨d,fun _ _=>0,⟨#[],args,[]⟩,u,F,(Input.okWide_of_okWideB (base:=0) j).1,(Input.okWide_of_okWideB j).2,
  ⟨⟨(OpenSpec.pre_some hk [] apart _ _).2 ⟨x.1,x.2.1,x.2.2,DataW.Whole_of_whole hx,rfl,G⟩,O⟩,sizedMet_of_sizedB J⟩,by
  simp only [Assume.holds];exact ⟨aj,aj,aj,aj,aj⟩⟩
structure w8 (x:cn):Prop where
 FJ:∀ t,t∈x.ai->t.2<4294967296
 num:x.num<4294967296
structure UE (u:cd):Prop where
 text:∀ x,x∈u.text->w8 x.e
 data:∀ x,x∈u.data->w8 x.e
 bh:∀ x,x∈u.bh->w8 x.2
def X1:Tryz.prog.underlying 67=some (.int .u32):=az
def X8:Tryz.prog.underlying 21=some (.int .i32):=az
def X9:Tryz.prog.underlying 66=some (.slice 117):=az
def X5:Tryz.prog.cellsOf 117=2:=az
def Xc:Tryz.prog.cellsOf 69=2:=az
def Yr:Tryz.prog.cellsOf 66=1:=az
def XU:Tryz.prog.cellsOf 67=1:=az
def Yc:Tryz.prog.cellsOf 21=1:=az
def X3:Tryz.prog.cellsOf 65=5:=az
def XB:Tryz.prog.cellsOf 71=10:=az
def X4:Tryz.prog.cellsOf 100=3:=az
def XO:Tryz.prog.cellsOf 43=1:=az
def X7:Tryz.prog.cellsOf 44=1:=az
def Yi:Tryz.prog.cellsOf 45=1:=az
def XX:Tryz.prog.cellsOf 47=4:=az
def Xd:vV Tryz.prog 117=some [(9,0),(67,1)]:=az
def Yn:vV Tryz.prog 69=some [(66,0),(67,1)]:=az
def Yf:vV Tryz.prog 65=some [(3,0),(3,1),(3,2),(21,3),(3,4)]:=az
def Xr:vV Tryz.prog 71=some [(3,0),(9,1),(65,2),(69,7),(3,9)]:=az
def Vo:vV Tryz.prog 100=some [(9,0),(69,1)]:=az
def W1:vV Tryz.prog 47=some [(43,0),(43,1),(44,2),(45,3)]:=az
section
variable {H:Type} {enc:TypeId × Xab->H} {W:World} {base n:Nat} {sp:Nat->Bool} {held:Bool} {cs:List Xab} {y:DataW H × List MemPlace}
def LX {α:Type} {ys:List α} {a b:α} (hl:ys.length=2) (h0:ys[0]?=some a) (h1:ys[1]?=some b):ys=[a,b]:=by
 match ys,hl with
 | [x,y],_ =>
  simp only [List.getElem?_cons_zero,List.getElem?_cons_succ,Option.some.injEq] at h0 h1;subst h0 h1;rfl
def QT (t:Xaa × Nat) (cs:List Xab) (k:Nat):Prop:=cs=df t/\t.1.size<=maxLen/\t.2<4294967296/\k=t.1.size+3
def Li (h:DataW.trod enc Tryz.prog W base sp held n 117 cs=some y):∃ t,QT t cs (Rows.uptoBulk y.1):=by
 obtain ⟨ys,m,J,hl,F,d⟩:=fX Xd h;obtain ⟨X,O,t0⟩:=d 0 _ rfl;obtain ⟨Y,g1,G⟩:=d 1 _ rfl;have j:=LX F O g1;rw [X5] at hl
 match cs,hl with
 | [v,u],_ =>
  rw [show Tryz.prog.cellsOf (9,0).1=1 from c9] at t0;rw [show Tryz.prog.cellsOf (67,1).1=1 from XU] at G;obtain ⟨s,e0,U,hs⟩:=DataW.trod_string u9 t0;obtain ⟨k,e1,V,hk⟩:=DataW.trod_int X1 G;have Z:=bounds_u32 hk;cases e0; cases e1;refine ⟨(s,k.toNat),?_,hs,by show k.toNat<_; omega,?_⟩
  ·unfold df;simp only [List.cons.injEq,Value.int.injEq,true_and,and_true];omega
  ·rw [J,j,U,V];simp only [List.map_cons,List.map_nil,Rows.uptoBulk,Rows.uptoBulkAll];rw [ZE];show s.data.size+1+(1+0)+1=s.data.size+3;omega
structure LU (h:Hp) (p:Xac) (l c:Nat) (x:cn) (k:Nat):Prop where
 vw:gW h p l x.ai
 names:∀ t,t∈x.ai->t.1.size<=maxLen
 num:w8 x
 many:3*x.ai.length<=k
 size:(lR x).length<=2*k
 cap:l<=c
theorem AQ:∀ (ts:dc) (ks:List Nat),ks.length=ts.length->(∀ i,(hi:i<ts.length)->(hk:i<ks.length)->ks[i]=ts[i].1.size+3)->(ts.flatMap FQ).length=2*ks.sum-(ts.map (·.1.size)).sum/\(ts.map (·.1.size)).sum+3*ts.length=ks.sum
 | [],ks,hl,_=>by
  have:ks=[]:=ZZ.1 hl
  subst this
  simp
 | t::ts,[],hl,_=>by simp at hl
 | t::ts,k::ks,hl,h=>by
  have h0:=h 0 aj aj;simp only [List.getElem_cons_zero] at h0;obtain ⟨d,i2⟩:=AQ ts ks (by simpa using hl) (fun i hi hk=>h (i+1) (by simpa using hi) (by simpa using hk));have hw:(FQ t).length=t.1.size+6:=by
   unfold FQ jg;simp only [List.length_append,dz]
   have:t.1.data.toList.length=t.1.size:=aj
   omega
  rw [Zd,Yy,Zv,Zb,Zv,Zi,hw,d];omega
def Gm (h:DataW.trod enc Tryz.prog W base sp held n 69 cs=some y) :
  ∃ p l c x,cs=[.slice p l c,.int .u32 ((x:cn).num:Int)]/\LU W.heap p l c x (Rows.uptoBulk y.1):=by
 obtain ⟨ys,m,hy,hl,G,d⟩:=fX Yn h;obtain ⟨y0,g0,t0⟩:=d 0 _ rfl;obtain ⟨y1,g1,Y⟩:=d 1 _ rfl;have j:=LX G g0 g1;rw [Xc] at hl
 match cs,hl with
 | [v,u],_ =>
  rw [show Tryz.prog.cellsOf (66,0).1=1 from Yr] at t0;rw [show Tryz.prog.cellsOf (67,1).1=1 from XU] at Y;obtain ⟨p,l,c,us,ks,e0,F,Z⟩:=open_slice X9 X5 QT (fun cs y n h=>Li h) t0;obtain ⟨k,e1,r1,hk⟩:=DataW.trod_int X1 Y;have hb:=bounds_u32 hk;cases e0; cases e1;have J:((k.toNat:Nat):Int)=k:=ad
  have O:Rows.uptoBulk y.1=Rows.uptoBulk y0.1+2:=by
   rw [hy,j,r1];simp only [List.map_cons,List.map_nil,Rows.uptoBulk,Rows.uptoBulkAll]
  have U:∀ i,(hi:i<us.length)->(hk:i<ks.length)->us[i].1.size<=maxLen/\us[i].2<4294967296/\ks[i]=us[i].1.size+3:=by
   intro i hi hk;obtain ⟨a,cs,_,_,_,q2,q3,q4⟩:=F.cells i hi hk;exact ⟨q2,q3,q4⟩
  have V:=F.yz;obtain ⟨w1,w2⟩:=AQ us ks V (fun i hi hk=>(U i hi hk).2.2);refine ⟨p,l,c,⟨us,k.toNat⟩,by rw [show ((⟨us,k.toNat⟩:cn).num:Int)=k from J],⟨F.len,fun i hi=>?_⟩,?_,⟨?_,by show k.toNat<_; omega⟩,?_,?_,F.cap⟩
  ·have hi:i<us.length:=hi;obtain ⟨a,cs,ha,hc,q1,_⟩:=F.cells i hi ad;rw [q1] at hc;exact ⟨a,ha,hc⟩
  ·intro t (X:t∈us);obtain ⟨i,hi,rfl⟩:=Y0 X;exact (U i hi ad).1
  ·intro t (X:t∈us);obtain ⟨i,hi,rfl⟩:=Y0 X;exact (U i hi ad).2.1
  ·show 3*us.length<=_;omega
  ·show (ur us.length 2++(us.flatMap FQ++ur k.toNat 4)).length<=_;rw [Yy,Yy,dz,dz,w1];omega
def Tc {α:Type} {ys:List α} {a b c d e:α} (hl:ys.length=5) (h0:ys[0]?=some a) (h1:ys[1]?=some b) (h2:ys[2]?=some c) (h3:ys[3]?=some d) (h4:ys[4]?=some e):ys=[a,b,c,d,e]:=by
 match ys,hl with
 | [j,u,F,G,J],_ =>
  simp only [List.getElem?_cons_zero,List.getElem?_cons_succ,Option.some.injEq] at h0 h1 h2 h3 h4;subst h0 h1 h2 h3 h4;rfl
def VZ {α:Type} {ys:List α} {a b c d:α} (hl:ys.length=4) (h0:ys[0]?=some a) (h1:ys[1]?=some b) (h2:ys[2]?=some c) (h3:ys[3]?=some d):ys=[a,b,c,d]:=by
 match ys,hl with
 | [j,u,F,G],_ =>
  simp only [List.getElem?_cons_zero,List.getElem?_cons_succ,Option.some.injEq] at h0 h1 h2 h3;subst h0 h1 h2 h3;rfl
def Mt (h:DataW.trod enc Tryz.prog W base sp held n 65 cs=some y):∃ i:Ins,cs=oN i/\Sm i.op/\Rows.uptoBulk y.1=6:=by
 obtain ⟨ys,m,G,hl,u,d⟩:=fX Yf h;obtain ⟨y0,J,t0⟩:=d 0 _ rfl;obtain ⟨y1,g1,F⟩:=d 1 _ rfl;obtain ⟨y2,g2,t2⟩:=d 2 _ rfl;obtain ⟨y3,O,t3⟩:=d 3 _ rfl;obtain ⟨y4,U,t4⟩:=d 4 _ rfl;have j:=Tc u J g1 g2 O U;rw [X3] at hl
 match cs,hl with
 | [v0,v1,v2,v3,v4],_ =>
  rw [show Tryz.prog.cellsOf (3,0).1=1 from c3] at t0;rw [show Tryz.prog.cellsOf (3,1).1=1 from c3] at F;rw [show Tryz.prog.cellsOf (3,2).1=1 from c3] at t2;rw [show Tryz.prog.cellsOf (21,3).1=1 from Yc] at t3;rw [show Tryz.prog.cellsOf (3,4).1=1 from c3] at t4;obtain ⟨V,e0,X,Y⟩:=DataW.trod_int u3 t0;obtain ⟨Z,e1,r1,w1⟩:=DataW.trod_int u3 F;obtain ⟨k2,e2,r2,w2⟩:=DataW.trod_int u3 t2;obtain ⟨k3,e3,r3,w3⟩:=DataW.trod_int X8 t3;obtain ⟨k4,e4,r4,w4⟩:=DataW.trod_int u3 t4;cases e0; cases e1; cases e2; cases e3; cases e4;refine ⟨⟨V,Z,k2,k3,k4⟩,rfl,bounds_i64 Y,?_⟩;rw [G,j,X,r1,r2,r3,r4];simp only [List.map_cons,List.map_nil,Rows.uptoBulk,Rows.uptoBulkAll]
def QI (h:Hp) (x:cB) (cs:List Xab) (k:Nat):Prop:=∃ p l c b,cs=encI p l c x/\LU h p l c x.e b/\x.name.size<=maxLen/\Sm x.inst.op/\k=x.name.size+b+10
def BR (h:DataW.trod enc Tryz.prog W base sp held n 71 cs=some y):∃ x,QI W.heap x cs (Rows.uptoBulk y.1):=by
 obtain ⟨ys,m,J,hl,u,d⟩:=fX Xr h;obtain ⟨y0,O,t0⟩:=d 0 _ rfl;obtain ⟨y1,g1,F⟩:=d 1 _ rfl;obtain ⟨y2,g2,t2⟩:=d 2 _ rfl;obtain ⟨G,U,t3⟩:=d 3 _ rfl;obtain ⟨y4,V,t4⟩:=d 4 _ rfl;have j:=Tc u O g1 g2 U V;rw [XB] at hl
 match cs,hl with
 | [v0,v1,v2,v3,v4,v5,v6,v7,v8,v9],_ =>
  rw [show Tryz.prog.cellsOf (3,0).1=1 from c3] at t0;rw [show Tryz.prog.cellsOf (9,1).1=1 from c9] at F;rw [show Tryz.prog.cellsOf (65,2).1=5 from X3] at t2;rw [show Tryz.prog.cellsOf (69,7).1=2 from Xc] at t3;rw [show Tryz.prog.cellsOf (3,9).1=1 from c3] at t4;obtain ⟨X,e0,Y,w0⟩:=DataW.trod_int u3 t0;obtain ⟨s,e1,Z,w1⟩:=DataW.trod_string u9 F;obtain ⟨i,e2,w2,r2⟩:=Mt t2;obtain ⟨p,l,c,x,e3,lk⟩:=Gm t3;obtain ⟨k4,e4,r4,w4⟩:=DataW.trod_int u3 t4;cases e0; cases e1; cases e2; cases e3; cases e4;refine ⟨⟨X,s,i,x,k4⟩,p,l,c,_,rfl,lk,w1,w2,?_⟩;rw [J,j,Y,Z,r4];simp only [List.map_cons,List.map_nil,Rows.uptoBulk,Rows.uptoBulkAll,r2];rw [ZE];show 1+(s.data.size+1+(6+(Rows.uptoBulk G.1+(1+0))))+1=s.data.size+Rows.uptoBulk G.1+10;omega
def QE (h:Hp) (x:rO) (cs:List Xab) (k:Nat):Prop:=∃ p l c b,cs=UW p l c x/\LU h p l c x.2 b/\x.1.size<=maxLen/\k=x.1.size+b+2
def Oz (h:DataW.trod enc Tryz.prog W base sp held n 100 cs=some y):∃ x,QE W.heap x cs (Rows.uptoBulk y.1):=by
 obtain ⟨ys,m,J,hl,u,d⟩:=fX Vo h;obtain ⟨Z,O,t0⟩:=d 0 _ rfl;obtain ⟨F,g1,G⟩:=d 1 _ rfl;have j:=LX u O g1;rw [X4] at hl
 match cs,hl with
 | [v0,v1,v2],_ =>
  rw [show Tryz.prog.cellsOf (9,0).1=1 from c9] at t0;rw [show Tryz.prog.cellsOf (69,1).1=2 from Xc] at G;obtain ⟨s,e1,U,V⟩:=DataW.trod_string u9 t0;obtain ⟨p,l,c,x,X,Y⟩:=Gm G;cases e1; cases X;refine ⟨(s,x),p,l,c,_,rfl,Y,V,?_⟩;rw [J,j,U];simp only [List.map_cons,List.map_nil,Rows.uptoBulk,Rows.uptoBulkAll];rw [ZE];show (s.data.size+1+(Rows.uptoBulk F.1+0))+1=s.data.size+Rows.uptoBulk F.1+2;omega
def QS (x:Xaa) (cs:List Xab) (k:Nat):Prop:=cs=[.string x]/\x.size<=maxLen/\k=x.size+1
def ME (h:DataW.trod enc Tryz.prog W base sp held n 9 cs=some y):∃ x,QS x cs (Rows.uptoBulk y.1):=by
 obtain ⟨s,e1,d,j⟩:=DataW.trod_string u9 h;refine ⟨s,e1,j,?_⟩;rw [d];simp only [Rows.uptoBulk];rw [ZE] <;> rfl
theorem gn {α:Type} (f:α->Nat) (m:Nat):∀ (us:List α) (ks:List Nat),ks.length=us.length->(∀ i,(hi:i<us.length)->(hk:i<ks.length)->f us[i]<=m*ks[i])->(us.map f).sum<=m*ks.sum
 | [],ks,hl,_=>aj
 | u::us,[],hl,_=>by simp at hl
 | u::us,k::ks,hl,h=>by
  have h0:=h 0 aj aj;simp only [List.getElem_cons_zero] at h0;have d:=gn f m us ks (by simpa using hl) (fun i hi hk=>h (i+1) (by simpa using hi) (by simpa using hk));rw [Zb,Zv,Zv,Nat.mul_add];omega
def NM {h:Hp} {x:cB} {cs:List Xab} {k:Nat} (q:QI h x cs k):(H2 x).length<=2*k:=by
 obtain ⟨p,l,c,b,_,d,_,_,rfl⟩:=q;have h1:=d.size;have j:(jg x.name).length=x.name.size+2:=by
  unfold jg;rw [Yy,dz]
  have:x.name.data.toList.length=x.name.size:=aj
  omega
 have hi:∀ (n:Int) (w:Nat),(C6 n w).length=w:=fun n w=>by unfold C6; rw [dz]
 unfold H2;rw [Yy,hi];split
 ·omega
 ·split
  ·rw [Yy,Yy,Yy,Yy,hi,hi,hi,hi];split
   ·omega
   ·simp
    omega
  ·split
   ·rw [hi]; omega
   ·split
    ·omega
    ·split
     ·rw [hi]; omega
     ·simp
      omega
def MA {h:Hp} {x:rO} {cs:List Xab} {k:Nat} (q:QE h x cs k):(Me x).length<=2*k:=by
 obtain ⟨p,l,c,b,_,d,_,rfl⟩:=q;have h1:=d.size;unfold Me jg;rw [Yy,Yy,dz]
 have:x.1.data.toList.length=x.1.size:=aj
 omega
def JH {x:Xaa} {cs:List Xab} {k:Nat} (q:QS x cs k):(jg x).length<=2*k:=by
 obtain ⟨_,_,rfl⟩:=q;unfold jg;rw [Yy,dz]
 have:x.data.toList.length=x.size:=aj
 omega
def HG {α:Type} (f:α->Bt) (us:List α):(us.flatMap f).length=(us.map fun u=>(f u).length).sum:=by rw [ar9]
end
theorem r8:∀ (ks:List Nat) (i:Nat) (h:i<ks.length),ks[i]<=ks.sum
 | k::ks,0,_=>aj
 | k::ks,i+1,h=>by
  have:=r8 ks i (by simpa using h)
  simp only [List.getElem_cons_succ,List.sum_cons];omega
theorem iT {α:Type}:∀ us:List α,(us.map fun _=>1).sum=us.length
 | []=>rfl
 | u::us=>by rw [Zb,Zv,iT us,Zi,Nat.add_comm]
def vv {α:Type} {P:α->Prop} {us:List α} (h:∀ i,(hi:i<us.length)->P us[i]):∀ x,x∈us->P x:=fun x hx=>by
 obtain ⟨i,hi,rfl⟩:=Y0 hx;exact h i hi
def LU.at {h:Hp} {p:Xac} {l c:Nat} {x:cn} {k:Nat} (q:LU h p l c x k) (hk:k<=2^60):oK h p l x:=⟨q.vw,by have:=q.many; omega,q.names⟩
def Ia {h:Hp} {p:Xac} {l c:Nat} {us:List cB} {ks:List Nat} (s:BA (QI h) h 10 p l c us ks) (hs:ks.sum<=2^58):Bx h p l us/\(∀ x,x∈us->w8 x.e)/\(us.flatMap H2).length<=2*ks.sum:=by
 have hl:=s.yz;have q:∀ i,(hi:i<us.length)->∃ a cs,p=some a/\aJ h (a.add (i*10)) 0 cs/\QI h us[i] cs ks[i]:=fun i hi=>s.cells i hi ad
 have one:∀ i,(hi:i<us.length)->1<=1*ks[i]:=fun i hi=>by
  obtain ⟨_,_,_,_,_,_,_,_,_,_,_,_,hk⟩:=q i hi;omega
 have hm:us.length<=ks.sum:=by
  have:=gn (fun _=>1) 1 us ks hl (fun i hi hk=>one i hi)
  rw [iT] at this;omega
 refine ⟨⟨s.len,ad,fun i hi=>?_⟩,vv fun i hi=>?_,?_⟩
 ·obtain ⟨a,cs,d,hc,p',l',c',b,rfl,j,hn,u,hk⟩:=q i hi
  have:=r8 ks i ad
  exact ⟨a,p',l',c',d,hc,j.at ad,hn,u⟩
 ·obtain ⟨a,cs,d,hc,p',l',c',b,rfl,j,hn,u,hk⟩:=q i hi;exact j.num
 ·rw [HG];refine gn _ 2 us ks hl (fun i hi hk=>?_);obtain ⟨a,cs,d,hc,F⟩:=q i hi;exact NM F
def R2 {h:Hp} {p:Xac} {l c:Nat} {us:List rO} {ks:List Nat} (s:BA (QE h) h 3 p l c us ks) (hs:ks.sum<=2^58):uf h p l us/\(∀ x,x∈us->w8 x.2)/\(us.flatMap Me).length<=2*ks.sum:=by
 have hl:=s.yz;have q:∀ i,(hi:i<us.length)->∃ a cs,p=some a/\aJ h (a.add (i*3)) 0 cs/\QE h us[i] cs ks[i]:=fun i hi=>s.cells i hi ad
 have one:∀ i,(hi:i<us.length)->1<=1*ks[i]:=fun i hi=>by
  obtain ⟨_,_,_,_,_,_,_,_,_,_,_,hk⟩:=q i hi;omega
 have hm:us.length<=ks.sum:=by
  have:=gn (fun _=>1) 1 us ks hl (fun i hi hk=>one i hi)
  rw [iT] at this;omega
 refine ⟨⟨s.len,ad,fun i hi=>?_⟩,vv fun i hi=>?_,?_⟩
 ·obtain ⟨a,cs,d,hc,p',l',c',b,rfl,j,hn,hk⟩:=q i hi
  have:=r8 ks i ad
  exact ⟨a,p',l',c',d,hc,j.at ad,hn⟩
 ·obtain ⟨a,cs,d,hc,p',l',c',b,rfl,j,hn,hk⟩:=q i hi;exact j.num
 ·rw [HG];refine gn _ 2 us ks hl (fun i hi hk=>?_);obtain ⟨a,cs,d,hc,u⟩:=q i hi;exact MA u
def R6 {h:Hp} {p:Xac} {l c:Nat} {us:List Xaa} {ks:List Nat} (s:BA QS h 1 p l c us ks) (hs:ks.sum<=2^58):WO h p l us/\(us.flatMap jg).length<=2*ks.sum:=by
 have hl:=s.yz;have q:∀ i,(hi:i<us.length)->∃ a cs,p=some a/\aJ h (a.add (i*1)) 0 cs/\QS us[i] cs ks[i]:=fun i hi=>s.cells i hi ad
 have one:∀ i,(hi:i<us.length)->1<=1*ks[i]:=fun i hi=>by
  obtain ⟨_,_,_,_,_,_,hk⟩:=q i hi;omega
 have hm:us.length<=ks.sum:=by
  have:=gn (fun _=>1) 1 us ks hl (fun i hi hk=>one i hi)
  rw [iT] at this;omega
 refine ⟨⟨s.len,ad,fun i hi=>?_⟩,?_⟩
 ·obtain ⟨a,cs,d,hc,rfl,hn,hk⟩:=q i hi;exact ⟨a,d,hc,hn⟩
 ·rw [HG];refine gn _ 2 us ks hl (fun i hi hk=>?_);obtain ⟨a,cs,d,hc,j⟩:=q i hi;exact JH j
def w7 {h:Hp} {p:Xac} {l c:Nat} {us:List cB} {ks:List Nat} (s:BA (QI h) h 10 p l c us ks):(∀ x,x∈us->x.e.ai.length<=ks.sum)/\us.length<=ks.sum:=by
 have hl:=s.yz;have q:∀ i,(hi:i<us.length)->∃ a cs,p=some a/\aJ h (a.add (i*10)) 0 cs/\QI h us[i] cs ks[i]:=fun i hi=>s.cells i hi ad
 refine ⟨vv fun i hi=>?_,?_⟩
 ·obtain ⟨a,cs,j,hc,p',l',c',b,rfl,d,hn,u,hk⟩:=q i hi
  have:=r8 ks i ad
  have:=d.many
  omega
 ·have:=gn (fun _=>1) 1 us ks hl (fun i hi hk=>by
   obtain ⟨_,_,_,_,_,_,_,_,_,_,_,_,hk⟩:=q i hi;omega)
  rw [iT] at this;omega
theorem UK {α:Type} (g:α->Nat):∀ us:List α,(us.map fun x=>3*g x).sum=3*(us.map g).sum
 | []=>rfl
 | u::us=>by rw [Zb,Zv,Zb,Zv,UK g us,Nat.mul_add]
def MY {h:Hp} {p:Xac} {l c:Nat} {us:List cB} {ks:List Nat} (s:BA (QI h) h 10 p l c us ks):(us.map fun x=>3*x.e.ai.length).sum<=ks.sum:=by
 have:=gn (fun x:cB=>3*x.e.ai.length) 1 us ks s.yz (fun i hi hk=>by
  obtain ⟨a,cs,j,hc,p',l',c',b,_,d,hn,u,hk⟩:=s.cells i hi hk
  have:=d.many
  omega)
 omega
def TI {h:Hp} {p:Xac} {l c:Nat} {us:List rO} {ks:List Nat} (s:BA (QE h) h 3 p l c us ks):(us.map fun x=>3*x.2.ai.length).sum<=ks.sum:=by
 have:=gn (fun x:rO=>3*x.2.ai.length) 1 us ks s.yz (fun i hi hk=>by
  obtain ⟨a,cs,j,hc,p',l',c',b,_,d,hn,hk⟩:=s.cells i hi hk
  have:=d.many
  omega)
 omega
def G8 {h:Hp} {p:Xac} {l c:Nat} {us:List rO} {ks:List Nat} (s:BA (QE h) h 3 p l c us ks):(∀ x,x∈us->x.2.ai.length<=ks.sum)/\us.length<=ks.sum:=by
 have hl:=s.yz;have q:∀ i,(hi:i<us.length)->∃ a cs,p=some a/\aJ h (a.add (i*3)) 0 cs/\QE h us[i] cs ks[i]:=fun i hi=>s.cells i hi ad
 refine ⟨vv fun i hi=>?_,?_⟩
 ·obtain ⟨a,cs,j,hc,p',l',c',b,rfl,d,hn,hk⟩:=q i hi
  have:=r8 ks i ad
  have:=d.many
  omega
 ·have:=gn (fun _=>1) 1 us ks hl (fun i hi hk=>by
   obtain ⟨_,_,_,_,_,_,_,_,_,_,_,hk⟩:=q i hi;omega)
  rw [iT] at this;omega
def OW {h:Hp} {p:Xac} {l c:Nat} {us:List Xaa} {ks:List Nat} (s:BA QS h 1 p l c us ks):us.length<=ks.sum:=by
 have hl:=s.yz;have q:∀ i,(hi:i<us.length)->∃ a cs,p=some a/\aJ h (a.add (i*1)) 0 cs/\QS us[i] cs ks[i]:=fun i hi=>s.cells i hi ad
 have:=gn (fun _=>1) 1 us ks hl (fun i hi hk=>by
  obtain ⟨_,_,_,_,_,_,hk⟩:=q i hi;omega)
 rw [iT] at this;omega
structure Jm (h:Hp) (a b c d:cr) (u:cd) (N:Nat):Prop where
 at_:tO h a b c d u
 num:UE u
 size:(Xj u).length<=2*N+13
 small:(∀ x,x∈u.text->x.e.ai.length<=N)/\(∀ x,x∈u.data->x.e.ai.length<=N)/\(∀ x,x∈u.bh->x.2.ai.length<=N)/\u.aZ.length<=N/\u.text.length<=N/\u.data.length<=N/\u.bh.length<=N
 cap:a.l<=a.c
 V7:3*((Lk.cK u).flatMap (·.ai)).length<=N
 jH:u.text.length+u.data.length+u.bh.length+u.aZ.length<=N
 pos:1<=N
def Tx {h:Hp} {a b c d:cr} {u:cd} {N:Nat} (s:Jm h a b c d u N):1<=N:=s.pos
section
variable {H:Type} {enc:TypeId × Xab->H} {W:World} {base n:Nat} {sp:Nat->Bool} {held:Bool} {cs:List Xab} {y:DataW H × List MemPlace}
def yJ (h:DataW.trod enc Tryz.prog W base sp held n 47 cs=some y) (hN:Rows.uptoBulk y.1<=2^50):∃ a b c d u,cs=[cr.v a,cr.v b,cr.v c,cr.v d]/\Jm W.heap a b c d u (Rows.uptoBulk y.1):=by
 obtain ⟨ys,m,hy,hl,V,j⟩:=fX W1 h;obtain ⟨y0,g0,t0⟩:=j 0 _ rfl;obtain ⟨y1,g1,Y⟩:=j 1 _ rfl;obtain ⟨y2,g2,t2⟩:=j 2 _ rfl;obtain ⟨y3,g3,t3⟩:=j 3 _ rfl;have O:=VZ V g0 g1 g2 g3;rw [XX] at hl
 match cs,hl with
 | [v0,v1,v2,v3],_ =>
  rw [show Tryz.prog.cellsOf (43,0).1=1 from XO] at t0;rw [show Tryz.prog.cellsOf (43,1).1=1 from XO] at Y;rw [show Tryz.prog.cellsOf (44,2).1=1 from X7] at t2;rw [show Tryz.prog.cellsOf (45,3).1=1 from Yi] at t3;obtain ⟨p0,l0,k0,F,b0,e0,s0,m0⟩:=open_slice Ts XB (QI W.heap) (fun cs y n h=>BR h) t0;obtain ⟨p1,l1,k1,G,b1,e1,s1,m1⟩:=open_slice Ts XB (QI W.heap) (fun cs y n h=>BR h) Y;obtain ⟨p2,l2,k2,J,b2,e2,U,m2⟩:=open_slice Wx X4 (QE W.heap) (fun cs y n h=>Oz h) t2;obtain ⟨p3,l3,k3,u3,b3,e3,X,m3⟩:=open_slice Im c9 QS (fun cs y n h=>ME h) t3;cases e0; cases e1; cases e2; cases e3;have hb:Rows.uptoBulk y.1=Rows.uptoBulk y0.1+Rows.uptoBulk y1.1+Rows.uptoBulk y2.1+Rows.uptoBulk y3.1+1:=by
   rw [hy,O];simp only [List.map_cons,List.map_nil,Rows.uptoBulk,Rows.uptoBulkAll];omega
  obtain ⟨x0,n0,w0⟩:=Ia s0 ad;obtain ⟨x1,n1,w1⟩:=Ia s1 ad;obtain ⟨x2,n2,w2⟩:=R2 U ad;obtain ⟨x3,w3⟩:=R6 X ad;refine ⟨⟨p0,l0,k0⟩,⟨p1,l1,k1⟩,⟨p2,l2,k2⟩,⟨p3,l3,k3⟩,⟨F,G,J,u3⟩,rfl,⟨x0,x1,x2,x3⟩,⟨n0,n1,n2⟩,?_,⟨fun x hx=>by have:=(w7 s0).1 x hx; omega,fun x hx=>by have:=(w7 s1).1 x hx; omega,fun x hx=>by have:=(G8 U).1 x hx; omega,by have:=OW X; show u3.length<=_; omega,by have:=(w7 s0).2; show F.length<=_; omega,by have:=(w7 s1).2; show G.length<=_; omega,by have:=(G8 U).2; show J.length<=_; omega⟩,s0.cap,?_,?_,ad⟩
  ·show (N'++(CU H2 F++(CU H2 G++(CU Me J++CU jg u3)))).length<=_;unfold CU;simp only [List.length_append,dz];rw [show N'.length=5 from rfl];omega
  ·show 3*((Lk.cK ⟨F,G,J,u3⟩).flatMap (·.ai)).length<=_;have i0:=MY s0;have Z:=MY s1;have i2:=TI U;rw [UK] at i0 Z i2;unfold Lk.cK;rw [Z2,Z2,Yy,Yy,List.flatMap_map,List.flatMap_map,List.flatMap_map,ar9,ar9,ar9];show 3*((F.map fun x=>x.e.ai.length).sum+(G.map fun x=>x.e.ai.length).sum+(J.map fun x=>x.2.ai.length).sum)<=_;omega
  ·have i0:=(w7 s0).2;have Z:=(w7 s1).2;have i2:=(G8 U).2;have i3:=OW X;show F.length+G.length+J.length+u3.length<=_;omega
def M2:Tryz.prog.underlying 30=some (.slice 47):=az
def QU (h:Hp) (u:cd) (cs:List Xab) (k:Nat):Prop:=k<=2^50->∃ a b c d,cs=[cr.v a,cr.v b,cr.v c,cr.v d]/\Jm h a b c d u k
def Oe (h:DataW.trod enc Tryz.prog W base sp held n 47 cs=some y):∃ u,QU W.heap u cs (Rows.uptoBulk y.1):=by
 by_cases hk:Rows.uptoBulk y.1<=2^50
 ·obtain ⟨a,b,c,d,u,h1,h2⟩:=yJ h hk;exact ⟨u,fun _=>⟨a,b,c,d,h1,h2⟩⟩
 ·exact ⟨⟨[],[],[],[]⟩,fun h=>absurd h hk⟩
structure Vy (h:Hp) (p:Xac) (l c:Nat) (us:List cd) (N:Nat):Prop where
 vw:xS h p l us
 sm:N<=2^20->Lk.Jk us
 V7:3*((us.flatMap Lk.cK).flatMap (·.ai)).length<=N
 cap:l<=c
 Vp:c<=maxLen
 nil:p=none->c=0
def HH {b0:Nat} {v:Xab} {d:DataW H} {ps:List MemPlace} (J:Value.okWide Tryz.prog W .any b0 30 v) (h:DataW.Trod enc Tryz.prog W base sp held 30 v d ps) (X:Rows.uptoBulk d<=2^50) :
  ∃ p l c us,v=.slice p l c/\Vy W.heap p l c us (Rows.uptoBulk d):=by
 obtain ⟨p,l,c,rfl⟩:=okWide_slice M2 J;obtain ⟨fuel,h⟩:=h;have F:(Value.slice p l c).cells.toList=[.slice p l c]:=rfl;rw [F] at h;obtain ⟨p',l',c',us,ks,e0,s,hs⟩:=open_slice M2 XX (QU W.heap) (fun cs y n h=>Oe h) h;cases e0;have hl:=s.yz;have hs:ks.sum+1<=Rows.uptoBulk d:=hs;have q:∀ i,(hi:i<us.length)->∃ a sa sb sc sd,p=some a/\aJ W.heap (a.add (i*4)) 0 [cr.v sa,cr.v sb,cr.v sc,cr.v sd]/\Jm W.heap sa sb sc sd us[i] (ks[i]'ad):=by
  intro i hi;obtain ⟨a,cs,G,hc,O⟩:=s.cells i hi ad
  have:=r8 ks i ad
  obtain ⟨sa,sb,sc,sd,rfl,hu⟩:=O ad;exact ⟨a,sa,sb,sc,sd,G,hc,hu⟩
 have pos:∀ i,(hi:i<us.length)->1<=ks[i]'ad:=by
  intro i hi;obtain ⟨a,sa,sb,sc,sd,G,hc,hu⟩:=q i hi;exact Tx hu
 have hm:us.length<=ks.sum:=by
  have:=gn (fun _=>1) 1 us ks hl (fun i hi hk=>by have:=pos i hi; omega)
  rw [iT] at this;omega
 have U:3*((us.flatMap Lk.cK).flatMap (·.ai)).length<=ks.sum:=by
  have:=gn (fun u:cd=>3*((Lk.cK u).flatMap (·.ai)).length) 1 us ks hl (fun i hi hk=>by
   obtain ⟨a,sa,sb,sc,sd,G,hc,hu⟩:=q i hi
   have:=hu.V7
   omega)
  rw [UK] at this;rw [List.flatMap_assoc,ar9];omega
 refine ⟨p,l,c,us,rfl,⟨⟨s.len,ad,fun i hi=>?_⟩,fun V=>⟨ad,?_,?_,ad⟩,ad,s.cap,s.Vp,s.nil⟩⟩
 ·obtain ⟨a,sa,sb,sc,sd,G,hc,hu⟩:=q i hi;exact ⟨a,sa,sb,sc,sd,G,hc,hu.at_⟩
 ·have:=gn (fun u:cd=>u.text.length+u.data.length+u.bh.length+u.aZ.length) 1 us ks hl (fun i hi hk=>by
   obtain ⟨a,sa,sb,sc,sd,G,hc,hu⟩:=q i hi
   have:=hu.jH
   omega)
  unfold Lk.uQ;omega
 ·refine vv fun i hi=>?_
  obtain ⟨a,sa,sb,sc,sd,G,hc,hu⟩:=q i hi;intro x hx;unfold Lk.cK at hx;simp only [List.mem_append,List.mem_map] at hx;rcases hx with (⟨y,j,rfl⟩ | ⟨y,j,rfl⟩) | ⟨y,j,rfl⟩
  ·exact ⟨(hu.num.text y j).num,(hu.num.text y j).FJ⟩
  ·exact ⟨(hu.num.data y j).num,(hu.num.data y j).FJ⟩
  ·exact ⟨(hu.num.bh y j).num,(hu.num.bh y j).FJ⟩
end
end Go.Sx.Ob
namespace Go.Sx.Cr
open Go.Proofs Go.MapKept Go.WideAt Go.WideMaps Go.Maps Go.RowKit Go.WideElems Go.Sort Go.Shelf
def G4 {h:Hp} {q b:Nat} {D:List (Xaa × Xab)} {cs:Array Xab} {e:TypeId} {f:Nat × Nat} (X:h[q]?=some (.cells cs e f)) (hc:cs[0]?=some (.map (some b))) (m:dV h b D) (hl:D.length<=1024) :
  HC Tryz.prog 92 #[.func (.func 117) #[] #[.pointer (some ⟨q,0,none⟩)]] h fun v h'=>∃ ss:List (List UInt8),ss.Perm (D.map fun p=>p.1.data.toList)/\(v=.slice none 0 0↔ss=[])/\Ext h h' /\
   ss.length=((ss.mergeSort fun x y=>decide (x<=y)).map encStr).length /\
   ((v=.slice none 0 0/\ss.length=0)\/∃ g cap jv,v=.slice (some ⟨g,0,none⟩) ss.length cap/\h.size<=g/\h'[g]?=some (.cells jv 9 (0,0))/\ss.length<=cap/\cap<=maxLen/\jv.size=cap*1/\jv.toList.take (ss.length*1)=(ss.mergeSort fun x y=>decide (x<=y)).map encStr):=by
 intro W Y;subst Y;obtain ⟨F,hown,u,d⟩:=dV.owns m (by unfold maxLen; omega);have iD:W.cell? ⟨q,0,none⟩=some (.map (some b)):=by
  unfold World.cell?;rw [X];exact hc
 have G:SeqGives Fence.wide 2 Tryz.prog 117 #[.pointer (some ⟨q,0,none⟩)] encStr (fun ss=>ss.Perm (strKeys F)) (Maps.size F) W :=
  AnyZ.keys_gives (ρ:=Tryz.rC) { Tryz.Db with } Fence.wide _ trivial rfl ad q b D.length F _ (fc X) iD hown
 have J:Maps.size F<=maxLen:=by rw [d]; unfold maxLen; omega
 have j:Maps.size F*16<=140737488355328:=by rw [d]; omega
 have:=AnyZ.sorted_in Tryz.B' Fence.wide 5 trivial trivial trivial trivial rfl ad (Tryz.Fm _) (enters_of Tryz.func116 az rfl) 117 #[.pointer (some ⟨q,0,none⟩)] trivial (enters_of Tryz.func117 az rfl) _ _ J j _ G
 refine (callsIn_wide.1 this).mono fun e w' Z=>?_
 obtain ⟨v,ss,he,hp,O,U,V⟩:=Z;obtain ⟨h1,h2⟩:=O;exact ⟨v,he,⟨V.os,V.tape,V.output⟩,ss,hp.trans u,U,⟨V.size,fun i hi _=>V.block i hi⟩,by rw [h1]; simp,h2⟩
theorem wG (x:Xaa):∀ l,(DZ x l).Perm (x::l)
 | []=>List.Perm.refl _
 | y::l=>by
  unfold DZ;split
  ·exact List.Perm.refl _
  ·exact ((wG x l).cons y).trans (List.Perm.swap x y l)
theorem AH:∀ l,(rm l).Perm l
 | []=>List.Perm.refl _
 | x::l=>(wG x (rm l)).trans ((AH l).cons x)
theorem yj (x:Xaa):∀ l:List Xaa,(l.Pairwise fun a b=>a.data.toList<=b.data.toList)->((DZ x l).Pairwise fun a b=>a.data.toList<=b.data.toList)
 | [],_=>by simp [DZ]
 | y::l,h=>by
  rw [ZR] at h;unfold DZ;rw [Proofs.bytesLess_eq]
  by_cases d:x.data.toList<y.data.toList
  ·rw [YA d];have u:x.data.toList<=y.data.toList:=List.le_of_lt d;refine ZR.2 ⟨fun b j=>?_,ZR.2 h⟩;rcases YS.1 j with rfl | j
   ·exact u
   ·exact List.le_trans u (h.1 b j)
  ·rw [YB d];refine ZR.2 ⟨fun b j=>?_,yj x l h.2⟩;rcases YS.1 ((wG x l).mem_iff.1 j) with rfl | j
   ·exact List.not_lt.1 d
   ·exact h.1 b j
theorem uL:∀ l,(rm l).Pairwise fun a b=>a.data.toList<=b.data.toList
 | []=>List.Pairwise.nil
 | x::l=>yj x _ (uL l)
def H3 {ss:List (List UInt8)} {ks:List Xaa} (d:ss.Perm (ks.map fun k=>k.data.toList)):(ss.mergeSort fun x y=>decide (x<=y)).map encStr=(rm ks).map Value.string:=by
 have h1:ss.mergeSort (fun x y=>decide (x<=y))=(rm ks).map fun k=>k.data.toList:=by
  have j:∀ a b c:List UInt8,decide (a<=b)=true->decide (b<=c)=true->decide (a<=c)=true:=fun a b c h1 h2=>by simp only [decide_eq_true_eq] at *; exact List.le_trans h1 h2
  have to:∀ a b:List UInt8,(decide (a<=b) || decide (b<=a))=true:=fun a b=>by simp only [Bool.or_eq_true,decide_eq_true_eq]; exact List.le_total a b
  refine List.Perm.eq_of_pairwise (le:=fun a b=>decide (a<=b)=true) (fun a b _ _ h1 h2=>?_) (List.pairwise_mergeSort j to ss) ?_ ((List.mergeSort_perm ss _).trans (d.trans ((AH ks).map _).symm))
  ·simp only [decide_eq_true_eq] at h1 h2;exact List.le_antisymm h1 h2
  ·rw [Zw];exact (uL ks).imp fun h=>by simpa using h
 rw [h1,YY];refine Zm fun k _=>?_
 show encStr k.data.toList=.string k;unfold encStr
 congr 1
noncomputable def XL (TZ:List Xab):Cx:=⟨Tryz.prog,105,105,0,92,117,153,3,fun | 0=>some TZ | _=>none⟩
def Ut:Tryz.prog.cellsOf 9=1:=az
def Uy (TZ:List Xab):Ok (XL TZ) where
 kt k hk:=by
  have hk:(Nat.beq k 105 || Nat.beq k 105)=true:=hk;rw [Bool.or_eq_true] at hk;have e:k=105:=hk.elim YL YL;subst e;exact Ob.WZ
 ki k hk:=by cases (show false=true from hk)
 idx x n h K hk:=by
  show aU Tryz.prog (HU 153 #[.string x,.int .u8 n]) h K;refine FV (e:=Extern.BytealgIndexByte.indexByte) Tryz.func153 To Sn SK Tb ?_;rw [qY];exact hk
 SU h q b D cs e f Z hc m hl:=by
  show HC Tryz.prog 92 #[.func (.func 117) #[] #[.pointer (some ⟨q,0,none⟩)]] h _;refine HC.mono (G4 Z hc m hl) fun v h' hr=>?_
  obtain ⟨ss,X,j,u,Y,F⟩:=hr;refine ⟨u,?_⟩;have d:ss.length=D.length:=by rw [X.length_eq]; simp
  cases D with
  | nil =>
   have:ss=[]:=Zf (by rw [d]; rfl)
   exact j.2 this
  | cons p D =>
   rcases F with ⟨_,h0⟩ | ⟨g,cap,jv,hv,hg,G,U,J,V,O⟩
   ·rw [d] at h0; simp at h0
   ·have hk:=H3 (ss:=ss) (ks:=(p::D).map (·.1)) (by rw [YY]; exact X);rw [hk] at O;refine ⟨g,jv.toList.drop ss.length,cap,hg,by rw [<- d]; exact hv,by unfold maxLen at J; omega,?_,by rw [<- d]; exact U,?_⟩
    ·have h9:jv.toList.length=cap*1:=by rw [ZE]; exact V
     rw [show (XL TZ).P.cellsOf 9=1 from Ut,Zl,h9,<- d]; omega
    ·unfold bI;rw [G,<- O,Nat.mul_one,Zc]
def opsV:List Xab:=Ob.gw Ob.fj Ob.rR
noncomputable def cx:Cx:=XL opsV
def SG:Ok cx:=Uy opsV
def Kz:opsV.all (fD 9)=true:=az
def V6 {h:Hp} (d:∃ e f,h[0]?=some (.cells opsV.toArray e f)):∀ b c,cx.ro b=some c->b<cx.ng/\∃ cs e f,h[b]?=some (.cells cs e f)/\∀ (i:Nat) (v:Xab),c[i]?=some v->cs[i]?=some v/\fD 9 v=true:=by
 obtain ⟨e,f,d⟩:=d;intro b c j;cases b with
 | succ b=>cases (show none=some c from j)
 | zero =>
  cases (show some opsV=some c from j);refine ⟨show 0<3 from ad,opsV.toArray,e,f,d,fun i v hv=>⟨by rw [al9]; exact hv,?_⟩⟩;exact Y1.1 Kz v (Zp hv)
end Go.Sx.Cr
namespace Go.Sx.Ob
open Go.Proofs Go.Proofs.YthbffkdafjboiaaGreatDoor
open Go.ChangeShapes Go.WideShapes Go.ChangeAt Go.WideMaps Go.WideElems Go.RowKit
def Ej {W:World} (h:laidMetH Tryz.prog Rows.plainNumbersRow.laid W):∃ e f,W.heap[0]?=some (.cells Cr.opsV.toArray e f):=by
 rw [MakeChecks.laidMetH_plain _ _ _ az] at h;obtain ⟨ps,⟨g0,t0,O,f0,p0,q0,U,V,X,Y,⟨g1,t1,Z,f1,p1,q1,hg1,ht1,hv1,hd1,⟨g2,t2,cs2,f2,p2,q2,hg2,ht2,hv2,hd2,⟨g3,t3,cs3,f3,p3,q3,d,j,u,F,_,_⟩,_⟩,_⟩,_⟩,_,_⟩:=h;obtain rfl:=YR ((show Tryz.prog.globalNamed _=some 0 from az).symm.trans d);have h3:(Tryz.prog.globals[0]?).map (·.type)=some 155:=az
 obtain rfl:=YR (h3.symm.trans j);have hr:=Ct F;obtain ⟨e3,G,J⟩:=Dd d u;exact ⟨e3,G,by rw [J,show Cr.opsV=gw fj rR from rfl,<- hr]⟩
section
variable {H:Type} {enc:TypeId × Xab->H} {W:World} {base:Nat} {sp:Nat->Bool} {held:Bool}
def QN (x:Int) (cs:List Xab) (k:Nat):Prop:=cs=[.int .i64 x]/\k=1
def MW {n:Nat} {cs:List Xab} {y:DataW H × List MemPlace} (h:DataW.trod enc Tryz.prog W base sp held n 3 cs=some y):∃ x,QN x cs (Rows.uptoBulk y.1):=by
 obtain ⟨b,e1,d,_⟩:=DataW.trod_int u3 h;refine ⟨b,e1,?_⟩;rw [d] <;> rfl
def zV:Tryz.prog.underlying 31=some (.slice 3):=az
structure T4 (h:Hp) (p:Xac) (l c:Nat) (xs:List Int) (N:Nat):Prop where
 vw:Pn.wA h p l xs
 many:xs.length<=N
def T7 {h:Hp} {p:Xac} {l c:Nat} {us:List Int} {ks:List Nat} (s:BA QN h 1 p l c us ks):us.length<=ks.sum:=by
 have hl:=s.yz
 have:=gn (fun _=>1) 1 us ks hl (fun i hi hk=>by
  obtain ⟨_,_,_,_,d⟩:=s.cells i hi hk;rw [d.2];omega)
 rw [iT] at this;omega
def open_ints {b0:Nat} {v:Xab} {d:DataW H} {ps:List MemPlace} (u:Value.okWide Tryz.prog W .any b0 31 v) (h:DataW.Trod enc Tryz.prog W base sp held 31 v d ps) (J:Rows.uptoBulk d<=2^50) :
  ∃ p l c xs,v=.slice p l c/\T4 W.heap p l c xs (Rows.uptoBulk d):=by
 obtain ⟨p,l,c,rfl⟩:=okWide_slice zV u;obtain ⟨fuel,h⟩:=h;have j:(Value.slice p l c).cells.toList=[.slice p l c]:=rfl;rw [j] at h;obtain ⟨p',l',c',us,ks,e0,s,hs⟩:=open_slice zV c3 QN (fun cs y n h=>MW h) h;cases e0;have hs:ks.sum+1<=Rows.uptoBulk d:=hs;have h2:=T7 s;refine ⟨p,l,c,us,rfl,⟨s.len,ad,fun i hi=>?_⟩,ad⟩;have hl:=s.yz;obtain ⟨a,cs,F,hc,G⟩:=s.cells i hi ad;rw [G.1] at hc;exact ⟨a,F,hc⟩
end
end Go.Sx.Ob
namespace Go.Sx.Cr
open Go.Proofs
noncomputable def Sl:Code:=Tryz.f11.body.getD .skip
noncomputable def Yd:CS:=⟨rf cx.ng .nil,cx.ng⟩
def O2:Tryz.f11.body=some Sl:=az
def PY:OX cx (U8 cx 60) Tryz.f11 (.bool true) Sl .nil Yd=true:=az
def Mh {h:Hp} (d:∃ e f,h[0]?=some (.cells opsV.toArray e f)):HC Tryz.prog 11 #[] h fun v h'=>v=.bool true/\Ext h h' :=
 NT (C:=cx) Tryz.func11 O2 fun e' a j g=>PP SG mixed (PU SG mixed 60) rfl PY _ e' a h (KV (V6 d)) j g
end Go.Sx.Cr
namespace Go.Sx.Ob
open Go.Proofs Go.Proofs.YthbffkdafjboiaaGreatDoor
open Go.ChangeMaps
open Go.ChangeShapes Go.WideShapes Go.ChangeAt Go.WideMaps Go.WideElems Go.RowKit
def A7:(Tryz.f4.params.toList.all fun t=>decide (t<Tryz.prog.types.size))=true:=az
def zS:Tryz.prog.inPlace 4=Rows.plainAnyUptoRow.inPlace:=az
def Bd:Tryz.prog.unfollowed 4=Rows.plainAnyUptoRow.unfollowed:=az
def zI:Tryz.prog.recurses 4=Rows.plainAnyUptoRow.recurses:=az
def Ai:Tryz.prog.varsNamed 4=Rows.plainAnyUptoRow.named:=az
def AD:joinedFacts Tryz.prog 4 Tryz.f4 (Rows.OpenSpec.upto Rows.plainAnySpec).bare Rows.plainAnyUptoRow=true:=by
 unfold joinedFacts;rw [zS,Bd,zI,Ai]
 kernel_rfl
def yB (os:Os) (started:os.Started) (H:Type) (enc:TypeId × Xab->H) (F:Stop.Interp) :
  ReturnsInHanded {} Tryz.checked os 4 .any (fun w args=>((Rows.OpenSpec.upto Rows.plainAnySpec).pre enc Tryz.prog Tryz.f4 [] false w args/\laidMetH Tryz.prog Rows.plainAnyUptoRow.laid w)/\sizedMet enc Tryz.prog Tryz.f4 (Rows.OpenSpec.upto Rows.plainAnySpec) false w args)
   (((Rows.OpenSpec.upto Rows.plainAnySpec).at F).post enc Tryz.prog Tryz.f4 false true false false):=by
 refine Mz (k:=Rows.uptoSmall) rfl (C:=Tryz.checked) (X:=fun w _=>laidMetH Tryz.prog Rows.plainAnyUptoRow.laid w) (fun _ _ _ hh h=>h.of_heap hh) Xv started az Tryz.func4
  (GL (k:=Rows.uptoSmall) rfl (C:=Tryz.checked) (os:=os) (X:=fun w _=>laidMetH Tryz.prog Rows.plainAnyUptoRow.laid w) (World.doorLaid Tryz.prog 400 os) #[.slice none 0 0,.slice none 0 0] 8 rfl (World.shaped_of_RefB az az) az (x:=([.nil,.nil],[],[])) az rfl az (OV os _)) ?_
 intro W base args ds gs before d hW hk Y;have u:∀ (j:Nat) t v,Tryz.f4.params[j]?=some t->args[j]?=some v->Value.okWide Tryz.prog W .any base t v:=d
 have J:=hW;obtain ⟨p,q,O,hV,rfl,hfz,hnd⟩:=hW;have hA:DataW.TrodAll enc Tryz.prog W 0 (fun _=>true) true Tryz.f4.params.toList args.toList ds p:=O;have Z:Tryz.f4.params=#[30,31]:=az
 rw [Z] at hA u;clear O d;obtain ⟨v0,vs0,d0,ds0,p0,q0,U,rfl,rfl,t0,hA1⟩:=trodAll_cons hA;obtain ⟨v1,vs1,d1,ds1,p1,q1,hv1,rfl,rfl,t1,hA2⟩:=trodAll_cons hA1;subst hv1;obtain ⟨rfl,rfl,rfl⟩:=trodAll_nil hA2;obtain ⟨args⟩:=args;simp only at U;subst U;have hk:=Yz hk;have G:=hk;simp only [List.append_nil,nA,cA] at G;obtain ⟨rfl,rfl⟩:=trodVars_none hV;obtain ⟨a0,l0,c0,x0,rfl,h0⟩:=HH (u 0 30 v0 rfl rfl) t0 (by simp only [Rows.uptoBulkAll] at G; omega);obtain ⟨a1,l1,c1,x1,rfl,h1⟩:=open_ints (u 1 31 v1 rfl rfl) t1 (by simp only [Rows.uptoBulkAll] at G; omega);simp only [List.append_nil] at J;simp only [List.append_nil,List.nil_append,List.cons_append,Rows.uptoBulkAll] at hk;refine (OJ (Pn.Ro (P0 Y).2 (by obtain ⟨e,f,V⟩:=Ej Y; exact ⟨rR,e,f,V⟩) (fun h2 e2=>Cr.Mh (by obtain ⟨e,f,V⟩:=Ej Y; exact ⟨e,f,e2.get V aj⟩)) (su:=⟨a0,l0,c0⟩) (sr:=⟨a1,l1,c1⟩) h0.vw (h0.sm ad) h1.vw (by have:=h1.many; omega)) (fun _ _ h=>h.2)).mono fun e W' ⟨v,he,hB,hv,_⟩=>?_
 subst he hv;exact ⟨_,rfl,Nc rfl J (fun _ _ _=>trodAll_mk1 (shut_bool u4 _)) rfl rfl (fun t V=>Yz (Y1.1 A7 t V)) hB⟩
def Ar:Rows.PlainAnyUptoSaid :=
 OpenClaim.holds_of_cond 4 Tryz.f4 rfl rfl rfl rfl rfl rfl rfl ⟨rfl,rfl,rfl,rfl,rfl⟩ rfl rfl rfl rfl rfl az Tryz.func4 AD
  (Yz az) (by unfold Func.isWrapper; first | (rw [YC (by decide +kernel)]; kernel_rfl) | (rw [Yx (by decide +kernel)]; exact ⟨rfl,rfl⟩))
  (fun os started H enc _ F=>yB os started H enc F)
end Go.Sx.Ob
