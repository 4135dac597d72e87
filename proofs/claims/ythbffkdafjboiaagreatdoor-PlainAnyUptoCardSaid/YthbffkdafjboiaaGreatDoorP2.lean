/- Contracts over heaps, part 2. Condition: as each statement says. -/
import Derived.Test.YthbffkdafjboiaaGreatDoorP1
import Derived.Test.YthbffkdafjboiaaGreatDoorBtD
import Derived.Test.YthbffkdafjboiaaGreatDoorCobjShelf
import Derived.Test.YthbffkdafjboiaaGreatDoorCShelfB
import Derived.Test.YthbffkdafjboiaaGreatDoorBtE
import Derived.LaidEql
import Derived.Stop.Asserts
import Derived.RowKitTokens
import Derived.Lib.ItoaLen
import Derived.Lib.ItoaMem
set_option linter.all false
set_option maxRecDepth 100000
set_option maxHeartbeats 4000000
namespace Go.Sx.Ob
open Go.Proofs
structure xS (h:Hp) (p:Xac) (l:Nat) (us:List cd):Prop where
 len:l=us.length
 many:us.length<=2^60
 cells:∀ i,(hi:i<us.length)->∃ a sa sb sc sd,p=some a/\aJ h (a.add (i*4)) 0 [cr.v sa,cr.v sb,cr.v sc,cr.v sd]/\tO h sa sb sc sd us[i]
def xS.an {h h':Hp} {p:Xac} {l:Nat} {us:List cd} (v:xS h p l us) (k:Ext h h'):xS h' p l us :=
 ⟨v.len,v.many,fun i hi=>by
  obtain ⟨a,sa,sb,sc,sd,d,hc,hv⟩:=v.cells i hi;exact ⟨a,sa,sb,sc,sd,d,aT k aj _ _ hc,hv.an k⟩⟩
def BE (u:cd):Bool:=decide (600<u.text.length) || decide (300<u.data.length) || decide (100<u.bh.length)
def I2 (u:cd):Nat:=u.text.length+u.data.length+u.bh.length
def iF (us:List cd):Nat:=(us.map I2).sum
def tQ (us:List cd):Bool:=(us.take 65).any BE || decide (900<iF (us.take 65))
def LH {α:Type} (f:α->Bool) (l:List α) {i n:Nat} (hi:i<l.length) (hn:i<n) (h:f l[i]=true):(l.take n).any f=true:=by
 rw [ZL];exact ⟨l[i],List.mem_take_iff_getElem.2 ⟨i,ad,rfl⟩,h⟩
def GC (us:List cd) {i:Nat} (hi:i<us.length):iF (us.take (i+1))=iF (us.take i)+I2 us[i]:=by
 unfold iF;rw [Yw hi,YH,List.sum_append]
 simp
def LO {h:Hp} {p:Xac} {l c:Nat} {us:List cd} (v:xS h p l us):wz Tryz.prog 25 [.slice p l c] h (.bool (tQ us)):=by
 refine ei mixed Tryz.func25 az (oX p l c) ?_;unfold j1 bf bg bz aK bm dy aP bR;have hl:=v.len;have hm:=v.many;refine aS (cs:=[(false,[.bool]),(false,[.int .i64]),(false,[.int .i64])]) (fun y m h'=>∃ i:Nat,y.1=false/\y.2.1=((iF (us.take i):Nat):Int)/\y.2.2.1=(i:Int)/\m=l-i/\i<=l/\i<=65/\h'=h/\(us.take i).any BE=false/\iF (us.take i)<=i*1000) (false,(0:Int),(0:Int),()) l rfl
  ⟨0,rfl,rfl,rfl,rfl,ad,ad,rfl,rfl,by simp [iF]⟩ ?_
 rintro ⟨b1,n2,n3,⟨⟩⟩ m h1 ⟨i,u,F,G,rfl,hi,V,rfl,X,hs⟩;simp only at u F G;subst u F G;refine ak ?_;have j:(l<=i\/65<=i)->(T.ret (.bool (decide (((iF (us.take i):Nat):Int)>(900:Int))))) [Jl (cs:=[(false,[.bool]),(false,[.int .i64]),(false,[.int .i64])]) (fun y m h'=>∃ i:Nat,y.1=false/\y.2.1=((iF (us.take i):Nat):Int)/\y.2.2.1=(i:Int)/\m=l-i/\i<=l/\i<=65/\h'=h1/\(us.take i).any BE=false/\iF (us.take i)<=i*1000) (l-i)] (fun v' h'=>v'=.bool (tQ us)/\h'=h1) h1:=by
  intro hh
  have:us.take i=us.take 65:=by
   by_cases J:i=65
   ·rw [J]
   ·rw [YW ad,YW ad]
  refine ⟨?_,rfl⟩;unfold tQ;rw [<- this,X,ad9]
  congr 1
  by_cases g:900<iF (us.take i)
  ·rw [YA g,YA ad]
  ·rw [YB g,YB ad]
 refine Jg (fun r=>?_) (fun r=>?_)
 ·have r:=YG r;exact j ad
 have r:=Yz r;refine Jg (fun w=>?_) (fun w=>?_)
 ·have w:=YG w;exact j ad
 have w:=Yz w;clear j;have d:i<us.length:=ad
 obtain ⟨a,sa,sb,sc,sd,rfl,hc,hv⟩:=v.cells i d;have na:=hv.text.len;have nb:=hv.data.len;have nc:=hv.bh.len;have ca:aJ h1 (a.add (i*4)) 0 [cr.v sa]:=⟨hc.1,trivial⟩
 have Y:aJ h1 ((a.add (i*4)).add 1) 0 [cr.v sb]:=ko _ 1 0 ⟨hc.2.1,trivial⟩;have cc:aJ h1 ((a.add (i*4)).add 2) 0 [cr.v sc]:=ko _ 2 0 ⟨hc.2.2.1,trivial⟩;have qh:BE us[i]=true->(T.ret (.bool true)) [Jl (cs:=[(false,[.bool]),(false,[.int .i64]),(false,[.int .i64])]) (fun y m h'=>∃ i:Nat,y.1=false/\y.2.1=((iF (us.take i):Nat):Int)/\y.2.2.1=(i:Int)/\m=l-i/\i<=l/\i<=65/\h'=h1/\(us.take i).any BE=false/\iF (us.take i)<=i*1000) (l-i)] (fun v' h'=>v'=.bool (tQ us)/\h'=h1) h1:=by
  intro hg;refine ⟨?_,rfl⟩;unfold tQ;rw [LH BE us d ad hg] <;> rfl
 refine ax ⟨ad,ad⟩ (av rfl ?_);refine ay ((sa.p,sa.l,sa.c),()) ca (ak ?_);refine ar (fun g=>?_) (fun g1=>?_)
 ·have g:=Yz g;refine qh ?_;unfold BE;rw [YA ad] <;> rfl
 have g1:=YG g1;refine ax ⟨ad,ad⟩ (av rfl ?_);refine ay ((sb.p,sb.l,sb.c),()) Y (ak ?_);refine ar (fun g=>?_) (fun g2=>?_)
 ·have g:=Yz g;refine qh ?_;unfold BE;rw [YA (show 300<us[i].data.length from ad)]
  simp
 have g2:=YG g2;refine ax ⟨ad,ad⟩ (av rfl ?_);refine ay ((sc.p,sc.l,sc.c),()) cc (ak ?_);refine ar (fun g=>?_) (fun Z=>?_)
 ·have g:=Yz g;refine qh ?_;unfold BE;rw [YA (show 100<us[i].bh.length from ad)]
  simp
 have Z:=YG Z;refine ax ⟨ad,ad⟩ (av rfl ?_);refine ay ((sa.p,sa.l,sa.c),()) ca (ak ?_);refine ax ⟨ad,ad⟩ (av rfl ?_);refine ay ((sb.p,sb.l,sb.c),()) Y (ak ?_);refine ax ⟨ad,ad⟩ (av rfl ?_);refine ay ((sc.p,sc.l,sc.c),()) cc (ak ?_);rw [wrap_i64 (x:=((iF (us.take i):Nat):Int)+(sa.l:Int)) ad ad,wrap_i64 (x:=((iF (us.take i):Nat):Int)+(sa.l:Int)+(sb.l:Int)) ad ad,wrap_i64 (x:=((iF (us.take i):Nat):Int)+(sa.l:Int)+(sb.l:Int)+(sc.l:Int)) ad ad,wrap_i64 (x:=(i:Int)+1) ad ad];have O:=GC us d;have U:I2 us[i]=sa.l+sb.l+sc.l:=by unfold I2; omega
 refine aG (cs:=[(false,[.bool]),(false,[.int .i64]),(false,[.int .i64])]) (false,((iF (us.take (i+1)):Nat):Int),((i+1:Nat):Int),()) (l-(i+1)) rfl ad ?_ ?_
 ·show [Value.bool false,Value.int .i64 (((iF (us.take i):Nat):Int)+(sa.l:Int)+(sb.l:Int)+(sc.l:Int)),Value.int .i64 ((i:Int)+1)]=[Value.bool false,Value.int .i64 ((iF (us.take (i+1)):Nat):Int),Value.int .i64 ((i+1:Nat):Int)];rw [O,U]
  congr 3
  omega
 ·refine ⟨i+1,rfl,rfl,rfl,rfl,ad,ad,rfl,?_,ad⟩;rw [Yw d,bc9,X,ad9];unfold BE;simp only [List.any_cons,List.any_nil,Bool.or_false,Bool.or_eq_false_iff,decide_eq_false_iff_not];omega
def Sf:Array (Nat × Xab):=#[(0,.agg #[.string ⟨#[110,111,112]⟩,.int .u8 (0:Int),.int .i64 (1:Int)]),(1,.agg #[.string ⟨#[104,97,108,116]⟩,.int .u8 (1:Int),.int .i64 (1:Int)]),(2,.agg #[.string ⟨#[114,101,116]⟩,.int .u8 (2:Int),.int .i64 (1:Int)]),(3,.agg #[.string ⟨#[112,114,105,110,116]⟩,.int .u8 (3:Int),.int .i64 (2:Int)]),(4,.agg #[.string ⟨#[105,110]⟩,.int .u8 (4:Int),.int .i64 (2:Int)]),(5,.agg #[.string ⟨#[112,117,115,104]⟩,.int .u8 (5:Int),.int .i64 (2:Int)]),(6,.agg #[.string ⟨#[112,111,112]⟩,.int .u8 (6:Int),.int .i64 (2:Int)]),(7,.agg #[.string ⟨#[106,114]⟩,.int .u8 (7:Int),.int .i64 (2:Int)]),(8,.agg #[.string ⟨#[110,101,103]⟩,.int .u8 (8:Int),.int .i64 (2:Int)]),(9,.agg #[.string ⟨#[110,111,116]⟩,.int .u8 (9:Int),.int .i64 (2:Int)]),(10,.agg #[.string ⟨#[122,116,117,114,110]⟩,.int .u8 (10:Int),.int .i64 (3:Int)]),(11,.agg #[.string ⟨#[122,99,111,110,106]⟩,.int .u8 (11:Int),.int .i64 (3:Int)]),(12,.agg #[.string ⟨#[109,111,118]⟩,.int .u8 (16:Int),.int .i64 (4:Int)]),(13,.agg #[.string ⟨#[97,100,100]⟩,.int .u8 (17:Int),.int .i64 (4:Int)]),(14,.agg #[.string ⟨#[115,117,98]⟩,.int .u8 (18:Int),.int .i64 (4:Int)]),(15,.agg #[.string ⟨#[109,117,108]⟩,.int .u8 (19:Int),.int .i64 (4:Int)]),(16,.agg #[.string ⟨#[100,105,118]⟩,.int .u8 (20:Int),.int .i64 (4:Int)]),(17,.agg #[.string ⟨#[97,110,100]⟩,.int .u8 (21:Int),.int .i64 (4:Int)]),(18,.agg #[.string ⟨#[111,114]⟩,.int .u8 (22:Int),.int .i64 (4:Int)]),(19,.agg #[.string ⟨#[120,111,114]⟩,.int .u8 (23:Int),.int .i64 (4:Int)]),(20,.agg #[.string ⟨#[115,104,108]⟩,.int .u8 (24:Int),.int .i64 (4:Int)]),(21,.agg #[.string ⟨#[115,104,114]⟩,.int .u8 (25:Int),.int .i64 (4:Int)]),(22,.agg #[.string ⟨#[108,116]⟩,.int .u8 (26:Int),.int .i64 (4:Int)]),(23,.agg #[.string ⟨#[101,113]⟩,.int .u8 (27:Int),.int .i64 (4:Int)]),(24,.agg #[.string ⟨#[108,100,98]⟩,.int .u8 (28:Int),.int .i64 (4:Int)]),(25,.agg #[.string ⟨#[108,100,119]⟩,.int .u8 (29:Int),.int .i64 (4:Int)]),(26,.agg #[.string ⟨#[108,100,109]⟩,.int .u8 (30:Int),.int .i64 (4:Int)]),(27,.agg #[.string ⟨#[115,116,109]⟩,.int .u8 (31:Int),.int .i64 (4:Int)]),(28,.agg #[.string ⟨#[122,109,111,118]⟩,.int .u8 (32:Int),.int .i64 (5:Int)]),(29,.agg #[.string ⟨#[122,97,100,100]⟩,.int .u8 (33:Int),.int .i64 (5:Int)]),(30,.agg #[.string ⟨#[122,115,117,98]⟩,.int .u8 (34:Int),.int .i64 (5:Int)]),(31,.agg #[.string ⟨#[122,109,117,108]⟩,.int .u8 (35:Int),.int .i64 (5:Int)]),(32,.agg #[.string ⟨#[122,114,101]⟩,.int .u8 (36:Int),.int .i64 (6:Int)]),(33,.agg #[.string ⟨#[122,105,109]⟩,.int .u8 (37:Int),.int .i64 (6:Int)]),(34,.agg #[.string ⟨#[122,115,101,116]⟩,.int .u8 (38:Int),.int .i64 (7:Int)]),(35,.agg #[.string ⟨#[108,105,115]⟩,.int .u8 (48:Int),.int .i64 (8:Int)]),(36,.agg #[.string ⟨#[116,114,97,112]⟩,.int .u8 (49:Int),.int .i64 (9:Int)]),(37,.agg #[.string ⟨#[108,105]⟩,.int .u8 (50:Int),.int .i64 (10:Int)]),(38,.agg #[.string ⟨#[108,100,112]⟩,.int .u8 (51:Int),.int .i64 (11:Int)]),(39,.agg #[.string ⟨#[106,109,112]⟩,.int .u8 (64:Int),.int .i64 (12:Int)]),(40,.agg #[.string ⟨#[99,97,108,108]⟩,.int .u8 (67:Int),.int .i64 (12:Int)]),(41,.agg #[.string ⟨#[106,122]⟩,.int .u8 (70:Int),.int .i64 (13:Int)]),(42,.agg #[.string ⟨#[106,110,122]⟩,.int .u8 (73:Int),.int .i64 (13:Int)])]
def fj (k:Nat):Xaa:=match Sf[k]? with | some (_,.agg #[.string s,_,_])=>s | _=>⟨#[]⟩
def rR (k:Nat):Int:=match Sf[k]? with | some (_,.agg #[_,.int _ b,_])=>b | _=>0
def Xk:Tryz.prog.underlying 163=some (.slice 162):=az
def Yg:(Tryz.prog.info? 162).map (fun i=>(i.zero,i.size,i.bytes))=some (some (.agg #[.string ⟨#[]⟩,.int .u8 0,.int .i64 0]),3,32):=az
def RJ:Instr.fill (fun j=>some (j*3,3)) ((Array.range (43*3)).map ((Value.agg #[.string ⟨#[]⟩,.int .u8 0,.int .i64 0]).cells[· % (Value.agg #[.string ⟨#[]⟩,.int .u8 0,.int .i64 0]).cells.size]!)) Sf.toList=some (gw fj rR).toArray:=az
def Nx (h:Hp):HC Tryz.prog 79 #[] h fun v h'=>v=.slice (some ⟨h.size,0,none⟩) 43 43/\bI h' h.size 162 (gw fj rR)/\Ext h h':=by
 refine aY (args:=[]) mixed Tryz.func79 az qH ?_;show (T.ek Tryz.prog (Instr.buildSlice 163 43 Sf) false [(false,[.slice 0])] <| fun (p0:Xac) (d:Nat) (j:Nat)=>T.ret (.slice p0 d j)) [] _ h;refine jC Xk Yg ad ad RJ ?_;intro h1 b1 e1 z1;exact ⟨rfl,b1,e1⟩
def Lf {nm:Nat->Xaa} {by_:Nat->Int} {k:Nat} (hk:k<43):(gw nm by_)[k*3+2]?=some (.int .i64 (iN.getD k 0:Nat)):=by
 unfold gw;rw [oM _ 3 aj _ _ _ ad];simp [hk]
def ow (h:Hp) (op:Int) (u:Sm op):HC Tryz.prog 78 #[.int .i64 op] h fun w h'=>w=.int .i64 (cC op:Nat)/\Ext h h':=by
 refine aY (args:=[.int .i64 op]) mixed Tryz.func78 az (oB op) ?_;unfold j6 bJ bm;refine aI (Nx h) ?_;rintro _ h1 ⟨rfl,b1,e1⟩;refine ⟨((some ⟨h.size,0,none⟩,43,43),()),rfl,ak ?_⟩;have z0:op<1\/43<op->cC op=0:=by
  intro F
  by_cases h0:cC op=0
  ·exact h0
  ·have:=zQ op h0
   omega
 refine ar (fun q=>?_) (fun q=>?_)
 ·have q:=Yz q;rw [z0 (.inl q)];exact ⟨rfl,e1⟩
 have q:=YG q;refine ar (fun r=>?_) (fun r=>?_)
 ·have r:op>((43:Nat):Int):=Yz r;rw [z0 (.inr ad)];exact ⟨rfl,e1⟩
 have r:¬ op>((43:Nat):Int):=YG r;obtain ⟨k,hk⟩:∃ k:Nat,op=(k:Int)+1:=⟨(op-1).toNat,ad⟩
 rw [wrap_i64 ad ad,show op-1=(k:Int) from ad];have d:k<43:=ad
 refine ax ⟨ad,ad⟩ ?_;refine av rfl ?_;rw [show Int.toNat (k:Int)=k from rfl,aE,aE];have hs:cC op=iN.getD k 0:=by
  unfold cC;rw [Yx ad,show (op-1).toNat=k from ad]
 refine af b1 (((iN.getD k 0:Nat):Int),()) ?_ ?_
 ·show List.take 1 (List.drop (0+k*3+2) (gw fj rR))=[.int .i64 ((iN.getD k 0:Nat):Int)]
  have:=Lf (nm:=fj) (by_:=rR) d
  rw [Y7];obtain ⟨j,hv⟩:=YO.1 this;rw [YK j,List.take_succ_cons,List.take_zero,hv]
 ·rw [hs];exact ⟨rfl,e1⟩
def Cz (h:Hp) (op:Int) (d:Sm op):HC Tryz.prog 123 #[.int .i64 op] h fun w h'=>w=.bool (nq op)/\Ext h h':=by
 refine aY (args:=[.int .i64 op]) mixed Tryz.func123 az (oF op) ?_;unfold jY ct dy;have hc:=ig op;refine aI (ow h op d) ?_;rintro _ h1 ⟨rfl,e1⟩;refine ⟨(((cC op:Nat):Int),()),rfl,ak ?_⟩;refine ar (fun q=>?_) (fun q=>?_)
 ·have q:cC op=12:=FD q;exact ⟨by unfold nq; rw [q]; rfl,e1⟩
 have q:¬ cC op=12:=FP q;refine aI (ow h1 op d) ?_;rintro _ h2 ⟨rfl,e2⟩;refine ⟨(((cC op:Nat):Int),()),rfl,?_⟩;refine ⟨?_,e1.trans e2⟩
 congr 1
 unfold nq
 by_cases g:cC op=13
 ·rw [g]; rfl
 ·rw [YB ad];exact X0 (c:=13) g
def Jx (h:Hp) (op:Int) (F:Sm op):HC Tryz.prog 125 #[.int .i64 op] h fun w h'=>w=.bool (Gp op)/\Ext h h':=by
 refine aY (args:=[.int .i64 op]) mixed Tryz.func125 az (pT op) ?_;unfold kK ct dy;have hc:=ig op;refine aI (ow h op F) ?_;rintro _ h1 ⟨rfl,e1⟩;refine ⟨(((cC op:Nat):Int),()),rfl,ak ?_⟩;refine ar (fun q=>?_) (fun d=>?_)
 ·have q:cC op=10:=FD q;exact ⟨by unfold Gp; rw [q]; rfl,e1⟩
 have d:¬ cC op=10:=FP d;refine ar (fun q=>?_) (fun j=>?_)
 ·have q:cC op=11:=FD q;exact ⟨by unfold Gp; rw [q]; rfl,e1⟩
 have j:¬ cC op=11:=FP j;refine ar (fun q=>?_) (fun u=>?_)
 ·have q:cC op=12:=FD q;exact ⟨by unfold Gp; rw [q]; rfl,e1⟩
 have u:¬ cC op=12:=FP u;refine ⟨?_,e1⟩
 congr 1
 unfold Gp
 by_cases g:cC op=13
 ·rw [g]; rfl
 ·rw [YB ad];exact X0 (c:=13) g
def Q1 (h:Hp) (n w:Int):wz Tryz.prog 147 [.int .i32 n,.int .i64 w] h (.bool ((decide (w=1) || decide (w=2) || decide (w=4)) && mH n w)):=by
 refine ei mixed Tryz.func147 az (py n w) ?_;unfold kY mH bC dy;refine ar (fun q=>?_) (fun d=>?_)
 ·have q:w=1:=by simpa using q
  rw [YC q,q];refine ar (fun r=>⟨?_,rfl⟩) (fun r=>⟨?_,rfl⟩)
  ·have r:=Yz r;rw [YA (show -128<=n from r)]
   simp
  ·have r:=YG r;rw [YB (show ¬ -128<=n from r)]
   simp
 have d:¬ w=1:=by simpa using d
 rw [Yx d];refine ar (fun q=>?_) (fun j=>?_)
 ·have q:w=2:=by simpa using q
  rw [YC q,q];refine ar (fun r=>⟨?_,rfl⟩) (fun r=>⟨?_,rfl⟩)
  ·have r:=Yz r;rw [YA (show -32768<=n from r)]
   simp
  ·have r:=YG r;rw [YB (show ¬ -32768<=n from r)]
   simp
 have j:¬ w=2:=by simpa using j
 rw [Yx j];refine ar (fun q=>?_) (fun u=>?_)
 ·have q:w=4:=by simpa using q
  rw [q];exact ⟨rfl,rfl⟩
 ·have u:¬ w=4:=by simpa using u
  rw [YB d,YB j,YB u];exact ⟨rfl,rfl⟩
def aA (s:Nat):Nat:=if s=2\/s=8\/s=10\/s=11\/s=13\/s=4\/s=6 then 8 else if s=3\/s=5\/s=7 then 4 else 0
def bB (s:Nat):Nat:=if s=4\/s=7 then 8 else if s=5\/s=6 then 4 else 0
def N0 {s:Nat} (hs:1<=s/\s<=13) (a b n:Int):cJ s a b n=true↔(0<=a/\0<=b/\(a<(aA s:Int)\/(aA s=0/\a=0))/\(b<(bB s:Int)\/(bB s=0/\b=0))/\(s=7->0<=n/\n<=7)):=by
 have:s=1\/s=2\/s=3\/s=4\/s=5\/s=6\/s=7\/s=8\/s=9\/s=10\/s=11\/s=12\/s=13:=ad
 unfold cJ wB aA bB;rcases this with rfl | rfl | rfl | rfl | rfl | rfl | rfl | rfl | rfl | rfl | rfl | rfl | rfl <;> simp <;> omega
def KJ (h:Hp) (op a b n form:Int) (G:Sm op) (hs:cC op≠0):HC Tryz.prog 146 #[dm op a b n form] h fun w h'=>w=.bool (cJ (cC op) a b n)/\Ext h h':=by
 refine aY (args:=[dm op a b n form]) mixed Tryz.func146 az (lj op a b n form) ?_;unfold gz ct bC dy aP;have hc:1<=cC op/\cC op<=13:=by have:=ig op; omega
 refine br ?_;intro h1 b1 e1 z1;refine af b1 (op,()) rfl (ak ?_);refine aI (ow h1 op G) ?_;rintro _ h2 ⟨rfl,e2⟩;refine ⟨(((cC op:Nat):Int),()),rfl,ak ?_⟩;have j:=b1.an e2 aj;have u:=e1.trans e2;have d:=N0 hc a b n;generalize cC op=s at *;generalize cJ s a b n=R at *;refine fJ (cs:=[(false,[.int .i64]),(false,[.int .i64])]) (fun y h'=>y=(((aA s:Nat):Int),((bB s:Nat):Int),())/\h2=h') ?_ ?_
 ·have:s=1\/s=2\/s=3\/s=4\/s=5\/s=6\/s=7\/s=8\/s=9\/s=10\/s=11\/s=12\/s=13:=ad
  rcases this with rfl | rfl | rfl | rfl | rfl | rfl | rfl | rfl | rfl | rfl | rfl | rfl | rfl
  all_goals (repeat (first | refine bk rfl ?_ | refine bG rfl ?_))
  all_goals exact cT (cs:=[(false,[.int .i64]),(false,[.int .i64])]) (((aA _:Nat):Int),((bB _:Nat):Int),()) rfl rfl ⟨rfl,rfl⟩
 rintro ⟨A,B,⟨⟩⟩ _ ⟨J,rfl⟩;cases J;refine ak ?_;simp only [aE];have F:∀ b:Bool,(b=true↔R=true)->(T.ret (.bool b)) [] (fun w h'=>w=.bool R/\Ext h h') h2:=by
  intro b O;refine ⟨?_,u⟩;cases b <;> cases R <;> simp_all
 repeat' (first
  | (refine af j (a,()) rfl ?_; refine ak ?_)
  | (refine af j (b,()) rfl ?_; refine ak ?_)
  | (refine af j (n,()) rfl ?_; refine ak ?_)
  | refine F _ ?_
  | refine ar (fun q=>?_) (fun q=>?_))
 all_goals (rw [d]; simp only [decide_eq_true_eq,decide_eq_false_iff_not,bne_iff_ne,ne_eq,bne_eq_false_iff_eq,Bool.false_eq_true,false_iff,true_iff] at *; omega)
def wj (n w:Int):Bool:=(decide (w=1) || decide (w=2) || decide (w=4)) && mH n w
def Er (n w:Int):Prop:=(w=1/\-128<=n/\n<=127)\/(w=2/\-32768<=n/\n<=32767)\/w=4
def Ik (n w:Int):wj n w=true↔Er n w:=by
 unfold wj mH Er
 by_cases h1:w=1
 ·subst h1; simp
 ·by_cases h2:w=2
  ·subst h2; simp
  ·by_cases h4:w=4
   ·subst h4; simp
   ·simp [h1,h2,h4]
def Ui (n w:Int):wj n w=false↔¬ Er n w:=by
 rw [<- Ik]
 simp
def bF {i:Ins} (h0:cC i.op≠0) (u:cJ (cC i.op) i.a i.b i.n=true) (P:Prop) (F:P↔((cC i.op=12\/cC i.op=13->Er i.n i.form)/\(cC i.op≠12/\cC i.op≠13->i.form=0)/\(cC i.op=8->-128<=i.n/\i.n<=127)/\(cC i.op=9->0<=i.n/\i.n<=255)/\(cC i.op=11->0<=i.n/\i.n<=4095) /\
  (cC i.op<7->i.n=0))):(P->gC i=0)/\(¬ P->gC i=13):=by
 obtain ⟨op,a,b,n,form⟩:=i;simp only at *;have hc:=ig op;have key:(!nq op && decide (form≠0) || !nR (cC op) n form)=true↔¬ P:=by
  rw [F];unfold nq nR mH Er
  have:cC op=1\/cC op=2\/cC op=3\/cC op=4\/cC op=5\/cC op=6\/cC op=7\/cC op=8\/cC op=9\/cC op=10\/cC op=11\/cC op=12\/cC op=13:=ad
  rcases this with h | h | h | h | h | h | h | h | h | h | h | h | h <;> rw [h]
  all_goals (
   by_cases f1:form=1
   ·subst f1; simp; try omega
   ·by_cases f2:form=2
    ·subst f2; simp; try omega
    ·by_cases f4:form=4
     ·subst f4; simp; try omega
     ·by_cases j:form=0
      ·subst j; simp; try omega
      ·simp [f1,f2,f4,j])
 unfold gC;simp only;rw [Yx h0,u,Yx aj];refine ⟨fun d=>?_,fun d=>?_⟩
 ·rw [Yx (fun e=>key.1 e d)]
 ·rw [YC (key.2 d)]
def KK (h:Hp) (op a b n form:Int) (O:Sm op):HC Tryz.prog 124 #[dm op a b n form] h fun w h'=>w=.int .i64 (gC ⟨op,a,b,n,form⟩)/\Ext h h':=by
 refine aY (args:=[dm op a b n form]) mixed Tryz.func124 az (nY op a b n form) ?_;unfold j9 aX ct;refine br ?_;intro h1 b1 e1 z1;refine af b1 (op,()) rfl (ak ?_);refine aI (ow h1 op O) ?_;rintro _ h2 ⟨rfl,e2⟩;refine ⟨(((cC op:Nat):Int),()),rfl,ak ?_⟩;have U:=b1.an e2 aj;have u:=e1.trans e2;refine ar (fun q=>?_) (fun q=>?_)
 ·have q:cC op=0:=FD q;exact ⟨by unfold gC; simp only; rw [YC q],u⟩
 have q:¬ cC op=0:=FP q;refine af U (op,a,b,n,form,()) rfl (ak ?_);refine gY (KJ h2 op a b n form O q) ?_;intro h3 V;have X:=U.an V aj;have d:=u.trans V;refine ar (fun r=>?_) (fun r=>?_)
 ·have r:cJ (cC op) a b n=false:=by simpa using r
  exact ⟨by unfold gC; simp only; rw [Yx q,r,YC rfl],d⟩
 have r:cJ (cC op) a b n=true:=by simpa using r
 have hc:=ig op;obtain ⟨G,j⟩:=bF (i:=⟨op,a,b,n,form⟩) q r _ Iff.rfl;simp only at G j;generalize gC ⟨op,a,b,n,form⟩=C at *;generalize cC op=s at *;clear r;have Y:((s=12\/s=13->Er n form)/\(s≠12/\s≠13->form=0)/\(s=8->-128<=n/\n<=127)/\(s=9->0<=n/\n<=255)/\(s=11->0<=n/\n<=4095)/\(s<7->n=0))->(T.ret (.int .i64 (0:Int))) [] (fun w h'=>w=.int .i64 C/\Ext h h') h3:=fun J=>⟨by rw [G J],d⟩
 have F:¬ ((s=12\/s=13->Er n form)/\(s≠12/\s≠13->form=0)/\(s=8->-128<=n/\n<=127)/\(s=9->0<=n/\n<=255)/\(s=11->0<=n/\n<=4095)/\(s<7->n=0))->(T.ret (.int .i64 (13:Int))) [] (fun w h'=>w=.int .i64 C/\Ext h h') h3:=fun J=>⟨by rw [j J],d⟩
 clear G j;simp only [aE]
 repeat' (first
  | (refine af X (n,()) rfl ?_; refine ak ?_)
  | (refine af X (form,()) rfl ?_; refine ak ?_)
  | refine Y ?_
  | refine F ?_
  | refine aQ (b:=wj n form) (Q1 h3 n form) ?_
  | refine ar (fun q=>?_) (fun q=>?_))
 all_goals (
  clear Y F;simp only [decide_eq_true_eq,decide_eq_false_iff_not,bne_iff_ne,ne_eq,bne_eq_false_iff_eq,beq_iff_eq,beq_eq_false_iff_ne,Bool.not_eq_true',Bool.not_eq_false',Ik,Ui,Er] at *;omega)
def oa (x:cB) (b1 d j u:Bool):Bool:=(!b1 || z1 x) && ((!d || z2 x) && ((!j || z3 x) && (!u || z4 x)))
def UJ (s:Xaa):(ByteArray.toList s==([]:List UInt8))=decide (s=dJ):=by
 have:=qM s dJ
 rw [show ByteArray.toList dJ=[] by rw [ByteArray.toList_eq]; rfl] at this;exact this
def Qa (n:Nat) (m:Nat) (i:Ins) (h:Hp) (K:Xab->Hp->Prop) (hk:K (.bool (decide (i=RU))) h) :
  aU Tryz.prog (Sx.kw (BinOp.eql) 65 (Operand.tmp n) (Operand.tmp m) (.agg #[.int .i64 i.op,.int .i64 i.a,.int .i64 i.b,.int .i32 i.n,.int .i64 i.form]) (.agg #[.int .i64 (0:Int),.int .i64 (0:Int),.int .i64 (0:Int),.int .i32 (0:Int),.int .i64 (0:Int)])) h K :=
 QJ _ _ i RU h K hk
def Qz {h:Hp} {x:cB} {p:Xac} {l c:Nat} (v:gW h p l x.e.ai) (b1 d j u:Bool) :
  HC Tryz.prog 122 #[vU p l c x,.bool b1,.bool d,.bool j,.bool u] h fun w h'=>w=.bool (oa x b1 d j u)/\Ext h h':=by
 refine aY (args:=[vU p l c x,.bool b1,.bool d,.bool j,.bool u]) mixed Tryz.func122 az (pQ x.kind x.name x.inst.op x.inst.a x.inst.b x.inst.n x.inst.form p l c x.e.num x.n b1 d j u) ?_;unfold kT eA aH bC dy;have hl:=v.len;have F:Pz x.e=(decide (l=0) && decide (x.e.num=0)):=by
  unfold Pz
  congr 1
  rw [hl]
  simp
 refine br ?_;intro h1 bx e1 G;have bx:bI h1 h.size 71 (encI p l c x):=bx;simp only [aE];unfold oa z1 z2 z3 z4;rw [F]
 repeat' (first
  | (refine af bx (x.n,()) rfl ?_; refine ak ?_)
  | (refine af bx (x.name,()) rfl ?_; refine ak ?_)
  | (refine af bx ((p,l,c),()) rfl ?_; refine ak ?_)
  | (refine af bx ((x.e.num:Int),()) rfl ?_; refine ak ?_)
  | (refine af bx (x.inst.op,x.inst.a,x.inst.b,x.inst.n,x.inst.form,()) rfl ?_; refine ak ?_)
  | refine Al (fun K' J=>Qa _ _ x.inst h1 K' J) ?_
  | refine ⟨YJ Value.bool ?_,e1⟩
  | refine ar (fun q=>?_) (fun q=>?_))
 all_goals (
  try simp only [UJ] at *
  simp_all [db])
 all_goals omega
def Si (g:Nat) (b1 U V X:Bool) (k:Bool->T):T :=
 T.ah ⟨g,0,none⟩ [.int .i64,.string,.int .i64,.int .i64,.int .i64,.int .i32,.int .i64,.slice 117,.int .u32,.int .i64] <| fun (Y:Int) (Z:Xaa) (n7:Int) (n8:Int) (n9:Int) (d:Int) (j:Int) (u:Xac) (F:Nat) (G:Nat) (J:Int) (O:Int) =>
  bJ 122 [.agg #[.int .i64 Y,.string Z,.int .i64 n7,.int .i64 n8,.int .i64 n9,.int .i32 d,.int .i64 j,.slice u F G,aH J,.int .i64 O],.bool b1,.bool U,.bool V,.bool X] false [bR] k
def gT {L:Lp} {K:Xab->Hp->Prop} {h:Hp} {g:Nat} {x:cB} {p:Xac} {l c:Nat} {b1 d j u:Bool} {k:Bool->T} (bx:bI h g 71 (encI p l c x)) (v:gW h p l x.e.ai) (hk:∀ h',Ext h h'->k (oa x b1 d j u) L K h'):Si g b1 d j u k L K h:=by
 unfold Si bJ aH bR;refine af bx (x.kind,x.name,x.inst.op,x.inst.a,x.inst.b,x.inst.n,x.inst.form,(p,l,c),(x.e.num:Int),x.n,()) rfl (ak ?_);exact gY (Qz v b1 d j u) hk
def CE (h:Hp) (n:Int):wz Tryz.prog 126 [.int .i64 n] h (.bool (uF n)):=by
 refine ei mixed Tryz.func126 az (oW n) ?_;unfold j8 bm bC dy aP bR;refine aS (cs:=[(false,[.bool]),(false,[.int .i64])]) (fun y m h'=>∃ k:Nat,y=(false,((2^k:Nat):Int),())/\m=9-k/\k<=9/\h'=h/\(∀ j,j<k->¬ n=((2^j:Nat):Int))) (false,(1:Int),()) 9 rfl
  ⟨0,rfl,rfl,ad,rfl,fun j d=>ad⟩ ?_
 rintro ⟨b1,n2,⟨⟩⟩ m h1 ⟨k,J,hm,hk,rfl,d⟩;cases J;refine ak ?_;refine aM (fun q=>?_) (fun q=>?_)
 ·have u:k<=8:=by
   by_cases g:k=9
   ·subst g;exact absurd q cm
   ·omega
  refine ar (fun r=>?_) (fun r=>?_)
  ·have r:n=((2^k:Nat):Int):=by simpa using r
   refine ⟨?_,rfl⟩
   have:k=0\/k=1\/k=2\/k=3\/k=4\/k=5\/k=6\/k=7\/k=8:=ad
   rcases this with rfl | rfl | rfl | rfl | rfl | rfl | rfl | rfl | rfl <;> (rw [r]; rfl)
  ·have r:¬ n=((2^k:Nat):Int):=by simpa using r
   have G:2^k<=2^8:=Nat.pow_le_pow_right ad u;have O:((2^k:Nat):Int)<=256:=by exact_mod_cast G
   have U:(0:Int)<=((2^k:Nat):Int):=Int.natCast_nonneg _;rw [wrap_i64 ad ad];have h2:(2:Int)*((2^k:Nat):Int)=((2^(k+1):Nat):Int):=by rw [Nat.pow_succ]; omega
   rw [h2];refine aG (cs:=[(false,[.bool]),(false,[.int .i64])]) (false,((2^(k+1):Nat):Int),()) (9-(k+1)) rfl ad rfl ⟨k+1,rfl,rfl,ad,rfl,fun j V=>?_⟩
   by_cases g:j=k
   ·subst g; exact r
   ·exact d j ad
 ·have F:k=9:=by
   by_cases g:k=9
   ·exact g
   ·have G:2^k<=2^8:=Nat.pow_le_pow_right ad ad;omega
  subst F;refine ⟨?_,rfl⟩;have a0:=d 0 ad;have X:=d 1 ad;have a2:=d 2 ad;have a3:=d 3 ad;have a4:=d 4 ad;have a5:=d 5 ad;have Y:=d 6 ad;have Z:=d 7 ad;have a8:=d 8 ad;unfold uF;simp only [Nat.reducePow] at a0 X a2 a3 a4 a5 Y Z a8;rw [YB ad,YB ad,YB ad,YB ad,YB ad,YB ad,YB ad,YB ad,YB ad] <;> rfl
def LK {h:Hp} {x:cB} {p:Xac} {l c:Nat} (v:js h p l x):HC Tryz.prog 96 #[vU p l c x,.int .i64 (0:Int)] h fun w h'=>w=DO (cD x 0)/\Ext h h':=by
 refine aY (args:=[vU p l c x,.int .i64 (0:Int)]) mixed Tryz.func96 az (mC x.kind x.name x.inst.op x.inst.a x.inst.b x.inst.n x.inst.form p l c x.e.num x.n) ?_;unfold ij aX ct aH bR;have hml:maxLen=9223372036854775807:=rfl;refine br ?_;intro h1 b1 e1 z1';have b1:bI h1 h.size 71 (encI p l c x):=b1;have v1:=v.an e1;simp only [aE];refine fJ (cs:=[(false,[.bool])]) (fun y h'=>y.1=cD x 0/\Ext h h') ?_ ?_
 rotate_left
 ·rintro ⟨b2,⟨⟩⟩ h' ⟨hy,e'⟩;simp only at hy;subst hy;refine ak ?_;cases hr:cD x 0
  ·exact ⟨rfl,e'⟩
  ·exact ⟨rfl,e'⟩
 have d:∀ (b:Bool) (h':Hp),b=cD x 0->Ext h h'->T.again 0 [.bool b] [fun vs h'=>∃ y:qK (flat [(false,[.bool])]),vs=parts [(false,[.bool])] (ec _ y)/\(y.1=cD x 0/\Ext h h')] (fun w h'=>w=DO (cD x 0)/\Ext h h') h':=by
  rintro b h' rfl e';exact cT (cs:=[(false,[.bool])]) (J:=fun y h'=>y.1=cD x 0/\Ext h h') (cD x 0,()) rfl rfl ⟨rfl,e'⟩
 refine af b1 (x.kind,()) rfl (ak ?_)
 by_cases F:x.kind=1
 ·refine bk (by rw [F]; rfl) ?_;have hit:cD x 0=(cX x.name.data.toList && z2 x && z3 x && z4 x):=by unfold cD; rw [YC F]
  refine af b1 (x.name,()) rfl (ak ?_);refine aQ (sG x.name h1 (by have:=v.name; omega)) ?_;refine ar (fun q=>?_) (fun q=>d _ _ (by rw [hit,q]; rfl) e1);refine gT b1 v1.lin.vw ?_;intro h2 e2;exact d _ _ (by rw [hit,q]; unfold oa; simp [Bool.and_assoc]) (e1.trans e2)
 refine bG (by simpa using F) ?_
 by_cases U:x.kind=2
 ·refine bk (by rw [U]; rfl) ?_;have hit:cD x 0=(yC x.inst x.e && z1 x && z4 x):=by unfold cD; rw [Yx F,YC U]; simp
  refine af b1 (x.inst.op,x.inst.a,x.inst.b,x.inst.n,x.inst.form,()) rfl (ak ?_);refine br ?_;intro h2 b2 e2 z2';refine aw b2 rfl aj ?_;intro h3 b3 O z3';have b3:bI h3 h1.size 65 (oN x.inst):=b3;have V:Ext h1 h3:=e2.st O (YI _);have b13:=b1.an V aj;rw [aE];refine af b3 (x.inst.form,()) rfl (ak ?_);refine fJ (cs:=[]) (fun _ h'=>bI h' h1.size 65 (oN { x.inst with form:=if nq x.inst.op then 1 else x.inst.form })/\Ext h1 h') ?_ ?_
  ·refine af b3 (x.inst.op,()) rfl (ak ?_);refine gY (Cz h3 x.inst.op v.op) ?_;intro h4 e4;have b4:=b3.an e4 aj;refine ar (fun q=>?_) (fun q=>?_)
   ·refine aw b4 rfl (by simp [oN]) ?_;intro h5 b5 Y z5;exact cT (cs:=[]) () rfl rfl ⟨by rw [YC q]; exact b5,(V.trans e4).st Y (by have:=V.size; omega)⟩
   ·exact cT (cs:=[]) () rfl rfl ⟨by rw [Yx (by rw [q]; decide)]; exact b4,V.trans e4⟩
  rintro _ h5 ⟨b5,e5⟩;refine ak ?_;have b15:=b1.an e5 aj;have v5:=v1.an e5;refine fJ (cs:=[(false,[.bool])]) (fun y h'=>y.1=(decide (x.inst.form=0) && decide (gC { x.inst with form:=if nq x.inst.op then 1 else x.inst.form }=0) && (z1 x && z4 x))/\Ext h5 h') ?_ ?_
  ·refine ar (fun q=>?_) (fun q=>?_)
   ·have q:x.inst.form=0:=by simpa using q
    refine af b5 (x.inst.op,x.inst.a,x.inst.b,x.inst.n,((if nq x.inst.op then (1:Int) else x.inst.form):Int),()) rfl (ak ?_);refine aI (KK h5 x.inst.op x.inst.a x.inst.b x.inst.n (if nq x.inst.op then 1 else x.inst.form) v.op) ?_;rintro _ h6 ⟨rfl,X⟩;refine ⟨(gC { x.inst with form:=if nq x.inst.op then 1 else x.inst.form },()),rfl,ak ?_⟩;refine ar (fun r=>?_) (fun r=>?_)
    ·have r:gC { x.inst with form:=if nq x.inst.op then 1 else x.inst.form }=0:=by simpa using r
     refine gT (b15.an X aj) (v5.an X).lin.vw ?_;intro h7 e7;exact cT (cs:=[(false,[.bool])]) (oa x true false false true,()) rfl rfl ⟨by rw [YA q,YA r]; rfl,X.trans e7⟩
    ·have r:¬ gC { x.inst with form:=if nq x.inst.op then 1 else x.inst.form }=0:=by simpa using r
     exact cT (cs:=[(false,[.bool])]) (false,()) rfl rfl ⟨by rw [YA q,YB r]; rfl,X⟩
   ·have q:¬ x.inst.form=0:=by simpa using q
    exact cT (cs:=[(false,[.bool])]) (false,()) rfl rfl ⟨by rw [YB q]; rfl,Ch.refl _ _⟩
  rintro ⟨b10,⟨⟩⟩ h6 ⟨hy,X⟩;simp only at hy;subst hy;refine ak ?_;have b6:=b5.an X aj;have b16:=b15.an X aj;have v6:=v5.an X;refine af b6 (x.inst.op,()) rfl (ak ?_);refine gY (Jx h6 x.inst.op v.op) ?_;intro h7 e7;have b7:=b6.an e7 aj;have b17:=b16.an e7 aj;have v7:=v6.an e7;have u:=((e1.trans e5).trans X).trans e7;have j:Gp x.inst.op=true->(decide (x.inst.form=0) && decide (gC { x.inst with form:=if nq x.inst.op then 1 else x.inst.form }=0) && (z1 x && z4 x) && (decide (x.inst.n=0) && nV none x.e.ai))=cD x 0:=by
   intro hw;rw [hit];unfold yC;rw [YC hw]
   by_cases f0:x.inst.form=0
   ·rw [YA f0,f0]
    by_cases c0:gC { x.inst with form:=if nq x.inst.op then 1 else 0 }=0
    ·have hs:=(Ew c0).1;simp only at hs;rw [YA c0,YA hs];simp only [Bool.true_and]
     ac_rfl
    ·rw [YB c0]
     simp
   ·rw [YB f0]
    simp
  have Z:Gp x.inst.op=false->(decide (x.inst.form=0) && decide (gC { x.inst with form:=if nq x.inst.op then 1 else x.inst.form }=0) && (z1 x && z4 x) && z3 x)=cD x 0:=by
   intro hw;rw [hit];unfold yC;rw [Yx (show ¬ (Gp x.inst.op=true) by rw [hw]; decide)];have hsp:nq x.inst.op=false:=by
    unfold Gp at hw;unfold nq;rw [decide_eq_false_iff_not] at hw ⊢;omega
   rw [Yx (show ¬ (nq x.inst.op=true) by rw [hsp]; decide)]
   by_cases f0:x.inst.form=0
   ·rw [YA f0];have hi:({ x.inst with form:=x.inst.form }:Ins)=x.inst:=rfl;rw [hi]
    by_cases c0:gC x.inst=0
    ·have hs:=(Ew c0).1;rw [YA c0,YA hs];unfold z3;simp only [Bool.true_and]
     ac_rfl
    ·rw [YB c0]
     simp
   ·rw [YB f0]
    simp
  generalize (decide (x.inst.form=0) && decide (gC { x.inst with form:=if nq x.inst.op then 1 else x.inst.form }=0) && (z1 x && z4 x))=G at *;refine ar (fun hw=>?_) (fun hw=>?_)
  ·have j:=j hw;refine ar (fun g=>?_) (fun g=>d _ _ (by rw [<- j,g]; rfl) u);refine af b7 (x.inst.n,()) rfl (ak ?_);refine ar (fun r=>?_) (fun r=>?_)
   ·have r:x.inst.n=0:=by simpa using r
    refine af b17 ((p,l,c),(x.e.num:Int),()) rfl (ak ?_);refine aI (tV (c:=c) v7.lin.vw (by have:=v.lin.many; omega) v.lin.names) ?_;rintro _ h8 ⟨rfl,e8⟩;refine ⟨(nV none x.e.ai,()),rfl,?_⟩;exact d _ _ (by rw [<- j,g,YA r]; simp) (u.trans e8)
   ·have r:¬ x.inst.n=0:=by simpa using r
    exact d _ _ (by rw [<- j,YB r]; simp) u
  ·have j:=Z hw;refine ar (fun g=>?_) (fun g=>d _ _ (by rw [<- j,g]; rfl) u);refine gT b17 v7.lin.vw ?_;intro h8 e8;exact d _ _ (by rw [<- j,g]; unfold oa; simp) (u.trans e8)
 refine bG (by simpa using U) ?_
 by_cases O:x.kind=3
 ·refine bk (by rw [O]; rfl) ?_;have hit:cD x 0=(uF x.n && z1 x && z2 x && z3 x):=by unfold cD; rw [Yx F,Yx U,YC O]
  refine af b1 (x.n,()) rfl (ak ?_);refine aQ (CE h1 x.n) ?_;refine ar (fun q=>?_) (fun q=>d _ _ (by rw [hit,q]; rfl) e1);refine gT b1 v1.lin.vw ?_;intro h2 e2;exact d _ _ (by rw [hit,q]; unfold oa; simp [Bool.and_assoc]) (e1.trans e2)
 refine bG (by simpa using O) ?_
 by_cases k4:x.kind=4
 ·refine bk (by rw [k4]; rfl) ?_;have hit:cD x 0=(z1 x && z2 x && z3 x && z4 x):=by unfold cD; rw [Yx F,Yx U,Yx O,YC k4]; simp
  refine gT b1 v1.lin.vw ?_;intro h2 e2;exact d _ _ (by rw [hit]; unfold oa; simp [Bool.and_assoc]) (e1.trans e2)
 refine bG (by simpa using k4) ?_
 by_cases Y:x.kind=5
 ·refine bk (by rw [Y]; rfl) ?_;exact d _ _ (by unfold cD; rw [Yx F,Yx U,Yx O,Yx k4,YC Y]; simp) e1
 refine bG (by simpa using Y) ?_
 by_cases k6:x.kind=6
 ·refine bk (by rw [k6]; rfl) ?_;exact d _ _ (by unfold cD; rw [Yx F,Yx U,Yx O,Yx k4,Yx Y,YC k6]; simp) e1
 refine bG (by simpa using k6) ?_
 by_cases k7:x.kind=7
 ·refine bk (by rw [k7]; rfl) ?_;exact d _ _ (by unfold cD; rw [Yx F,Yx U,Yx O,Yx k4,Yx Y,Yx k6,YC k7]; simp) e1
 refine bG (by simpa using k7) ?_;exact d _ _ (by unfold cD; rw [Yx F,Yx U,Yx O,Yx k4,Yx Y,Yx k6,Yx k7]) e1
def N4 {h:Hp} {x:cB} {p:Xac} {l c:Nat} (v:js h p l x):HC Tryz.prog 96 #[vU p l c x,.int .i64 (1:Int)] h fun w h'=>w=DO (cD x 1)/\Ext h h':=by
 refine aY (args:=[vU p l c x,.int .i64 (1:Int)]) mixed Tryz.func96 az (lI x.kind x.name x.inst.op x.inst.a x.inst.b x.inst.n x.inst.form p l c x.e.num x.n) ?_;unfold ik aX aH bR;have hml:maxLen=9223372036854775807:=rfl;refine br ?_;intro h1 b1 e1 z1';have b1:bI h1 h.size 71 (encI p l c x):=b1;have U:=v.an e1;simp only [aE];refine fJ (cs:=[(false,[.bool])]) (fun y h'=>y.1=cD x 1/\Ext h h') ?_ ?_
 rotate_left
 ·rintro ⟨b2,⟨⟩⟩ h' ⟨X,e'⟩;simp only at X;subst X;refine ak ?_;cases hr:cD x 1
  ·exact ⟨rfl,e'⟩
  ·exact ⟨rfl,e'⟩
 have d:∀ (b:Bool) (h':Hp),b=cD x 1->Ext h h'->T.again 0 [.bool b] [fun vs h'=>∃ y:qK (flat [(false,[.bool])]),vs=parts [(false,[.bool])] (ec _ y)/\(y.1=cD x 1/\Ext h h')] (fun w h'=>w=DO (cD x 1)/\Ext h h') h':=by
  rintro b h' rfl e';exact cT (cs:=[(false,[.bool])]) (J:=fun y h'=>y.1=cD x 1/\Ext h h') (cD x 1,()) rfl rfl ⟨rfl,e'⟩
 refine af b1 (x.kind,()) rfl (ak ?_)
 by_cases j:x.kind=1
 ·refine bk (by rw [j]; rfl) ?_;have hit:cD x 1=(cX x.name.data.toList && z2 x && z3 x && z4 x):=by unfold cD; rw [YC j]
  refine af b1 (x.name,()) rfl (ak ?_);refine aQ (sG x.name h1 (by have:=v.name; omega)) ?_;refine ar (fun q=>?_) (fun q=>d _ _ (by rw [hit,q]; rfl) e1);refine gT b1 U.lin.vw ?_;intro h2 e2;exact d _ _ (by rw [hit,q]; unfold oa; simp [Bool.and_assoc]) (e1.trans e2)
 refine bG (by simpa using j) ?_
 by_cases F:x.kind=2
 ·refine bk (by rw [F]; rfl) ?_;have hit:cD x 1=(false):=by unfold cD; rw [Yx j,YC F]; simp
  refine af b1 (x.inst.op,x.inst.a,x.inst.b,x.inst.n,x.inst.form,()) rfl (ak ?_);refine br ?_;intro h2 b2 e2 z2';refine aw b2 rfl aj ?_;intro h3 Y u z3';have Y:bI h3 h1.size 65 (oN x.inst):=Y;have G:Ext h1 h3:=e2.st u (YI _);have b13:=b1.an G aj;rw [aE];refine af Y (x.inst.form,()) rfl (ak ?_);refine fJ (cs:=[]) (fun _ h'=>bI h' h1.size 65 (oN { x.inst with form:=if nq x.inst.op then 1 else x.inst.form })/\Ext h1 h') ?_ ?_
  ·refine af Y (x.inst.op,()) rfl (ak ?_);refine gY (Cz h3 x.inst.op v.op) ?_;intro h4 e4;have b4:=Y.an e4 aj;refine ar (fun q=>?_) (fun q=>?_)
   ·refine aw b4 rfl (by simp [oN]) ?_;intro h5 b5 O z5;exact cT (cs:=[]) () rfl rfl ⟨by rw [YC q]; exact b5,(G.trans e4).st O (by have:=G.size; omega)⟩
   ·exact cT (cs:=[]) () rfl rfl ⟨by rw [Yx (by rw [q]; decide)]; exact b4,G.trans e4⟩
  rintro _ h5 ⟨b5,e5⟩;refine ak ?_;have b15:=b1.an e5 aj;have v5:=U.an e5;refine fJ (cs:=[(false,[.bool])]) (fun y h'=>y.1=false/\Ext h5 h') (cT (cs:=[(false,[.bool])]) (false,()) rfl rfl ⟨rfl,Ch.refl _ _⟩) ?_;rintro ⟨b10,⟨⟩⟩ h6 ⟨X,e6⟩;simp only at X;subst X;refine ak ?_;have b6:=b5.an e6 aj;have b16:=b15.an e6 aj;have v6:=v5.an e6;refine af b6 (x.inst.op,()) rfl (ak ?_);refine gY (Jx h6 x.inst.op v.op) ?_;intro h7 e7;have b7:=b6.an e7 aj;have b17:=b16.an e7 aj;have v7:=v6.an e7;have Z:=((e1.trans e5).trans e6).trans e7;refine ar (fun hw=>?_) (fun hw=>?_)
  ·exact bG rfl (d _ _ (by rw [hit]) Z)
  ·exact bG rfl (d _ _ (by rw [hit]) Z)
 refine bG (by simpa using F) ?_
 by_cases u:x.kind=3
 ·refine bk (by rw [u]; rfl) ?_;have hit:cD x 1=(uF x.n && z1 x && z2 x && z3 x):=by unfold cD; rw [Yx j,Yx F,YC u]
  refine af b1 (x.n,()) rfl (ak ?_);refine aQ (CE h1 x.n) ?_;refine ar (fun q=>?_) (fun q=>d _ _ (by rw [hit,q]; rfl) e1);refine gT b1 U.lin.vw ?_;intro h2 e2;exact d _ _ (by rw [hit,q]; unfold oa; simp [Bool.and_assoc]) (e1.trans e2)
 refine bG (by simpa using u) ?_
 by_cases V:x.kind=4
 ·refine bk (by rw [V]; rfl) ?_;exact d _ _ (by unfold cD; rw [Yx j,Yx F,Yx u,YC V]; simp) e1
 refine bG (by simpa using V) ?_
 by_cases O:x.kind=5
 ·refine bk (by rw [O]; rfl) ?_;have hit:cD x 1=(decide (-128<=x.n) && decide (x.n<=255) && z1 x && z2 x && z3 x):=by unfold cD; rw [Yx j,Yx F,Yx u,Yx V,YC O]; simp
  refine af b1 (x.n,()) rfl (ak ?_);refine ar (fun q=>?_) (fun q=>d _ _ (by rw [hit,show decide (-128<=x.n)=false from q]; rfl) e1);refine af b1 (x.n,()) rfl (ak ?_);refine ar (fun r=>?_) (fun r=>d _ _ (by rw [hit,r]; simp) e1);refine gT b1 U.lin.vw ?_;intro h2 e2;exact d _ _ (by rw [hit,r,show decide (-128<=x.n)=true from q]; unfold oa; simp [Bool.and_assoc]) (e1.trans e2)
 refine bG (by simpa using O) ?_
 by_cases k6:x.kind=6
 ·refine bk (by rw [k6]; rfl) ?_;have hit:cD x 1=(nV none x.e.ai && z1 x && z2 x && z4 x):=by unfold cD; rw [Yx j,Yx F,Yx u,Yx V,Yx O,YC k6]; simp
  refine af b1 ((p,l,c),(x.e.num:Int),()) rfl (ak ?_);refine aI (tV (c:=c) U.lin.vw (by have:=v.lin.many; omega) v.lin.names) ?_;rintro _ h2 ⟨rfl,e2⟩;refine ⟨(nV none x.e.ai,()),rfl,ak ?_⟩;refine ar (fun q=>?_) (fun q=>d _ _ (by rw [hit,q]; rfl) (e1.trans e2));refine gT (b1.an e2 aj) (U.an e2).lin.vw ?_;intro h3 e3;exact d _ _ (by rw [hit,q]; unfold oa; simp [Bool.and_assoc]) ((e1.trans e2).trans e3)
 refine bG (by simpa using k6) ?_
 by_cases k7:x.kind=7
 ·refine bk (by rw [k7]; rfl) ?_;have hit:cD x 1=(decide (0<=x.n) && decide (x.n<=1048576) && z1 x && z2 x && z3 x):=by unfold cD; rw [Yx j,Yx F,Yx u,Yx V,Yx O,Yx k6,YC k7]; simp
  refine af b1 (x.n,()) rfl (ak ?_);refine ar (fun q=>?_) (fun q=>d _ _ (by rw [hit,show decide (0<=x.n)=false from q]; rfl) e1);refine af b1 (x.n,()) rfl (ak ?_);refine ar (fun r=>?_) (fun r=>d _ _ (by rw [hit,r]; simp) e1);refine gT b1 U.lin.vw ?_;intro h2 e2;exact d _ _ (by rw [hit,r,show decide (0<=x.n)=true from q]; unfold oa; simp [Bool.and_assoc]) (e1.trans e2)
 refine bG (by simpa using k7) ?_;exact d _ _ (by unfold cD; rw [Yx j,Yx F,Yx u,Yx V,Yx O,Yx k6,Yx k7]) e1
def Co {h:Hp} {x:cB} {p:Xac} {l c k:Nat} (v:js h p l x) (hk:k<2):HC Tryz.prog 96 #[vU p l c x,.int .i64 (k:Int)] h fun w h'=>w=DO (cD x k)/\Ext h h':=by
 have:k=0\/k=1:=ad
 rcases this with rfl | rfl
 ·exact LK v
 ·exact N4 v
def VH (s:Xaa):List Xab:=[.string s]
abbrev SN (h:Hp) (b:Nat) (p:Xac) (l c:Nat) (xs:List Xaa):Prop:=SL h b 9 1 p l c (xs.map VH)
def SN.len {h:Hp} {b:Nat} {p:Xac} {l c:Nat} {xs:List Xaa} (s:SN h b p l c xs):l=xs.length:=by
 have:=s.1
 rwa [Yu] at this
def SN.cell {h:Hp} {b:Nat} {p:Xac} {l c:Nat} {xs:List Xaa} (s:SN h b p l c xs) {i:Nat} (hi:i<xs.length):∃ a,p=some a/\aJ h (a.add (i*1)) 0 [.string xs[i]]:=by
 obtain ⟨a,d,hc⟩:=SL.cells s (i:=i) (by rw [Yu]; exact hi);refine ⟨a,d,?_⟩;rw [YE] at hc;exact hc
def WE (D:List Xaa) (s:Xaa) (i:Nat) (hi:i<D.length):gd (D.take (i+1)) s=(gd (D.take i) s || decide (D[i]=s)):=by
 unfold gd;rw [Yw hi,bc9]
 simp
def Df {h:Hp} {b:Nat} {p:Xac} {l c:Nat} {xs:List Xaa} (v:SN h b p l c xs) (hl:xs.length<=2^61) (s:Xaa):wz Tryz.prog 57 [.slice p l c,.string s] h (.bool (gd xs s)):=by
 refine ei mixed Tryz.func57 az (jm p l c s) ?_;unfold gZ bf bg bz aK bC dy aP bR;have n:=SN.len v;refine aS (cs:=[(false,[.bool]),(false,[.int .i64])]) (fun y m h'=>∃ i:Nat,y.2.1=(i:Int)/\m=xs.length-i/\i<=xs.length/\h'=h/\gd (xs.take i) s=false) (false,(0:Int),()) xs.length rfl
  ⟨0,rfl,rfl,ad,rfl,rfl⟩ ?_
 rintro ⟨j,G,⟨⟩⟩ m h' ⟨i,hi,rfl,u,rfl,hn⟩;simp only at hi;subst hi;refine ak ?_;refine aM (fun q=>?_) (fun q=>?_)
 ·have d:i<xs.length:=ad
  obtain ⟨a,F,hc⟩:=SN.cell v d;refine ax ⟨ad,ad⟩ (av F ?_);rw [show Int.toNat (i:Int)=i from ad];refine ay (xs[i],()) hc (ak ?_);have hs:=WE xs s i d;rw [qM];refine ar (fun r=>?_) (fun r=>?_)
  ·have r:=Yz r;refine ⟨YJ Value.bool ?_,rfl⟩;unfold gd;exact (ZL.2 ⟨_,YD d,YA r⟩).symm
  ·rw [hn,r] at hs;refine aG (cs:=[(false,[.bool]),(false,[.int .i64])]) (j,((i+1:Nat):Int),()) (xs.length-(i+1)) rfl ad (by rw [wrap_i64 ad ad]; rfl) ?_;exact ⟨i+1,rfl,rfl,ad,rfl,hs⟩
 ·have:i=xs.length:=ad
  subst this;rw [Y4] at hn;exact ⟨by rw [hn],rfl⟩
def ef (l:List cB):List Xaa:=(l.filter fun x=>decide (x.kind=1)).map (·.name)
def wO (l:List cB) (i:Nat) (hi:i<l.length):ef (l.take (i+1))=ef (l.take i)++if l[i].kind=1 then [l[i].name] else []:=by
 unfold ef;rw [Yw hi,List.filter_append,YH]
 congr 1
 by_cases hk:l[i].kind=1 <;> simp [hk]
def SN.push {L:Lp} {K:Xab->Hp->Prop} {h:Hp} {b:Nat} {p:Xac} {l c:Nat} {xs:List Xaa} (v:SN h b p l c xs) (x:Xaa) (hl:xs.length<=2^40) (d:b<=h.size) {k:Xac->Nat->Nat->T}
  (hk:∀ p' c' h',SN h' b p' (l+1) c' (xs++[x])->Ch (aR p) h h'->k p' (l+1) c' L K h') :
  T.ek Tryz.prog (Instr.buildSlice 45 1 #[(0,.string x)]) false [(false,[.slice 0])] (fun q m cc=>T.ek Tryz.prog (Builtin.append_ #[45,45] 45 #[.slice p l c,.slice q m cc]) false [(false,[.slice 0])] k) L K h:=by
 have n:=SN.len v;refine mV (vs:=[.string x]) Im VA rfl ad ad az rfl rfl v d ad ad ?_;intro p' c' h' s' ch _;refine hk p' c' h' ?_ ch;unfold SN;rw [YH];exact s'
def SN.ext {h a b':Hp} {b:Nat} {p:Xac} {l c:Nat} {xs:List Xaa} (e:Ext h a) (v:SN a b p l c xs) (d:h.size<=b) (k:Ch (aR p) a b'):Ext h b' :=
 Ch.trans e k (fun i hi hl=>by have:=(Ob.SL.cv v i hi).1; omega)
def sO {h:Hp} {p:Xac} {l c:Nat} {us:List cB} (v:Bx h p l us) (hm:us.length<=2^20) :
  HC Tryz.prog 127 #[.slice p l c] h fun w h'=>∃ p' l' c',w=.slice p' l' c'/\SN h' h.size p' l' c' (ef us)/\Ext h h':=by
 refine aY (args:=[.slice p l c]) mixed Tryz.func127 az (nB p l c) ?_;unfold jr bf bg bz aK bt bq aP dl;have n:=v.len;refine aS (cs:=[(false,[.slice 0]),(false,[.int .i64])]) (fun y m h'=>∃ i:Nat,y.2.1=(i:Int)/\m=us.length-i/\i<=us.length/\Ext h h'/\(ef (us.take i)).length<=i/\SN h' h.size y.1.1 y.1.2.1 y.1.2.2 (ef (us.take i))) ((none,0,0),(0:Int),()) us.length rfl
  ⟨0,rfl,rfl,ad,Ch.refl _ _,by simp [ef],SL.nil _ _ _ _⟩ ?_
 rintro ⟨⟨p1,u,F⟩,X,⟨⟩⟩ m h1 ⟨i,hi,rfl,G,e1,J,s⟩;simp only at hi s;subst hi;refine ak ?_;have Y:=e1.size;refine aM (fun q=>?_) (fun q=>?_)
 ·have j:i<us.length:=ad
  obtain ⟨aa,pp,Z,cc,rfl',hc,O⟩:=(v.an e1).cells i j;have d:=wO us i j;generalize us[i]=x at hc O d;refine ax ⟨ad,ad⟩ (av rfl' ?_);rw [show Int.toNat (i:Int)=i from ad];refine ay (x.kind,()) ⟨hc.1,trivial⟩ (ak ?_);refine ar (fun r=>?_) (fun r=>?_)
  ·have r:x.kind=1:=by simpa using r
   rw [YC r] at d;refine ax ⟨ad,ad⟩ (av rfl' ?_);refine ay (x.name,()) ⟨by rw [add_add]; exact hc.2.1,trivial⟩ ?_;refine ak ?_;refine SN.push s x.name ad ad ?_;intro p' c' h2 U V;refine aG (cs:=[(false,[.slice 0]),(false,[.int .i64])]) ((p',u+1,c'),((i+1:Nat):Int),()) (us.length-(i+1)) rfl ad (by rw [wrap_i64 ad ad]; rfl) ?_;exact ⟨i+1,rfl,rfl,ad,SN.ext e1 s (YI _) V,by rw [d,Yy]; simp; omega,by rw [d]; exact U⟩
  ·have r:¬ x.kind=1:=by simpa using r
   rw [Yx r,Zs] at d;refine aG (cs:=[(false,[.slice 0]),(false,[.int .i64])]) ((p1,u,F),((i+1:Nat):Int),()) (us.length-(i+1)) rfl ad (by rw [wrap_i64 ad ad]; rfl) ?_;exact ⟨i+1,rfl,rfl,ad,e1,by rw [d]; omega,by rw [d]; exact s⟩
 ·have:i=us.length:=ad
  subst this;rw [Y4] at s;exact ⟨p1,u,F,rfl,s,e1⟩
def Q3 {L:Lp} {K:Xab->Hp->Prop} {h:Hp} {k:Xac->Nat->Nat->T} {b b':Nat} {p:Xac} {l c:Nat} {xs:List Xaa} (s:SN h b p l c xs) {q:Xac} {m d:Nat} {us:List Xaa} (v:SN h b' q m d us)
  (hl:l+m<=2^40) (hb:b<=h.size)
  (hk:∀ p' c' h',SN h' b p' (l+m) c' (xs++us)->Ch (aR p) h h'->k p' (l+m) c' L K h') :
  T.ek Tryz.prog (Builtin.append_ #[45,45] 45 #[.slice p l c,.slice q m d]) false [(false,[.slice 0])] k L K h:=by
 obtain ⟨i,hi,hz,j,J⟩:=nu VA;refine du ?_;cases q with
 | none =>
  have h1:us=[]:=by
   have:=v.2.2.2
   simpa using this
  have h0:m=0:=by have:=SN.len v; rw [h1] at this; exact this
  have hd:d=0:=v.2.2.1;subst h0 h1 hd;have O:l<=c:=by
   cases p with
   | none =>
    have h2:=s.2.2.2;have h3:=s.1;rw [h2] at h3;simp at h3;omega
   | some a =>
    obtain ⟨g,U,rest,rfl,V,F,_⟩:=s.2.2;exact F.1
  simp [Builtin.append_,ao,aF Im,bT hi,cE hi,Builtin.lenOf,Builtin.firstCells,O];have u:∃ p' l' c',Value.slice p l c=.slice p' l' c'/\k p' l' c' L K h:=⟨p,l,c,rfl,by simpa using hk p c h (by simpa using s) (Ch.refl _ _)⟩
  cases p with
  | none=>exact u
  | some a=>exact u
 | some a =>
  have hc:aJ h a 0 (us.map VH).flatten:=by
   obtain ⟨g,U,rest,rfl,V,F,G,hr⟩:=v.2.2;refine G.cells _ ?_;rw [ai9,au9]
  have X:(us.map VH).flatten.all cU=true:=by
   rw [Y1];intro x hx;obtain ⟨y,Y,Z⟩:=av9.1 hx;obtain ⟨z,_,rfl⟩:=YF.1 Y;rw [YP.1 Z] <;> rfl
  refine oR Im hi hz (by rw [j]; rfl) (by rw [j]; exact s) (ys:=us.map VH) (by rw [Yu]; exact SN.len v) (fun y Y=>?_) hc X (by rw [J]; omega) ad hb ?_
  ·obtain ⟨t,_,rfl⟩:=YF.1 Y;rw [j] <;> rfl
  ·intro p' c' h' s' k' hp';rw [j,<- YH] at s';exact ⟨_,_,_,rfl,hk p' c' h' s' k'⟩
def fy (u:cd):List Xaa:=ef u.text++ef u.data++u.bh.map (·.1)
def uY (l:List cB):(ef l).length<=l.length:=by
 unfold ef;rw [Yu];exact ZP _ _
def Nz {h:Hp} {a b c d:cr} {u:cd} (v:tO h a b c d u) (h1:u.text.length<=2^20) (h2:u.data.length<=2^20) (h3:u.bh.length<=2^20) :
  HC Tryz.prog 98 #[ED a b c d] h fun w h'=>∃ p' l' c',w=.slice p' l' c'/\SN h' h.size p' l' c' (fy u)/\Ext h h':=by
 refine aY (args:=[ED a b c d]) mixed Tryz.func98 az (qE a.p a.l a.c b.p b.l b.c c.p c.l c.c d.p d.l d.c) ?_;unfold lL bf bg bz aK bJ bt aP dl;refine br ?_;intro g1 b1 e1 z1;have b1:bI g1 h.size 47 [a.v,b.v,c.v,d.v]:=b1;simp only [aE];refine af b1 ((a.p,a.l,a.c),()) rfl (ak ?_);refine af b1 ((b.p,b.l,b.c),()) rfl (ak ?_);refine aI (sO (c:=a.c) (v.text.an e1) h1) ?_;rintro _ g2 ⟨p8,U,l10,rfl,s8,e2⟩;refine ⟨((p8,U,l10),()),rfl,ak ?_⟩;have b2:=b1.an e2 aj;refine ⟨⟨b2.cells _ rfl,trivial⟩,?_⟩;refine aI (sO (c:=b.c) (v.data.an (e1.trans e2)) h2) ?_;rintro _ g3 ⟨V,l12,X,rfl,G,J⟩;refine ⟨((V,l12,X),()),rfl,ak ?_⟩;have b3:=b2.an J aj;have q1:=e1.size;have q2:=e2.size;have q3:=J.size;refine ⟨⟨b3.cells _ rfl,trivial⟩,?_⟩;have j:SN g3 g1.size p8 U l10 (ef u.text):=s8.an J aj;have n8:=SN.len s8;have n11:=SN.len G;have k8:=uY u.text;have k11:=uY u.data;have Y:=(e1.trans e2).trans J;refine Q3 j G ad ad ?_;intro Z c14 g4 s14 k4;have e4:=SN.ext Y j ad k4;have nb:h.size∉aR p8:=fun hi=>by have:=(Ob.SL.cv j _ hi).1; omega
 have b4:=b3.an k4 nb;refine ⟨⟨b4.cells _ rfl,b4.cells _ rfl,trivial⟩,?_⟩;have nc:=v.bh.len;have hu:∀ i,i<u.bh.length->ef u.text++ef u.data++(u.bh.take (i+1)).map (·.1)=(ef u.text++ef u.data++(u.bh.take i).map (·.1))++[(u.bh.getD i (dJ,Fx)).1]:=by
  intro i hi;rw [Yw hi,YH,<- YV,Zh,Yv hi] <;> rfl
 refine aS (cs:=[(false,[.slice 0]),(false,[.int .i64])]) (fun y m h'=>∃ i:Nat,y.2.1=(i:Int)/\m=u.bh.length-i/\i<=u.bh.length/\(Ext h h'/\g1.size<=h'.size)/\bI h' h.size 47 [a.v,b.v,c.v,d.v]/\SN h' g1.size y.1.1 y.1.2.1 y.1.2.2 (ef u.text++ef u.data++(u.bh.take i).map (·.1))) ((Z,U+l12,c14),(0:Int),()) u.bh.length rfl
  ⟨0,rfl,rfl,ad,⟨e4,by have:=k4.size; omega⟩,b4,by simpa using s14⟩ ?_
 rintro ⟨⟨p1,l2,l3⟩,n4,⟨⟩⟩ m g5 ⟨i,hi,rfl,hle,⟨O,z5⟩,b5,s⟩;simp only at hi s;subst hi;refine ak ?_;have hz:=O.size;refine af b5 ((c.p,c.l,c.c),()) rfl (ak ?_);refine aM (fun q=>?_) (fun q=>?_)
 ·have F:i<u.bh.length:=ad
  refine af b5 ((c.p,c.l,c.c),()) rfl (ak ?_);obtain ⟨aa,pp,ll,cc,rfl',hc,va,vn⟩:=(v.bh.an O).cells i F;refine ax ⟨ad,ad⟩ (av rfl' ?_);rw [show Int.toNat (i:Int)=i from ad];refine ay (u.bh[i].1,()) ⟨hc.1,trivial⟩ (ak ?_);have ns:=SN.len s;have hg:(u.bh.getD i (dJ,Fx)).1=u.bh[i].1:=by
   rw [Zh,Yv F] <;> rfl
  refine SN.push s _ (by simp only [List.length_append,List.length_map,List.length_take]; omega) z5 ?_;intro p' c' h2 s2 k2;have nb2:h.size∉aR p1:=fun hi=>by have:=(Ob.SL.cv s _ hi).1; omega
  refine aG (cs:=[(false,[.slice 0]),(false,[.int .i64])]) ((p',l2+1,c'),((i+1:Nat):Int),()) (u.bh.length-(i+1)) rfl ad (by rw [wrap_i64 ad ad]; rfl) ?_;exact ⟨i+1,rfl,rfl,ad,⟨SN.ext O s ad k2,by have:=k2.size; omega⟩,b5.an k2 nb2,by rw [hu i F,hg]; exact s2⟩
 ·have:i=u.bh.length:=ad
  subst this;rw [Y4] at s;exact ⟨p1,l2,l3,rfl,Sx.SL.mono s ad,O⟩
def SL.flat {h:Hp} {b:Nat} {e:TypeId} {sz:Nat} {a:Xax} {l c:Nat} {xs:List (List Xab)} (s:SL h b e sz (some a) l c xs):aJ h a 0 xs.flatten:=by
 obtain ⟨g,j,rest,rfl,u,F,d,G⟩:=s.2.2;refine d.cells _ ?_;rw [ai9,au9]
def fS (h:Hp):Prop:=∃ e f,h[1]?=some (.cells (Lib.pow10Tab.map fun z=>Value.int .u64 z).toArray e f)
def fS.an {ws:List Nat} {h h':Hp} (p:fS h) (k:Ch ws h h') (hw:1∉ws):fS h':=by
 obtain ⟨e,f,d⟩:=p;exact ⟨e,f,k.get d hw⟩
def H6 {W:World} {name:String} (d:Tryz.prog.globalNamed name=some 1) (p:fS W.heap):Lib.TabIs Tryz.prog W name .u64 Lib.pow10Tab:=by
 obtain ⟨e,f,j⟩:=p;unfold Lib.TabIs World.var?;rw [d];show (match W.heap[1]? with | some (.cells cs _ _)=>some cs | _=>none)=_;rw [j]
def Pp:Tryz.prog.underlying 194=some (.slice 5):=az
def V8:Tryz.prog.underlying 5=some (.int .u8):=az
def VW:Tryz.prog.underlying 9=some .string:=az
def Nw {L:Lp} {K:Xab->Hp->Prop} {h:Hp} {b:Nat} {p:Xac} {l c:Nat} {bs:List UInt8} {k:Xaa->T} (s:SL h b 5 1 p l c (Oj bs)) (h0:bs≠[]) (hk:k ⟨bs.toArray⟩ L K h) :
  T.ek Tryz.prog (convert 194 9 (.slice p l c)) false [(false,[.string])] k L K h:=by
 show aU Tryz.prog (convert 194 9 (.slice p l c)) h _;unfold convert;rw [ao,aF Pp,ao,aF VW];show aU Tryz.prog (do match <- underlying 5 with
  | .int .u8=>Conv.bytesToString (.slice p l c)
  | .int .i32=>Conv.runesToString (.slice p l c)
  | _ => stuck "Convert: a slice of what to string?") h _
 rw [ao,aF V8];cases p with
 | none =>
  have h1:Oj bs=[]:=s.2.2.2
  have:bs=[]:=by simpa [Oj] using h1
  exact absurd this h0
 | some a =>
  have hl:l=bs.length:=by rw [s.1,Hf]
  subst hl;have d:=SL.flat s;rw [N6] at d;exact J2 a bs c _ d ⟨(⟨bs.toArray⟩,()),rfl,hk⟩
def UI (n:Nat):IntKind.wrap .u8 (IntKind.wrap .i64 ((48:Int)+(Int.tmod (n:Int) (10:Int))))=((UInt8.ofNat (48+n % 10)).toNat:Int):=by
 have e:Int.tmod (n:Int) 10=((n % 10:Nat):Int):=by
  rw [Int.tmod_eq_emod_of_nonneg ad] <;> rfl
 rw [e,wrap_i64 ad ad,wrap_u8 ad ad]
 simp
 omega
end Go.Sx.Ob
namespace Go.Sx.BB
open Go.Sx Go.Sx.Ob
open Go.Proofs
def Sw (b:UInt8):List Xab:=[.int .u8 (b.toNat:Int)]
end Go.Sx.BB
namespace Go.Sx.Ob
open Go.Proofs
def vp {h:Hp} {b b':Nat} {e e':TypeId} {sz j:Nat} {p q:Xac} {l c l' c':Nat} {xs ys:List (List Xab)} (s:SL h b e sz p l c xs) (t:SL h b' e' j q l' c' ys) (u:e≠e'):∀ i,i∈aR p->i∉aR q:=fun i h1 h2=>by
 obtain ⟨F,b1⟩:=SL.Bk s i h1;obtain ⟨G,d⟩:=SL.Bk t i h2;unfold bI at b1 d;rw [b1] at d;simp only [Option.some.injEq,Obj.cells.injEq] at d;exact u d.2.1
def SN.put {L:Lp} {K:Xab->Hp->Prop} {h:Hp} {b:Nat} {p:Xac} {l c:Nat} {xs:List Xaa} (v:SN h b p l c xs) {i:Nat} (hi:i<xs.length) (x:Xaa) {a:Xax} (d:p=some a) {k:T}
  (hk:∀ h',SN h' b p l c (xs.set i x)->Ch (aR p) h h'->h'.size=h.size->k L K h'):T.aC (a.add (i*1)) [.string x] k L K h:=by
 refine SL.store (P:=Tryz.prog) v (i:=i) (vs:=VH x) (by rw [Yu]; exact hi) rfl rfl d ?_;intro h' s' ch z;refine hk h' ?_ ch z;unfold SN;rw [ax9];exact s'
def Gg (zs:List Xaa) (j:Nat) (d:0<j) (hl:j<zs.length):(zs.set j (zs[j-1]'ad)).eraseIdx (j-1)=zs.eraseIdx j:=by
 apply ZF;intro k;rw [List.getElem?_eraseIdx,List.getElem?_eraseIdx]
 by_cases h1:k<j-1
 ·rw [YC h1,YC ad,ZS ad]
 ·rw [Yx h1]
  by_cases h2:k<j
  ·have:k=j-1:=ad
   subst this;rw [YC h2,show j-1+1=j from ad,aa9 hl,Yv ad]
  ·rw [Yx h2,ZS ad]
def Rq (zs:List Xaa) (j:Nat) (hl:j<zs.length) (x s:Xaa):gd (zs.set j x) s=(gd (zs.eraseIdx j) s || decide (x=s)):=by
 unfold gd;rw [List.set_eq_take_append_cons_drop,YC hl,List.eraseIdx_eq_take_drop_succ];simp only [List.any_append,List.any_cons]
 all_goals (cases List.any (zs.take j) (fun t=>decide (t=s)) <;> cases List.any (zs.drop (j+1)) (fun t=>decide (t=s)) <;> cases decide (x=s) <;> rfl)
def pD {D:List Xaa} {s:Xaa}:gd D s=true↔s∈D:=by
 unfold gd;rw [ZL];constructor
 ·rintro ⟨t,d,e⟩;rw [<- Yz e];exact d
 ·intro hs;exact ⟨s,hs,YA rfl⟩
def zn (l:List Xaa) (x:Xaa):(l++[x]).Nodup↔l.Nodup/\x∉l:=by
 rw [Zr];constructor
 ·rintro ⟨a,_,c⟩;exact ⟨a,fun hx=>c x hx x aj rfl⟩
 ·rintro ⟨a,b⟩;refine ⟨a,aj,fun y d z j e=>?_⟩;rw [YP.1 j] at e;exact b (e▸d)
def sS {h : Hp} {b : Nat} {p : Xac} {l c : Nat} {xs : List Xaa} (v : SN h b p l c xs) (hm : xs.length <= 2 ^ 30) :
    HC Tryz.prog 58 #[.slice p l c] h fun w h' => ∃ p' c' ys, w = .slice p' (ys : List Xaa).length c' /\ ys.length <= xs.length /\ (ys.length = xs.length ↔ xs.Nodup) /\ Ext h h' := by
  refine aY (args := [.slice p l c]) mixed Tryz.func58 az (nM p l c) ?_;unfold jq bf bg bz aK aX bt bm bq aP dl;have n := SN.len v
  refine aS (cs := [(false, [.slice 0]), (false, [.int .i64])]) (fun y m h' => ∃ (i : Nat) (ys : List Xaa), y.2.1 = (i : Int) /\ m = xs.length - i /\ i <= xs.length /\ Ext h h' /\ SN h' h.size y.1.1 y.1.2.1 y.1.2.2 ys /\ ys.length <= i /\ (∀ s, gd ys s = gd (xs.take i) s) /\ (ys.length = i ↔ (xs.take i).Nodup)) ((none, 0, 0), (0 : Int), ()) xs.length rfl
    ⟨0, [], rfl, rfl, ad, Ch.refl _ _, SL.nil _ _ _ _, aj, fun s => rfl, aj⟩ ?_
  rintro ⟨⟨p1, J, l3⟩, n4, ⟨⟩⟩ m h1 ⟨i, ys, hi, rfl, hle, e1, s, hyl, O, U⟩;simp only at hi s;subst hi;refine ak ?_;have hz := e1.size;have ny := SN.len s;refine aM (fun q => ?_) (fun q => ?_)
  · have X : i < xs.length :=ad
    have hx : ∀ {g}, Ext h g -> ∃ a, p = some a /\ aJ g (a.add (i * 1)) 0 [.string xs[i]] := by
      intro g e;obtain ⟨a, F, hc⟩ := SN.cell v X;exact ⟨a, F, aT e aj _ _ hc⟩
    have d : xs.take (i + 1) = xs.take i ++ [xs[i]] := Yw X;generalize hxv : xs[i] = x at hx d;obtain ⟨a, F, hc⟩ := hx e1;refine ax ⟨ad, ad⟩ (av F ?_);rw [show Int.toNat (i : Int) = i from ad];refine ay (x, ()) hc (ak ?_);refine aQ (Df s ad x) ?_;rw [O];have G : gd (xs.take i) x = true ↔ x ∈ xs.take i := pD;refine ar (fun r => ?_) (fun r => ?_)
    · have r2 := G.1 r
      refine aG (cs := [(false, [.slice 0]), (false, [.int .i64])]) ((p1, J, l3), ((i + 1 : Nat) : Int), ()) (xs.length - (i + 1)) rfl ad (by rw [wrap_i64 ad ad]; rfl) ?_;refine ⟨i + 1, ys, rfl, rfl, ad, e1, s, ad, fun t => ?_, ?_⟩
      · rw [O, d]
        by_cases e : x = t
        · subst e
          rw [r];exact (pD.2 (YN.2 (.inl r2))).symm
        · unfold gd
          rw [bc9];simp [e]
      · rw [d, zn]
        exact ⟨fun k => ad, fun k => absurd r2 k.2⟩
    · have r2 : x ∉ xs.take i := fun k => by rw [G.2 k] at r; cases r
      refine ax ⟨ad, ad⟩ (av F ?_);refine ay (x, ()) hc (ak ?_);refine SN.push s x ad hz ?_;intro p' c' h2 s2 k2;have e2 := SN.ext e1 s (YI _) k2
      refine aS (cs := [(false, [.int .i64])]) (fun y m h' => ∃ (j : Nat) (zs : List Xaa), y.1 = (j : Int) /\ m = j /\ j <= ys.length /\ zs.length = ys.length + 1 /\ zs.eraseIdx j = ys /\ Ext h h' /\ SN h' h.size p' (J + 1) c' zs) ((J : Int), ()) ys.length rfl
        ⟨ys.length, ys ++ [x], by rw [ny], rfl, ad, aj, by rw [List.eraseIdx_append_of_length_le ad]; simp, e2, s2⟩ ?_
      rintro ⟨n16, ⟨⟩⟩ m h3 ⟨j, zs, hj, rfl, hjl, Y, Z, e3, V⟩;simp only at hj;subst hj;refine ak ?_
      have hpl : ∃ a2, p' = some a2 := by
        obtain ⟨a2, h2, _⟩ := SN.cell V (i := 0) ad;exact ⟨a2, h2⟩
      obtain ⟨a2, u⟩ := hpl
      have last : (T.need (((0 : Int) <= (i : Int)) /\ ((i : Int) < (l : Int))) <|
         T.bi p fun (a21 : Xax) =>
         T.ah (a21.add ((Int.toNat (i : Int)) * 1)) [.string] <| fun (s22 : Xaa) =>
         T.need (((0 : Int) <= (m : Int)) /\ ((m : Int) < ((J + 1 : Nat) : Int))) <|
         T.bi p' fun (a23 : Xax) =>
         T.aC (a23.add ((Int.toNat (m : Int)) * 1)) [.string s22] <|
         T.again 0 [.slice p' (J + 1) c', .int .i64 (IntKind.wrap .i64 ((i : Int) + (1 : Int)))])
         ([] ++ [Jl (cs := [(false, [.slice 0]), (false, [.int .i64])]) (fun y m h' => ∃ (i : Nat) (ys : List Xaa), y.2.1 = (i : Int) /\ m = xs.length - i /\ i <= xs.length /\ Ext h h' /\ SN h' h.size y.1.1 y.1.2.1 y.1.2.2 ys /\ ys.length <= i /\ (∀ s, gd ys s = gd (xs.take i) s) /\ (ys.length = i ↔ (xs.take i).Nodup)) (xs.length - i)] ++
          [Jl (cs := [(false, [.int .i64])]) (fun y m h' => ∃ (j : Nat) (zs : List Xaa), y.1 = (j : Int) /\ m = j /\ j <= ys.length /\ zs.length = ys.length + 1 /\ zs.eraseIdx j = ys /\ Ext h h' /\ SN h' h.size p' (J + 1) c' zs) m])
         (fun w h' => ∃ p' c' ys, w = .slice p' (ys : List Xaa).length c' /\ ys.length <= xs.length /\ (ys.length = xs.length ↔ xs.Nodup) /\ Ext h h') h3 := by
        obtain ⟨a, F, hc⟩ := hx e3;refine ax ⟨ad, ad⟩ (av F ?_);rw [show Int.toNat (i : Int) = i from ad];refine ay (x, ()) hc (ak ?_);refine ax ⟨ad, ad⟩ (av u ?_);rw [show Int.toNat (m : Int) = m from ad];refine SN.put V ad x u ?_;intro h4 s4 k4 z4;refine aG (cs := [(false, [.slice 0]), (false, [.int .i64])]) ((p', J + 1, c'), ((i + 1 : Nat) : Int), ()) (xs.length - (i + 1)) rfl ad (by rw [wrap_i64 ad ad]; rfl) ?_;refine ⟨i + 1, zs.set m x, rfl, rfl, ad, SN.ext e3 V (YI _) k4, s4, by rw [Zy]; omega, fun t => ?_, ?_⟩
        · rw [Rq zs m ad, Z, O, d]
          unfold gd;rw [bc9]
          simp
        · rw [Zy, d, zn, <- U, Y]
          exact ⟨fun k => ⟨ad, r2⟩, fun k => ad⟩
      refine ar (fun q2 => ?_) (fun q2 => last);have q2 := Yz q2;rw [wrap_i64 ad ad];obtain ⟨a3, ha3, hc3⟩ := SN.cell V (i := m - 1) ad;refine ax ⟨ad, ad⟩ (av ha3 ?_);rw [show Int.toNat ((m : Int) - 1) = m - 1 from ad];refine ay (zs[m - 1]'ad, ()) hc3 (ak ?_);obtain ⟨a, F, hc⟩ := hx e3;refine ax ⟨ad, ad⟩ (av F ?_);refine ay (x, ()) hc (ak ?_);refine ar (fun q3 => ?_) (fun q3 => ?_)
      · refine ax ⟨ad, ad⟩ (av ha3 ?_)
        refine ay (zs[m - 1]'ad, ()) hc3 (ak ?_);refine ax ⟨ad, ad⟩ (av u ?_);rw [show Int.toNat (m : Int) = m from ad];refine SN.put V ad _ u ?_;intro h4 s4 k4 z4;refine aG (cs := [(false, [.int .i64])]) (((m - 1 : Nat) : Int), ()) (m - 1) rfl ad (by rw [show (m : Int) - 1 = ((m - 1 : Nat) : Int) from ad]; rfl) ?_;exact ⟨m - 1, _, rfl, rfl, ad, by rw [Zy]; exact Y, by rw [Gg zs m ad ad]; exact Z, SN.ext e3 V (YI _) k4, s4⟩
      · have := last
        rw [show Int.toNat (i : Int) = i from ad] at this;exact this
  · have : i = xs.length :=ad
    subst this;rw [Y4] at U;exact ⟨p1, l3, ys, by rw [ny], hyl, U, e1⟩
def FY (e:rO):Bool:=cX e.1.data.toList && nV none e.2.ai
def xx (u:cd):Bool:=u.text.all (fun x=>cD x 0) && (u.data.all (fun x=>cD x 1) && (u.bh.all FY && (decide (fy u).Nodup && cV (fy u) dJ u.aZ)))
def sU (x:cB) (l:List cB):ef (x::l)=(if x.kind=1 then [x.name] else [])++ef l:=by
 unfold ef
 by_cases h:x.kind=1 <;> simp [h]
def Fo (D:List Xaa) (x:cB) (s:Xaa):s∈ub D x↔s∈D\/s∈(if x.kind=1 then [x.name] else []):=by
 unfold ub;split <;> simp [or_comm]
theorem rb (sec:Nat):∀ (l:List cB) (D:List Xaa),eQ sec D l=true↔(∀ x,x∈l->cD x sec=true)/\(∀ s,s∈ef l->s∉D)/\(ef l).Nodup
 | [],D=>by simp [eQ,ef]
 | x::l,D=>by
  rw [eQ,YZ,rb sec l,sU];unfold x5;rw [YZ,Zr]
  by_cases h:x.kind=1
  ·simp only [h,decide_true,Bool.true_and,if_true,Bool.not_eq_true',List.mem_cons,List.mem_append,List.mem_singleton,List.not_mem_nil,or_false];have u:gd D x.name=false↔x.name∉D:=by
    rw [<- Bool.not_eq_true,pD]
   rw [u];have F:∀ s,s∈ub D x↔s=x.name\/s∈D:=fun s=>by
    rw [Fo,YC h];simp [or_comm]
   simp only [F];constructor
   ·rintro ⟨⟨a,b⟩,c,d,e⟩;refine ⟨?_,?_,?_,e,?_⟩
    ·rintro y (rfl | j)
     ·exact a
     ·exact c y j
    ·rintro s (rfl | hs)
     ·exact b
     ·exact fun k=>d s hs (.inr k)
    ·simp
    ·intro y j z J G;exact d z J (.inl (G▸j))
   ·rintro ⟨a,b,c,d,e⟩;refine ⟨⟨a x (.inl rfl),b _ (.inl rfl)⟩,fun y j=>a y (.inr j),fun s hs k=>?_,d⟩;rcases k with rfl | k
    ·exact e _ rfl _ hs rfl
    ·exact b s (.inr hs) k
  ·have F:ub D x=D:=by unfold ub; rw [Yx h]
   simp only [h,decide_false,Bool.false_and,if_false,Bool.not_false,and_true,List.mem_cons,List.nil_append,F];constructor
   ·rintro ⟨a,c,d,e⟩;refine ⟨?_,d,aj,e,aj⟩;rintro y (rfl | j)
    ·exact a
    ·exact c y j
   ·rintro ⟨a,b,_,d,_⟩;exact ⟨a x (.inl rfl),fun y j=>a y (.inr j),b,d⟩
theorem AR:∀ (l:List rO) (D:List Xaa),gp D l=true↔(∀ x,x∈l->FY x=true)/\(∀ s,s∈l.map (·.1)->s∉D)/\(l.map (·.1)).Nodup
 | [],D=>by simp [gp]
 | x::l,D=>by
  rw [gp,YZ,AR l,Zb,Z4];have j:CK D x=true↔x.1∉D/\FY x=true:=by
   unfold CK FY;rw [YZ,YZ,YZ,Bool.not_eq_true',<- Bool.not_eq_true,pD,and_assoc]
  rw [j];simp only [List.mem_cons];constructor
  ·rintro ⟨⟨a,b⟩,c,d,e⟩;refine ⟨?_,?_,?_,e⟩
   ·rintro y (rfl | u)
    ·exact b
    ·exact c y u
   ·rintro s (rfl | hs)
    ·exact a
    ·exact fun k=>d s hs (.inr k)
   ·exact fun hs=>d _ hs (.inl rfl)
  ·rintro ⟨a,b,c,d⟩;refine ⟨⟨b _ (.inl rfl),a x (.inl rfl)⟩,fun y u=>a y (.inr u),fun s hs k=>?_,d⟩;rcases k with rfl | k
   ·exact c hs
   ·exact b s (.inr hs) k
theorem lS:∀ (l:List cB) (D:List Xaa) (s:Xaa),s∈cR D l↔s∈D\/s∈ef l
 | [],D,s=>by simp [cR,ef]
 | x::l,D,s=>by
  show s∈cR (ub D x) l↔_;rw [lS l,Fo,sU,YN,or_assoc]
theorem A3:∀ (l:List rO) (D:List Xaa) (s:Xaa),s∈bd D l↔s∈D\/s∈l.map (·.1)
 | [],D,s=>by simp [bd]
 | x::l,D,s=>by
  show s∈bd (x.1::D) l↔_;rw [A3 l,Zb,YS,YS,<- or_assoc,or_comm (a:=s=x.1)]
def KZ {D E:List Xaa} (h:∀ s,s∈D↔s∈E) (s:Xaa):gd D s=gd E s:=by
 have:gd D s=true↔gd E s=true:=by rw [pD,pD]; exact h s
 exact Z3.2 this
theorem tC {D E:List Xaa} (h:∀ s,s∈D↔s∈E):∀ (l:List Xaa) (o:Xaa),cV D o l=cV E o l
 | [],o=>rfl
 | x::l,o=>by
  rw [cV,cV,tC h l,RM,RM,KZ h]
def xz (u:cd):tN u=xx u:=by
 have O:cV u.names dJ u.aZ=cV (fy u) dJ u.aZ:=by
  refine tC (fun s=>?_) _ _;unfold cd.names fy;rw [A3,lS,lS];simp [or_assoc]
 rw [Z3];unfold tN xx;rw [YZ,YZ,YZ,YZ,YZ,YZ,YZ,rb,rb,AR,O,Y1,Y1,Y1,decide_eq_true_iff];unfold fy;rw [Zr,Zr];have e1:∀ s,s∈cR [] u.text↔s∈ef u.text:=fun s=>by rw [lS]; simp
 have e2:∀ s,s∈cR (cR [] u.text) u.data↔s∈ef u.text\/s∈ef u.data:=fun s=>by rw [lS,e1]
 simp only [e1,e2,List.mem_append];constructor
 ·rintro ⟨⟨⟨⟨j,a2,a3⟩,b1,U,F⟩,G,V,c3⟩,g⟩;refine ⟨j,b1,G,⟨⟨a3,F,fun x hx y J e=>U y J (e▸hx)⟩,c3,fun x hx y J e=>V y J (e▸hx)⟩,g⟩
 ·rintro ⟨j,b1,G,⟨⟨a3,F,d⟩,c3,f⟩,g⟩;exact ⟨⟨⟨⟨j,fun s _=>aj,a3⟩,b1,fun s hs k=>d s k s hs rfl,F⟩,G,fun s hs k=>f s k s hs rfl,c3⟩,g⟩
def rn {α:Type} (f:α->Bool) (l:List α) {i:Nat} (hi:i<l.length):(l.drop i).all f=(f l[i] && (l.drop (i+1)).all f):=by
 rw [YK hi,bd9]
def XK {h:Hp} {p:Xac} {l:Nat} {x:cn} (v:oK h p l x):gW h p l x.ai/\x.ai.length<=9223372036854775807/\∀ t,t∈x.ai->t.1.size<=maxLen:=⟨v.vw,by have:=v.many; omega,v.names⟩
def zr (D:List Xaa):Prop:=∀ g,g∈D->cX g.data.toList=true
def zr.snoc {D E:List Xaa} (h:zr D) (k:zr E):zr (D++E):=fun g d=>(YN.1 d).elim (h g) (k g)
def zr.item {x:cB} {sec:Nat} (r:cD x sec=true):zr (if x.kind=1 then [x.name] else []):=by
 intro g d;split at d
 ·rename_i j;rw [YP.1 d];rw [Dy j,YZ] at r;exact r.1
 ·simp at d
def Ki {h:Hp} {a b c d:cr} {u:cd} (v:tO h a b c d u):HC Tryz.prog 71 #[ED a b c d] h fun w h'=>w=.int .i64 (eO u:Nat)/\Ext h h':=by
 refine aY (args:=[ED a b c d]) mixed Tryz.func71 az (oi a.p a.l a.c b.p b.l b.c c.p c.l c.c d.p d.l d.c) ?_;unfold jU bf bg bz aK aX ct bJ bm aH aP;refine br ?_;intro g1 b1 e1 z1;have b1:bI g1 h.size 47 [a.v,b.v,c.v,d.v]:=b1;have m1:=v.text.many;have m2:=v.data.many;have m3:=v.bh.many;have m4:=v.aZ.many;have n1:=v.text.len;have n2:=v.data.len;have n3:=v.bh.len;have n4:=v.aZ.len;simp only [aE];refine af b1 ((a.p,a.l,a.c),()) rfl (ak ?_);refine af b1 ((b.p,b.l,b.c),()) rfl (ak ?_);rw [wrap_i64 ad ad];unfold eO vH;refine ar (fun q=>?_) (fun q=>?_)
 ·have q:=Yz q;exact ⟨by rw [YA (show 8192<u.text.length+u.data.length from ad)]; rfl,e1⟩
 have q:=YG q;rw [YB (show ¬ 8192<u.text.length+u.data.length from ad),ad9];refine af b1 ((c.p,c.l,c.c),()) rfl (ak ?_);refine ar (fun q=>?_) (fun q=>?_)
 ·have q:=Yz q;exact ⟨by rw [YA (show 8192<u.bh.length from ad)]; rfl,e1⟩
 have q:=YG q;rw [YB (show ¬ 8192<u.bh.length from ad),Yx aj,xz];generalize hU:xx u=U;unfold xx at hU;refine aS (cs:=[(false,[.int .i64]),(false,[.int .i64])]) (fun y w h'=>∃ i:Nat,y.2.1=(i:Int)/\w=u.text.length-i/\i<=u.text.length/\Ext h h'/\bI h' h.size 47 [a.v,b.v,c.v,d.v]/\zr (ef (u.text.take i))/\((u.text.drop i).all (fun x=>cD x 0) && (u.data.all (fun x=>cD x 1) && (u.bh.all FY && (decide (fy u).Nodup && cV (fy u) dJ u.aZ))))=U) ((0:Int),(0:Int),()) u.text.length rfl
  ⟨0,rfl,rfl,ad,e1,b1,fun g V=>by simp [ef] at V,hU⟩ ?_
 clear hU;rintro ⟨n21,n22,⟨⟩⟩ w h2 ⟨i,hi,rfl,O,e2,F,hg1,hu⟩;simp only at hi;subst hi;refine ak ?_;refine af F ((a.p,a.l,a.c),()) rfl (ak ?_);refine ar ?_ ?_
 case _ =>
  intro q;have q:=Yz q;have j:i<u.text.length:=ad
  refine af F ((a.p,a.l,a.c),()) rfl (ak ?_);obtain ⟨aa,pp,ll,cc,rfl',hc,Y⟩:=(v.text.an e2).cells i j;rw [rn _ _ j] at hu;have ht:=wO u.text i j;generalize u.text[i]=x at hc Y hu ht;refine ax ⟨ad,ad⟩ (av rfl' ?_);rw [show Int.toNat (i:Int)=i from ad];refine ay (x.kind,x.name,x.inst.op,x.inst.a,x.inst.b,x.inst.n,x.inst.form,(pp,ll,cc),(x.e.num:Int),x.n,()) hc (ak ?_);refine aI (Co (c:=cc) (k:=0) Y ad) ?_;rintro _ h3 ⟨rfl,X⟩;refine ⟨((if cD x 0 then 0 else 31:Int),()),rfl,ak ?_⟩;cases G:cD x 0 with
  | false =>
   refine bk aj ?_;refine ⟨by rw [<- hu,G]; rfl,e2.trans X⟩
  | true =>
   refine bG aj ?_;rw [G,YU] at hu;refine aG (cs:=[(false,[.int .i64]),(false,[.int .i64])]) (n21,((i+1:Nat):Int),()) (u.text.length-(i+1)) rfl ad (by rw [wrap_i64 ad ad]; rfl) ?_;exact ⟨i+1,rfl,rfl,ad,e2.trans X,F.an X aj,by rw [ht]; exact hg1.snoc (zr.item G),hu⟩
 intro q;have q:=YG q
 have:i=u.text.length:=ad
 subst this;rw [ZJ,List.all_nil,YU] at hu;rw [Y4] at hg1;clear e1 b1;refine aS (cs:=[(false,[.int .i64]),(false,[.int .i64])]) (fun y w h'=>∃ i:Nat,y.2.1=(i:Int)/\w=u.data.length-i/\i<=u.data.length/\Ext h h'/\bI h' h.size 47 [a.v,b.v,c.v,d.v]/\zr (ef (u.data.take i))/\((u.data.drop i).all (fun x=>cD x 1) && (u.bh.all FY && (decide (fy u).Nodup && cV (fy u) dJ u.aZ)))=U) (n21,(0:Int),()) u.data.length rfl
  ⟨0,rfl,rfl,ad,e2,F,fun g V=>by simp [ef] at V,hu⟩ ?_
 clear hu e2 F;rintro ⟨n31,n32,⟨⟩⟩ w h4 ⟨i,hi,rfl,O,e2,F,hg2,hu⟩;simp only at hi;subst hi;refine ak ?_;refine af F ((b.p,b.l,b.c),()) rfl (ak ?_);refine ar ?_ ?_
 case _ =>
  intro q;have q:=Yz q;have j:i<u.data.length:=ad
  refine af F ((b.p,b.l,b.c),()) rfl (ak ?_);obtain ⟨aa,pp,ll,cc,rfl',hc,Y⟩:=(v.data.an e2).cells i j;rw [rn _ _ j] at hu;have ht:=wO u.data i j;generalize u.data[i]=x at hc Y hu ht;refine ax ⟨ad,ad⟩ (av rfl' ?_);rw [show Int.toNat (i:Int)=i from ad];refine ay (x.kind,x.name,x.inst.op,x.inst.a,x.inst.b,x.inst.n,x.inst.form,(pp,ll,cc),(x.e.num:Int),x.n,()) hc (ak ?_);refine aI (Co (c:=cc) (k:=1) Y ad) ?_;rintro _ h3 ⟨rfl,X⟩;refine ⟨((if cD x 1 then 0 else 31:Int),()),rfl,ak ?_⟩;cases G:cD x 1 with
  | false =>
   refine bk aj ?_;refine ⟨by rw [<- hu,G]; rfl,e2.trans X⟩
  | true =>
   refine bG aj ?_;rw [G,YU] at hu;refine aG (cs:=[(false,[.int .i64]),(false,[.int .i64])]) (n31,((i+1:Nat):Int),()) (u.data.length-(i+1)) rfl ad (by rw [wrap_i64 ad ad]; rfl) ?_;exact ⟨i+1,rfl,rfl,ad,e2.trans X,F.an X aj,by rw [ht]; exact hg2.snoc (zr.item G),hu⟩
 intro q;have q:=YG q
 have:i=u.data.length:=ad
 subst this;rw [ZJ,List.all_nil,YU] at hu;rw [Y4] at hg2;refine aS (cs:=[(false,[.int .i64]),(false,[.int .i64])]) (fun y w h'=>∃ i:Nat,y.2.1=(i:Int)/\w=u.bh.length-i/\i<=u.bh.length/\Ext h h'/\bI h' h.size 47 [a.v,b.v,c.v,d.v]/\zr ((u.bh.take i).map (·.1))/\((u.bh.drop i).all FY && (decide (fy u).Nodup && cV (fy u) dJ u.aZ))=U) (n31,(0:Int),()) u.bh.length rfl
  ⟨0,rfl,rfl,ad,e2,F,fun g V=>by simp at V,hu⟩ ?_
 clear hu e2 F;rintro ⟨n41,n42,⟨⟩⟩ w h4 ⟨i,hi,rfl,O,e2,F,hg3,hu⟩;simp only at hi;subst hi;refine ak ?_;refine af F ((c.p,c.l,c.c),()) rfl (ak ?_);refine ar ?_ ?_
 case _ =>
  intro q;have q:=Yz q;have j:i<u.bh.length:=ad
  refine af F ((c.p,c.l,c.c),()) rfl (ak ?_);obtain ⟨aa,pp,ll,cc,rfl',hc,Y,vn⟩:=(v.bh.an e2).cells i j;rw [rn _ _ j] at hu;have ht:(u.bh.take (i+1)).map (·.1)=(u.bh.take i).map (·.1)++[u.bh[i].1]:=by rw [Yw j,YH]; rfl
  generalize u.bh[i]=x at hc Y vn hu ht;unfold FY at hu;refine ax ⟨ad,ad⟩ (av rfl' ?_);rw [show Int.toNat (i:Int)=i from ad];refine ay (x.1,()) ⟨hc.1,trivial⟩ (ak ?_);refine aQ (sG x.1 _ (by have:maxLen=9223372036854775807:=rfl; omega)) ?_;cases O:cX x.1.data.toList with
  | false =>
   refine bk aj ?_;refine ⟨by rw [<- hu,O]; rfl,e2⟩
  | true =>
   refine bG aj ?_;rw [O,YU] at hu;refine af F ((c.p,c.l,c.c),()) rfl (ak ?_);refine ax ⟨ad,ad⟩ (av rfl' ?_);refine ay ((pp,ll,cc),(x.2.num:Int),()) ⟨by rw [add_add]; exact hc.2.1,by rw [add_add]; exact hc.2.2.1,trivial⟩ ?_;refine ak ?_;obtain ⟨w1,w2,w3⟩:=XK Y;refine gY (tV w1 w2 w3) ?_;intro h3 X;cases G:nV none x.2.ai with
   | false =>
    refine bk aj ?_;refine ⟨by rw [<- hu,G]; rfl,e2.trans X⟩
   | true =>
    refine bG aj ?_;rw [G,YU] at hu;refine aG (cs:=[(false,[.int .i64]),(false,[.int .i64])]) (n41,((i+1:Nat):Int),()) (u.bh.length-(i+1)) rfl ad (by rw [wrap_i64 ad ad]; rfl) ?_;exact ⟨i+1,rfl,rfl,ad,e2.trans X,F.an X aj,by rw [ht]; exact hg3.snoc (fun g V=>by rw [YP.1 V]; exact O),hu⟩
 intro q;have q:=YG q
 have:i=u.bh.length:=ad
 subst this;rw [ZJ,List.all_nil,YU] at hu;rw [Y4] at hg3;refine af F ((a.p,a.l,a.c),(b.p,b.l,b.c),(c.p,c.l,c.c),(d.p,d.l,d.c),()) rfl (ak ?_);refine aI (Nz (v.an e2) ad ad ad) ?_;rintro _ h5 ⟨p38,l39,l40,rfl,s5,e5⟩;refine ⟨((p38,l39,l40),()),rfl,ak ?_⟩;have hA:(fy u).length<=2^20:=by
  unfold fy
  have:=uY u.text
  have:=uY u.data
  simp only [List.length_append,List.length_map];omega
 have n5:=SN.len s5;refine aI (sS s5 ad) ?_;rintro _ h6 ⟨p41,l43,ys,rfl,hy1,hy2,e6⟩;refine ⟨((p41,ys.length,l43),()),rfl,ak ?_⟩;have e56:=e5.trans e6;have J:=e2.trans e56
 by_cases Z:(fy u).Nodup
 case neg =>
  rw [YB Z] at hu;refine bk ?_ ⟨by rw [<- hu]; rfl,J⟩
  have:¬ ys.length=(fy u).length:=fun k=>Z (hy2.1 k)
  rw [n5];simp only [bne_iff_ne,ne_eq];omega
 rw [YA Z,YU] at hu;have hy:=hy2.2 Z;refine bG (by rw [n5,hy]; simp) ?_;have s6:SN h6 h4.size p38 l39 l40 (fy u):=s5.an e6 aj;have b6:=F.an e56 aj;have hleg:∀ g,g∈fy u->hY dJ g:=fun g V=>EC (((hg1.snoc hg2).snoc hg3) g V)
 generalize fy u=E at hu s6 hA hleg;refine aS (cs:=[(false,[.int .i64]),(false,[.int .i64])]) (fun y w h'=>∃ i:Nat,y.2.1=(i:Int)/\w=u.aZ.length-i/\i<=u.aZ.length/\h'=h6/\cV E (ou u.aZ i) (u.aZ.drop i)=U) (n41,(0:Int),()) u.aZ.length rfl
  ⟨0,rfl,rfl,ad,rfl,hu⟩ ?_
 clear hu;rintro ⟨n51,n52,⟨⟩⟩ w h7 ⟨i,hi,rfl,hile,rfl,hu⟩;simp only at hi;subst hi;refine ak ?_;refine af b6 ((d.p,d.l,d.c),()) rfl (ak ?_);refine aM (fun q=>?_) (fun q=>?_)
 ·have j:i<u.aZ.length:=ad
  obtain ⟨aa,rfl',hc,Y⟩:=(v.aZ.an J).cells i j;rw [vO _ _ j] at hu;unfold RM at hu;refine aM (fun r2=>?_) (fun r2=>?_)
  ·refine af b6 ((d.p,d.l,d.c),()) rfl (ak ?_);refine ax ⟨ad,ad⟩ (av rfl' ?_);rw [show Int.toNat (i:Int)=i from ad,wrap_i64 (x:=(i:Int)-1) ad ad];refine ay (u.aZ[i],()) hc (ak ?_);refine af b6 ((d.p,d.l,d.c),()) rfl (ak ?_);obtain ⟨ab,rfl'',hc',va'⟩:=(v.aZ.an J).cells (i-1) ad;refine ax ⟨ad,ad⟩ (av rfl'' ?_);rw [show Int.toNat ((i:Int)-1)=i-1 from ad];refine ay (u.aZ[i-1],()) hc' (ak ?_);have hla:ou u.aZ i=u.aZ[i-1]:=by
    unfold ou;rw [Yx ad,Zh,Yv ad] <;> rfl
   rw [leB];rw [hla] at hu;refine ar (fun r3=>?_) (fun r3=>?_)
   ·have r3:decide (hY u.aZ[i-1] u.aZ[i])=false:=by simpa using r3
    exact ⟨by rw [<- hu,r3,aj9]; rfl,J⟩
   ·have r3:decide (hY u.aZ[i-1] u.aZ[i])=true:=by simpa using r3
    rw [r3,ZK] at hu;refine af b6 ((d.p,d.l,d.c),()) rfl (ak ?_);refine ax ⟨ad,ad⟩ (av rfl' ?_);refine ay (u.aZ[i],()) hc (ak ?_);refine aQ (Df s6 ad _) ?_;refine ⟨⟨b6.cells _ rfl,hc',b6.cells _ rfl,hc,b6.cells _ rfl,trivial⟩,?_⟩;cases G:gd E u.aZ[i] with
    | false =>
     refine bk aj ?_;exact ⟨by rw [<- hu,G]; rfl,J⟩
    | true =>
     refine bG aj ?_;rw [G,YU] at hu;exact aG (cs:=[(false,[.int .i64]),(false,[.int .i64])]) (n51,((i+1:Nat):Int),()) (u.aZ.length-(i+1)) rfl ad (by rw [wrap_i64 ad ad]; rfl) ⟨i+1,rfl,rfl,ad,rfl,hu⟩
  ·have hi0:i=0:=ad
   subst hi0;refine af b6 ((d.p,d.l,d.c),()) rfl (ak ?_);refine ax ⟨ad,ad⟩ (av rfl' ?_);refine ay (u.aZ[0],()) hc (ak ?_);refine aQ (Df s6 ad _) ?_;refine ⟨⟨b6.cells _ rfl,trivial⟩,?_⟩;cases G:gd E u.aZ[0] with
   | false =>
    refine bk aj ?_;exact ⟨by rw [<- hu,G]; rfl,J⟩
   | true =>
    refine bG aj ?_;have V:decide (hY (ou u.aZ 0) u.aZ[0])=true:=YA (hleg _ (pD.1 G));rw [G,V,YU,YU] at hu;exact aG (cs:=[(false,[.int .i64]),(false,[.int .i64])]) (n51,((0+1:Nat):Int),()) (u.aZ.length-(0+1)) rfl ad (by rw [wrap_i64 ad ad]; rfl) ⟨0+1,rfl,rfl,ad,rfl,hu⟩
 ·have:i=u.aZ.length:=ad
  subst this;rw [ZJ] at hu;exact ⟨by rw [<- hu]; rfl,J⟩
end Go.Sx.Ob
namespace Go.Sx
open Go.Proofs
section any
variable {P:Program} {h:Hp}
end any
def fS (h:Hp):Prop:=∃ e f,h[1]?=some (.cells (Lib.pow10Tab.map fun z=>Value.int .u64 z).toArray e f)
def fS.an {ws:List Nat} {h h':Hp} (p:fS h) (k:Ch ws h h') (hw:∀ i,i∈ws->1<i):fS h':=by
 obtain ⟨e,f,d⟩:=p;exact ⟨e,f,k.get d (fun hm=>by have:=hw _ hm; omega)⟩
def H6 {W:World} {name:String} (d:Tryz.prog.globalNamed name=some 1) (p:fS W.heap):Lib.TabIs Tryz.prog W name .u64 Lib.pow10Tab:=by
 obtain ⟨e,f,j⟩:=p;unfold Lib.TabIs World.var?;rw [d];show (match W.heap[1]? with | some (.cells cs _ _)=>some cs | _=>none)=_;rw [j]
def xr {h:Hp} (p:fS h) (u:Nat) (h1:1<=u) (h2:u<18446744073709551616):wz Tryz.prog 119 [.int .u64 u] h (.int .i64 (Lib.nDigits u)):=by
 intro W d;refine ((Any.internal_strconv_numDigits Tryz.ND u h1 h2 W (H6 az (by rw [d]; exact p))).mono ?_);rintro e w' ⟨j,hw⟩;exact ⟨_,j,by rw [hw]; exact dK.refl W,rfl,by rw [hw]; exact d⟩
def fV (n:Nat):Xaa:=⟨(Lib.decDigits n).toArray⟩
def gh (f:Xaa->Nat):dc->Nat
 | []=>0
 | p::l=>p.2*f p.1+gh f l
def eV (f:Xaa->Nat) (p:Xaa × Nat) (l:dc):gh f (p::l)=p.2*f p.1+gh f l:=rfl
def NR (a b:Nat):a % 4294967296*b % 4294967296=a*b % 4294967296:=by rw [bk9,bv9,<- bk9]
section
variable {α:Type}
def vE (en:α->Xab) (D:List (Xaa × α)):List (Xaa × Xab):=D.map fun p=>(p.1,en p.2)
def gE (D:List (Xaa × α)) (s:Xaa):Option α:=(D.find? fun p=>decide (s=p.1)).map (·.2)
def pE (D:List (Xaa × α)) (s:Xaa) (v:α):List (Xaa × α):=if (gE D s).isSome then D.map fun p=>if s=p.1 then (p.1,v) else p else D++[(s,v)]
def mZ (en:α->Xab) (D:List (Xaa × α)) (s:Xaa):look (vE en D) s=(gE D s).map en:=by
 unfold look gE vE
 induction D with
 | nil=>rfl
 | cons p D d =>
  by_cases h:s=p.1
  ·simp [h]
  ·simp only [List.map_cons,List.find?_cons,decide_eq_false h];exact d
def Hk (en:α->Xab) (D:List (Xaa × α)) (s:Xaa) (v:α):iR (vE en D) s (en v)=vE en (pE D s v):=by
 unfold iR pE;rw [mZ];cases h:gE D s with
 | none=>simp [vE]
 | some q =>
  simp only [Option.map_some,Option.isSome_some,if_true,vE,List.map_map];refine Zm fun p d=>?_
  simp only [Function.comp];split <;> simp_all
def xj (D:List (Xaa × α)) (s:Xaa) (v:α):(pE D s v).length=if (gE D s).isSome then D.length else D.length+1:=by
 unfold pE;split <;> simp
def xn (D:List (Xaa × α)) (s t:Xaa) (v:α):gE (D++[(s,v)]) t=(gE D t).or (if t=s then some v else none):=by
 unfold gE;rw [Z9];cases h:D.find? (fun p=>decide (t=p.1)) with
 | some q=>simp
 | none =>
  simp only [Option.none_or,Option.map_none,List.find?_cons,List.find?_nil]
  by_cases e:t=s
  ·simp [e]
  ·simp [e]
def GO (D:List (Xaa × α)) (s t:Xaa) (v:α) (hs:(gE D s).isSome):gE (D.map fun p=>if s=p.1 then (p.1,v) else p) t=if t=s then some v else gE D t:=by
 unfold gE at *
 induction D with
 | nil=>simp at hs
 | cons p D G =>
  by_cases h:s=p.1
  ·by_cases e:t=s
   ·simp [h,e]
   ·have e2:¬ t=p.1:=fun k=>e (k.trans h.symm)
    have J:∀ l:List (Xaa × α),(List.find? (fun p=>decide (t=p.1)) (List.map (fun p=>if s=p.1 then (p.1,v) else p) l)).map (·.2)=(List.find? (fun p=>decide (t=p.1)) l).map (·.2):=by
     intro l
     induction l with
     | nil=>rfl
     | cons q l j =>
      by_cases u:s=q.1
      ·have:¬ t=q.1:=fun k=>e (k.trans u.symm)
       simp only [List.map_cons,List.find?_cons,if_pos u,decide_eq_false this];exact j
      ·simp only [List.map_cons,List.find?_cons,if_neg u]
       by_cases d:t=q.1
       ·simp [d]
       ·simp only [decide_eq_false d];exact j
    simp only [List.map_cons,List.find?_cons,if_pos h,decide_eq_false e2,if_neg e];exact J D
  ·have F:(Option.map (fun x=>x.2) (List.find? (fun p=>decide (s=p.1)) D)).isSome:=by
    simpa [List.find?_cons,decide_eq_false h] using hs
   simp only [List.map_cons,List.find?_cons,if_neg h]
   by_cases d:t=p.1
   ·have:¬ t=s:=fun k=>h (k.symm.trans d)
    simp [d,if_neg (d▸this)]
   ·simp only [decide_eq_false d];exact G F
def OE (D:List (Xaa × α)) (s:Xaa) (v:α) (t:Xaa):gE (pE D s v) t=if t=s then some v else gE D t:=by
 unfold pE;split
 ·rename_i h;exact GO D s t v h
 ·rename_i h;rw [xn]
  by_cases e:t=s
  ·subst e
   have:gE D t=none:=by simpa using h
   rw [this]; simp
  ·simp [e]
def dH (f:Xaa->Option α) (s:Xaa) (v:α):Xaa->Option α:=fun t=>if t=s then some v else f t
def cF (f:Xaa->Option α) (s:Xaa) (v:α):dH f s v s=some v:=by simp [dH]
def cg (f:Xaa->Option α) {s t:Xaa} (v:α) (h:t≠s):dH f s v t=f t:=by simp [dH,h]
def dQ (en:α->Xab) (h:Hp) (g:Nat) (f:Xaa->Option α) (n:Nat):Prop:=∃ D:List (Xaa × α),dV h g (vE en D)/\(∀ s,gE D s=f s)/\D.length=n
def dQ.an {en:α->Xab} {ws:List Nat} {h h':Hp} {g:Nat} {f:Xaa->Option α} {n:Nat} (m:dQ en h g f n) (k:Ch ws h h') (hw:g∉ws):dQ en h' g f n:=by
 obtain ⟨D,m,r⟩:=m;exact ⟨D,m.an k hw,r⟩
def dQ.lt {en:α->Xab} {h:Hp} {g:Nat} {f:Xaa->Option α} {n:Nat} (m:dQ en h g f n):g<h.size:=by
 obtain ⟨D,m,r⟩:=m;exact m.lt
def dQ.new {en:α->Xab} {h:Hp} {g:Nat} (m:dV h g []):dQ en h g (fun _=>none) 0:=⟨[],m,fun s=>rfl,rfl⟩
def dQ.iR {en:α->Xab} {h':Hp} {g:Nat} {f:Xaa->Option α} {n:Nat} {D:List (Xaa × α)} (d:∀ s,gE D s=f s) (hn:D.length=n) {s:Xaa} {v:α} (m:dV h' g (Sx.iR (vE en D) s (en v))):dQ en h' g (dH f s v) (if (f s).isSome then n else n+1):=by
 rw [Hk] at m;refine ⟨_,m,fun t=>?_,?_⟩
 ·rw [OE,d t]; rfl
 ·rw [xj,d s,hn]
end
def eI (n:Nat):Xab:=.int .i64 (n:Int)
def eB (b:Bool):Xab:=.bool b
def Il:Tryz.prog.underlying 89=some (.map 9 3):=az
def Ss:Tryz.prog.underlying 58=some (.map 9 4):=az
def Tn:(Tryz.prog.info? 3).bind (·.zero)=some (.int .i64 0):=az
def NV:(Tryz.prog.info? 4).bind (·.zero)=some (.bool false):=az
section
variable {L:Lp} {K:Xab->Hp->Prop} {h:Hp} {g n:Nat}
def IL {f:Xaa->Option Nat} (m:dQ eI h g f n) (s:Xaa) {k:Int->T} (hk:k (((f s).getD 0:Nat):Int) L K h):T.ek Tryz.prog (Instr.lookup 89 (.map (some g)) (.string s) false) false [(false,[.int .i64])] k L K h:=by
 obtain ⟨D,m,d,hn⟩:=m;refine ix Il xw Tn m s false _ ?_;refine ⟨((((f s).getD 0:Nat):Int),()),?_,hk⟩;simp only [Bool.false_eq_true,if_false];rw [mZ,d s]
 all_goals (cases f s <;> rfl)
def Dt {f:Xaa->Option Nat} (m:dQ eI h g f n) (s:Xaa) {k:Int->Bool->T} (hk:k (((f s).getD 0:Nat):Int) (f s).isSome L K h):T.ek Tryz.prog (Instr.lookup 89 (.map (some g)) (.string s) true) true [(false,[.int .i64]),(false,[.bool])] k L K h:=by
 obtain ⟨D,m,d,hn⟩:=m;refine ix Il xw Tn m s true _ ?_;refine ⟨((((f s).getD 0:Nat):Int),(f s).isSome,()),?_,hk⟩;rw [YC rfl,mZ,d s]
 all_goals (cases f s <;> rfl)
def Nk {f:Xaa->Option Bool} (m:dQ eB h g f n) (s:Xaa) {k:Bool->T} (hk:k ((f s).getD false) L K h):T.ek Tryz.prog (Instr.lookup 58 (.map (some g)) (.string s) false) false [(false,[.bool])] k L K h:=by
 obtain ⟨D,m,d,hn⟩:=m;refine ix Ss xw NV m s false _ ?_;refine ⟨((f s).getD false,()),?_,hk⟩;simp only [Bool.false_eq_true,if_false];rw [mZ,d s]
 all_goals (cases f s <;> rfl)
def qX {f:Xaa->Option Nat} (m:dQ eI h g f n) {s:Xaa} (hs:s.size<=maxLen) {v:Int} {w:Nat} (hv:v=(w:Int)) {k:T} (hk:∀ h',dQ eI h' g (dH f s w) (if (f s).isSome then n else n+1)->Ch [g] h h'->h'.size=h.size->k L K h') :
  T.ey Tryz.prog (Instr.mapUpdate 89 (.map (some g)) (.string s) (.int .i64 v)) k L K h:=by
 subst hv;obtain ⟨D,m,d,hn⟩:=m;refine fm Il xw m hs _ _ ?_;intro h' m' c' j;exact hk h' (dQ.iR (en:=eI) d hn m') c' j
def Vu {f:Xaa->Option Bool} (m:dQ eB h g f n) {s:Xaa} (hs:s.size<=maxLen) {b:Bool} {k:T} (hk:∀ h',dQ eB h' g (dH f s b) (if (f s).isSome then n else n+1)->Ch [g] h h'->h'.size=h.size->k L K h') :
  T.ey Tryz.prog (Instr.mapUpdate 58 (.map (some g)) (.string s) (.bool b)) k L K h:=by
 obtain ⟨D,m,d,hn⟩:=m;refine fm Ss xw m hs _ _ ?_;intro h' m' c' j;exact hk h' (dQ.iR (en:=eB) d hn m') c' j
def yy {α:Type} {en:α->Xab} {t:TypeId} {k:Option Nat->T} (hk:∀ h',dQ en h' h.size (fun _=>none) 0->Ext h h'->h'.size=h.size+1->k (some h.size) L K h'):T.ek Tryz.prog (Instr.makeMap t none) false [(false,[.map 0 0])] k L K h:=by
 refine jM _ ?_;intro h' m e z;exact ⟨(some h.size,()),rfl,hk h' (dQ.new m) e z⟩
def Xz {α:Type} {en:α->Xab} {f:Xaa->Option α} (m:dQ en h g f n) {k:Int->T} (hk:k (n:Int) L K h):T.ek Tryz.prog (Builtin.len_ #[89] 3 #[.map (some g)]) false [(false,[.int .i64])] k L K h:=by
 obtain ⟨D,m,G,hn⟩:=m;obtain ⟨es,clock,j,u,F,J⟩:=m;have d:es.size=n:=by
  have:=YJ List.length u
  simpa [vE,hn] using this
 show aU _ _ _ _;unfold Builtin.len_;simp only [List.getElem?_toArray,List.getElem?_cons_zero];rw [ao,aF Il];simp only [pure_bind];rw [ao];refine fW j aj _ ?_;simp only [pure_bind];exact ⟨((n:Int),()),by rw [d]; rfl,hk⟩
def Vz {a b:Nat} {k:Int->T} (hk:k ((min a b:Nat):Int) L K h):T.ek Tryz.prog (Builtin.min_ #[3,3] 3 #[.int .i64 (a:Int),.int .i64 (b:Int)]) false [(false,[.int .i64])] k L K h:=by
 show aU _ _ _ _;refine ⟨(((min a b:Nat):Int),()),?_,hk⟩;show Value.int .i64 (if (b:Int)<(a:Int) then (b:Int) else (a:Int))=.int .i64 ((min a b:Nat):Int)
 congr 1
 split <;> omega
end
structure cL where
 name:Xaa
 p:Xac
 l:Nat
 c:Nat
 x:cn
def zH (e:cL):List Xab:=[.string e.name,.slice e.p e.l e.c,.int .u32 e.x.num]
structure uf (h:Hp) (p:Xac) (l:Nat) (es:List cL):Prop where
 len:l=es.length
 cells:∀ i,(hi:i<es.length)->∃ a,p=some a/\aJ h (a.add (i*3)) 0 (zH es[i])
 fq:∀ e,e∈es->gW h e.p e.l e.x.ai
def uf.an {h h':Hp} {p:Xac} {l:Nat} {es:List cL} (v:uf h p l es) (k:Ext h h'):uf h' p l es :=
 ⟨v.len,fun i hi=>by
  obtain ⟨a,d,hc⟩:=v.cells i hi;exact ⟨a,d,aT k aj _ _ hc⟩,fun e j=>(v.fq e j).an k aj⟩
def kE (es:List cL) (s:Xaa):Option Nat:=es.findIdx? fun e=>decide (e.name=s)
def FN {es:List cL} {e:cL} (hn:∀ d,d∈es->d.name≠e.name) (s:Xaa):kE (es++[e]) s=dH (kE es) e.name es.length s:=by
 unfold kE dH;rw [bl9]
 by_cases h:s=e.name
 ·subst h
  have:es.findIdx? (fun d=>decide (d.name=e.name))=none:=by
   rw [Ze];intro d u;simpa using hn d u
  rw [this];simp [List.findIdx?_cons]
 ·have:¬ e.name=s:=fun k=>h k.symm
  rw [Yx h];cases j:es.findIdx? (fun d=>decide (d.name=s)) with
  | none=>show _=List.findIdx? _ es; rw [j]; simp [List.findIdx?_cons,this]
  | some k=>show _=List.findIdx? _ es; rw [j]; simp
def F7 {es:List cL} {s:Xaa} (h:∀ d,d∈es->d.name≠s):kE es s=none:=by
 unfold kE;rw [Ze];intro d j;simpa using h d j
def zT {h:Hp} {p:Xac} {l c:Nat} {es:List cL} (v:uf h p l es) (hl:es.length<=2^40) (hn:(es.map (·.name)).Nodup) (hs:∀ e,e∈es->e.name.size<=maxLen) :
  HC Tryz.prog 64 #[.slice p l c] h fun w h'=>(∃ g,w=.map (some g)/\dQ eI h' g (kE es) es.length/\h.size<=g)/\Ext h h':=by
 refine aY (args:=[.slice p l c]) mixed Tryz.func64 az (xH p l c) ?_;unfold tP bf bg bz aK bU aH bq bX aP;refine yy (en:=eI) ?_;intro h1 m1 e1 z1;have hll:=v.len;refine aS (cs:=[(false,[.int .i64])]) (fun x w h'=>∃ i:Nat,x.1=(i:Int)/\i<=es.length/\w=es.length-i/\dQ eI h' h.size (kE (es.take i)) i/\Ext h h') ((0:Int),()) es.length rfl ⟨0,rfl,ad,ad,m1,e1⟩ ?_;rintro ⟨n2,⟨⟩⟩ w h2 ⟨i,hi,X,rfl,U,e2⟩;simp only at hi;subst hi;refine ak ?_;refine aM (fun g1=>?_) (fun g1=>?_)
 ·have u:i<es.length:=ad
  obtain ⟨a,rfl,hc⟩:=(v.an e2).cells i u;have G:es.take (i+1)=es.take i++[es[i]]:=Yw u;have J:=hs es[i] (YD u);have F:∀ d,d∈es.take i->d.name≠es[i].name:=by
   intro d hd Y;obtain ⟨j,hj,rfl⟩:=Y0 hd;rw [YQ] at hj;rw [List.getElem_take] at Y;exact am9.1 hn j i (by rw [Yu]; omega) (by rw [Yu]; omega) ad (by simpa using Y)
  generalize es[i]=e at hc G J F;refine ax ⟨ad,ad⟩ (av rfl ?_);rw [show Int.toNat (i:Int)=i from ad];refine ay (e.name,(e.p,e.l,e.c),(e.x.num:Int),()) hc (ak ?_);refine br ?_;intro h3 b3 e3 z3;refine aw b3 rfl aj ?_;intro h4 V k4 z4;have V:bI h4 h2.size 100 [.string e.name,.slice e.p e.l e.c,.int .u32 e.x.num]:=V;have O:Ext h2 h4:=bQ e3 k4;refine af V (e.name,()) rfl (ak ?_);refine qX (w:=i) (U.an O aj) J rfl ?_;intro h5 Z k5 z5;have hw:=gu i;have hf:kE (es.take (i+1))=dH (kE (es.take i)) e.name i:=by
   rw [G]
   funext s
   rw [FN F,YQ,Zz ad]
  rw [F7 F] at Z;refine aG (cs:=[(false,[.int .i64])]) (((i+1:Nat):Int),()) (es.length-(i+1)) rfl ad (YJ (fun z=>[Value.int .i64 z]) hw) ⟨i+1,rfl,ad,rfl,by rw [hf]; exact Z,bQ (e2.trans O) k5⟩
 ·have hi:i=es.length:=ad
  subst hi;rw [Y4] at U;exact ⟨⟨_,rfl,U,YI _⟩,e2⟩
def rF (of:Xaa->Option cn) (t:Xaa × Nat):dc:=match of t.1 with
 | none=>[t]
 | some y=>y.ai.map fun u=>(u.1,t.2*u.2 % 4294967296)
def gg (of:Xaa->Option cn) (n:Nat) (t:Xaa × Nat):Nat:=match of t.1 with
 | none=>n
 | some y=>(n+t.2*y.num % 4294967296) % 4294967296
def de (of:Xaa->Option cn) (x:cn):cn:=⟨D9 (x.ai.flatMap (rF of)),x.ai.foldl (gg of) x.num⟩
structure rK where
 p:Xac
 l:Nat
 c:Nat
 x:cn
def eL (y:rK):Xab:=iI y.p y.l y.c y.x
structure G9 (h:Hp) (g:Nat) (f:Xaa->Option rK) (n:Nat):Prop where
 map:dQ eL h g f n
 fq:∀ s y,f s=some y->gW h y.p y.l y.x.ai
def G9.an {ws:List Nat} {h h':Hp} {g:Nat} {f:Xaa->Option rK} {n:Nat} (m:G9 h g f n) (k:Ch ws h h') (hw:g∉ws) (hi:∀ s y,f s=some y->∀ i,i∈aR y.p->i∉ws):G9 h' g f n :=
 ⟨m.map.an k hw,fun s y d=>(m.fq s y d).an k (hi s y d)⟩
def Wa:Tryz.prog.underlying 149=some (.map 9 69):=az
def Wq:(Tryz.prog.info? 69).bind (·.zero)=some (.agg #[.slice none 0 0,.int .u32 0]):=az
def AV {L:Lp} {K:Xab->Hp->Prop} {h:Hp} {g n:Nat} {f:Xaa->Option rK} (m:dQ eL h g f n) (s:Xaa) {k:Xac->Nat->Nat->Int->Bool->T} (h1:∀ y,f s=some y->k y.p y.l y.c (y.x.num:Int) true L K h) (h0:f s=none->k none 0 0 0 false L K h) :
  T.ek Tryz.prog (Instr.lookup 149 (.map (some g)) (.string s) true) true [(true,[.slice 117,.int .u32]),(false,[.bool])] k L K h:=by
 obtain ⟨D,m,j,hn⟩:=m;refine ix Wa xw Wq m s true _ ?_;rw [YC rfl,mZ,j s];cases d:f s with
 | none=>exact ⟨((none,0,0),(0:Int),false,()),rfl,h0 d⟩
 | some y=>exact ⟨((y.p,y.l,y.c),(y.x.num:Int),true,()),rfl,h1 y d⟩
def Ms {L:Lp} {K:Xab->Hp->Prop} {h:Hp} {g n:Nat} {f:Xaa->Option rK} (m:dQ eL h g f n) {s:Xaa} (hs:s.size<=maxLen) (y:rK) {k:T} (hk:∀ h',dQ eL h' g (dH f s y) (if (f s).isSome then n else n+1)->Ch [g] h h'->h'.size=h.size->k L K h') :
  T.ey Tryz.prog (Instr.mapUpdate 149 (.map (some g)) (.string s) (.agg #[.slice y.p y.l y.c,.int .u32 (y.x.num:Int)])) k L K h:=by
 obtain ⟨D,m,d,hn⟩:=m;refine fm Wa xw m hs _ _ ?_;intro h' m' c' j;exact hk h' (dQ.iR (en:=eL) d hn m') c' j
def Vv (r:Option Nat) (p:Xac) (l:Nat) (j:Xax) (lv:Nat) (k:T):T :=
  T.loop [aP] [.int .i64 (0:Int)] <| fun (d:Int) =>
  bz d l
  (T.need (dU d l) <|
  T.bi p <| fun (a26:Xax) =>
  T.ah (a26.add (aK d 2)) [.string,.int .u32] <| fun (u:Xaa) (F:Int) =>
  T.new [bX,aH (0:Int)] 117 <| fun (a29:Xax) =>
  T.aC a29 [.string u,aH F] <|
  T.ah a29 [.string] <| fun (W1:Xaa) =>
  bU (Instr.lookup 183 (.map r) (.string W1) false) false [(false,[.int .u32])] <| fun (G:Int) =>
  T.ah (j.add 1) [.int .u32] <| fun (J:Int) =>
  T.ah (a29.add 1) [.int .u32] <| fun (O:Int) =>
  T.ey Tryz.prog (Instr.mapUpdate 183 (.map r) (.string W1) (aH (IntKind.wrap .u32 (G+(IntKind.wrap .u32 (J*O)))))) <|
  T.again lv [.int .i64 (bm (d+(1:Int)))]) k
def Q5 {L:Lp} {K:Xab->Hp->Prop} {h:Hp} {g ga q:Nat} {nm:Xaa} {p:Xac} {l:Nat} {us D:dc} {k:T} {lv:Nat} (X:L.length=lv) (v:gW h p l us) (hl:us.length<=2^40) (hs:∀ t,t∈us->t.1.size<=maxLen) (m:dV h g (vm D)) (hg:us≠[]->g∉aR p)
  (ba:bI h ga 117 [.string nm,.int .u32 (q:Int)]) (Y:ga≠g)
  (hk:∀ J h',dV h' g (vm ((us.map fun u=>(u.1,q*u.2 % 4294967296)).foldl ja D))->Ch [g] h h'->k (L++[J]) K h'):Vv (some g) p l ⟨ga,0,none⟩ lv k L K h:=by
 have hll:=v.len;have hL:∀ J:List Xab->Hp->Prop,(L++[J])[lv]?=some J:=by intro J; subst X; simp
 unfold Vv bz aK bU bm dU aH bX aP;refine aS (cs:=[(false,[.int .i64])]) (fun y w h'=>∃ (i:Nat),y.1=(i:Int)/\i<=us.length/\w=us.length-i/\Ch [g] h h'/\dV h' g (vm (((us.take i).map fun u=>(u.1,q*u.2 % 4294967296)).foldl ja D))) ((0:Int),()) us.length rfl
  ⟨0,rfl,ad,ad,Ch.refl _ _,by simpa using m⟩ ?_
 rintro ⟨n8,⟨⟩⟩ w h4 ⟨i,hi,hile,rfl,U,Z⟩;simp only at hi;subst hi;refine ak ?_;refine aM (fun g1=>?_) (fun g1=>?_)
 ·have d:i<us.length:=ad
  obtain ⟨a,rfl,hc⟩:=(v.an U (by intro j hj hm; rw [YP] at hm; subst hm; exact hg (List.ne_nil_of_length_pos ad) hj)).cells i d;have G:us.take (i+1)=us.take i++[us[i]]:=Yw d;have O:=hs us[i] (YD d);generalize us[i]=t at hc G O;refine ax ⟨ad,ad⟩ (av rfl ?_);rw [show Int.toNat (i:Int)=i from ad];refine ay (t.1,(t.2:Int),()) hc (ak ?_);refine br ?_;intro h5 b5 e5 z5;refine aw b5 rfl aj ?_;intro h6 V k6 z6;have V:bI h6 h4.size 117 (df t):=V;have F:Ext h4 h6:=bQ e5 k6;have m6:=Z.an F aj;have a6:=(ba.an U (by simpa using Y)).an F aj;refine af V (t.1,()) rfl (ak ?_);refine pN m6 _ ?_;rw [aE];refine af a6 ((q:Int),()) rfl (ak ?_);rw [aE];refine af V ((t.2:Int),()) rfl (ak ?_);generalize hDD:((us.take i).map fun u=>(u.1,q*u.2 % 4294967296)).foldl ja D=D' at m6;refine Hm (n:=(dP D' t.1+q*t.2 % 4294967296) % 4294967296) m6 O ?_ ?_
  ·rw [dT,dT,iH,bb9,iH,Int.natCast_mul]
  ·intro h7 m7 k7 z7;have hw:=gu i;have hf:((us.take (i+1)).map fun u=>(u.1,q*u.2 % 4294967296)).foldl ja D=uW D' t.1 ((dP D' t.1+q*t.2 % 4294967296) % 4294967296):=by
    rw [G,YH,Zk,hDD] <;> rfl
   refine aG (cs:=[(false,[.int .i64])]) (((i+1:Nat):Int),()) (us.length-(i+1)) (hL _) ad (YJ (fun z=>[Value.int .i64 z]) hw) ⟨i+1,rfl,ad,rfl,?_,by rw [hf]; exact m7⟩;exact Ch.trans (Ch.trans U F aj) k7 (fun j hj _=>hj)
 ·have hi:i=us.length:=ad
  subst hi;rw [Y4] at Z;exact hk _ _ Z U
def SZ (F:Option Nat) (a2:Xax) (n1:Int) (lv:Nat):T :=
 T.new [bq,aH (0:Int)] 69 <| fun (a3:Xax) =>
 T.aC a3 [bq,aH n1] <|
 bJ 93 [.map F] false [(false,[.func #[63] #[] false])] <| fun (v4:Xab) =>
 bJ 92 [v4] false [(false,[.slice 9])] <| fun (p5:Xac) (l6:Nat) (l7:Nat) =>
 T.loop [aP] [.int .i64 (0:Int)] <| fun (u:Int) =>
 bz u l6
 (T.need (dU u l6) <|
 T.bi p5 <| fun (a9:Xax) =>
 T.ah (a9.add (aK u 1)) [.string] <| fun (d:Xaa) =>
 bU (Instr.lookup 183 (.map F) (.string d) false) false [(false,[.int .u32])] <| fun (G:Int) =>
 cond (G != (0:Int))
  (T.ah a3 [.slice 117] <| fun (J:Xac) (O:Nat) (j:Nat) =>
  bU (Instr.lookup 183 (.map F) (.string d) false) false [(false,[.int .u32])] <| fun (U:Int) =>
  bU (Instr.buildSlice 66 1 #[(0,.agg #[.string d,aH U])]) false [dl] <| fun (p16:Xac) (l17:Nat) (V:Nat) =>
  bU (Builtin.append_ #[66,66] 66 #[.slice J O j,.slice p16 l17 V]) false [dl] <| fun (X:Xac) (Y:Nat) (Z:Nat) =>
  T.aC a3 [.slice X Y Z] <|
  T.again lv [.int .i64 (bm (u+(1:Int)))])
  (T.again lv [.int .i64 (bm (u+(1:Int)))]))
 (T.ah a3 [.slice 117,.int .u32] <| fun (p9:Xac) (l10:Nat) (l11:Nat) (n12:Int) =>
 T.aC a2 [.slice p9 l10 l11,aH n12] <|
 T.ah a2 [.slice 117,.int .u32] <| fun (p13:Xac) (j:Nat) (l15:Nat) (n16:Int) =>
 T.ret (.agg #[.slice p13 j l15,aH n16]))
def M1 {L:Lp} {K:Xab->Hp->Prop} {h:Hp} {g g2:Nat} {D:dc} {lv:Nat} (hlv:L.length=lv) (m:dV h g (vm D)) (hl:D.length<=2^40) (n:Int) (c0:bI h g2 69 [.slice none 0 0,.int .u32 0])
  (hk:∀ p l c h',SL h' h.size 117 2 p l c ((Eh D).map df)->Ch [g2] h h'->K (.agg #[.slice p l c,.int .u32 n]) h'):SZ (some g) ⟨g2,0,none⟩ n lv L K h:=by
 have hL:∀ J:List Xab->Hp->Prop,(L++[J])[lv]?=some J:=by intro J; subst hlv; simp
 have hg2:=c0.lt;unfold SZ bz aK bJ bU bm dU aH bq aP dl;refine br ?_;intro h2 b2 e2 z2;refine aw b2 rfl aj ?_;intro h3 b3 k3 z3;have b3:bI h3 h.size 69 [.slice none 0 0,.int .u32 n]:=b3;have e3:Ext h h3:=bQ e2 k3;have m3:=m.an e3 aj;have c3:bI h3 g2 69 [.slice none 0 0,.int .u32 0]:=c0.an e3 aj;refine aI (IV (some g) h3) ?_;rintro _ h4 ⟨rfl,rfl⟩;refine ⟨(.func (.func 117) #[] #[.pointer (some ⟨h3.size,0,none⟩)],()),rfl,ak ?_⟩;have e4:Ext h3 (h3.push (.cells #[.map (some g)] 183)):=Ext.push _ _;have X:(vm D).length<=2^40:=by unfold vm; rw [Yu]; exact hl
 refine aI (sS m3 X) ?_;rintro _ h5 ⟨pk,lk,ck,rfl,sk,e5⟩;refine ⟨((pk,lk,ck),()),rfl,ak ?_⟩;have d:=e4.trans e5;have G:(keysOf (vm D)).length<=2^40:=by
  unfold keysOf;rw [List.length_mergeSort,Yu];exact X
 have hlk:lk=(keysOf (vm D)).length:=by rw [sk.1,Yu]
 unfold Eh at hk;generalize keysOf (vm D)=ks at sk G hlk hk;have b5:=b3.an d aj;have c5:=c3.an d aj;have m5:=m3.an d aj;have Y:=e3.trans d;have hz3:=d.size;have hb3:=b3.lt;have hg:=m.lt;refine aS (cs:=[(false,[.int .i64])]) (fun x w h'=>∃ (i:Nat) (p:Xac) (l c:Nat),x.1=(i:Int)/\i<=ks.length/\w=ks.length-i/\Ch [h.size] h5 h'/\bI h' h.size 69 [.slice p l c,.int .u32 n] /\
  SL h' h5.size 117 2 p l c (((ks.take i).filterMap fun k=>if dP D ⟨k.toArray⟩=0 then none else some ((⟨k.toArray⟩:Xaa),dP D ⟨k.toArray⟩)).map df)/\l<=i) ((0:Int),()) ks.length rfl
  ⟨0,none,0,0,rfl,ad,ad,Ch.refl _ _,b5,SL.nil _ _ _ _,ad⟩ ?_
 rintro ⟨n8,⟨⟩⟩ w h6 ⟨i,p,l,c,hi,hile,rfl,O,b6,U,hli⟩;simp only at hi;subst hi;refine ak ?_;have m6:=m5.an O (by simp; omega);have hz6:=O.size;have e06:Ext h h6:=bQ Y O;refine aM (fun g1=>?_) (fun g1=>?_)
 ·have F:i<ks.length:=ad
  have sk6:=sk.bP O (fun j u=>by have:=(sk.cv u).1; simp; omega);obtain ⟨a,rfl,hc⟩:=sk6.cells (i:=i) (by simpa using F);rw [YE] at hc;have V:ks.take (i+1)=ks.take i++[ks[i]]:=Yw F;generalize ks[i]=k at hc V;refine ax ⟨ad,ad⟩ (av rfl ?_);rw [show Int.toNat (i:Int)=i from ad];refine ay ((⟨k.toArray⟩:Xaa),()) hc (ak ?_);have hw:=gu i;refine pN m6 _ (ar (fun g2=>?_) (fun g2=>?_))
  ·have g2:((dP D ⟨k.toArray⟩:Nat):Int)≠0:=by simpa using g2
   refine af b6 ((p,l,c),()) rfl (ak ?_);refine pN m6 _ ?_;refine mV (vs:=df (⟨k.toArray⟩,dP D ⟨k.toArray⟩)) xQ rl rfl ad ad az rfl rfl U hz6 ad ad ?_;intro p' c' h7 s7 Z hp7;have b7:=b6.an Z (fun hh=>by have:=(U.cv hh).1; omega);refine aw b7 rfl aj ?_;intro h8 b8 k8 z8;refine aG (cs:=[(false,[.int .i64])]) (((i+1:Nat):Int),()) (ks.length-(i+1)) (hL _) ad (YJ (fun z=>[Value.int .i64 z]) hw) ⟨i+1,p',l+1,c',rfl,ad,rfl,?_,b8,?_,ad⟩
   ·exact Ch.trans (Ch.trans O Z (fun j u hl=>by have:=(U.cv u).1; omega)) k8 (fun j u _=>u)
   ·rw [V,Z5,YH];have hf:([k].filterMap fun k=>if dP D ⟨k.toArray⟩=0 then none else some ((⟨k.toArray⟩:Xaa),dP D ⟨k.toArray⟩))=[((⟨k.toArray⟩:Xaa),dP D ⟨k.toArray⟩)]:=by
     simp only [List.filterMap_cons,List.filterMap_nil];rw [Yx ad]
    rw [hf];exact s7.bP k8 (fun j u=>by have:=(s7.cv u).1; simp; omega)
  ·have g2:((dP D ⟨k.toArray⟩:Nat):Int)=0:=by simpa using g2
   refine aG (cs:=[(false,[.int .i64])]) (((i+1:Nat):Int),()) (ks.length-(i+1)) (hL _) ad (YJ (fun z=>[Value.int .i64 z]) hw) ⟨i+1,p,l,c,rfl,ad,rfl,O,b6,?_,ad⟩;rw [V,Z5];have hf:([k].filterMap fun k=>if dP D ⟨k.toArray⟩=0 then none else some ((⟨k.toArray⟩:Xaa),dP D ⟨k.toArray⟩))=[]:=by
    simp only [List.filterMap_cons,List.filterMap_nil];rw [YC ad]
   rw [hf,Zs];exact U
 ·have hi:i=ks.length:=ad
  subst hi;rw [Y4] at U;have c6:=c5.an O (by simp; omega);refine af b6 ((p,l,c),n,()) rfl (ak ?_);refine aw c6 rfl aj ?_;intro h7 b7 Z z7;have b7:bI h7 g2 69 [.slice p l c,.int .u32 n]:=b7;refine af b7 ((p,l,c),n,()) rfl ?_;have hz5:=Y.size;exact hk _ _ _ _ ((U.bP Z (fun j u=>by have:=(U.cv u).1; simp; omega)).mono ad) (Ch.trans (e06.mono aj) Z (fun j u hl=>u))
def EL {h:Hp} {p:Xac} {l c:Nat} {x:cn} (v:gW h p l x.ai) {g n:Nat} {f:Xaa->Option rK} (m:G9 h g f n) (hl:x.ai.length<=2^40) (hs:∀ t,t∈x.ai->t.1.size<=maxLen) (hy:∀ s y,f s=some y->y.x.ai.length<=2^40/\∀ t,t∈y.x.ai->t.1.size<=maxLen)
  (hN:(x.ai.flatMap (rF fun s=>(f s).map (·.x))).length<=2^40) :
  HC Tryz.prog 66 #[iI p l c x,.map (some g)] h fun w h'=>(∃ p' l' c',w=iI p' l' c' (de (fun s=>(f s).map (·.x)) x)/\SL h' h.size 117 2 p' l' c' ((de (fun s=>(f s).map (·.x)) x).ai.map df))/\Ext h h':=by
 refine aY (args:=[iI p l c x,.map (some g)]) mixed Tryz.func66 az (DQ p l c x.num (some g)) ?_;unfold CP bf bg bz aK bJ bt bU aH bq bX aP bR;have hll:=v.len;refine br ?_;intro h1 b1 e1 z1;refine br ?_;intro h2 b2 e2 z2;refine jM _ ?_;intro h3 m3 e3 z3;refine ⟨(some h2.size,()),rfl,ak ?_⟩;have b13:=(b1.an e2 aj).an e3 aj;have b23:=b2.an e3 aj;have e03:=(e1.trans e2).trans e3;rw [aE];refine af b13 ((x.num:Int),()) rfl (ak ?_);refine af b13 ((p,l,c),()) rfl (ak ?_);have hh:h1.size=h.size+1:=z1;generalize hof:(fun s=>(f s).map (·.x))=of at hN;have X:∀ s,of s=(f s).map (·.x):=fun s=>by rw [<- hof]
 refine aS (cs:=[(false,[.int .u32]),(false,[.int .i64])]) (fun y w h'=>∃ i:Nat,y.2.1=(i:Int)/\i<=x.ai.length/\w=x.ai.length-i/\y.1=(((x.ai.take i).foldl (gg of) x.num:Nat):Int)/\Ch [h2.size] h3 h'/\dV h' h2.size (vm (((x.ai.take i).flatMap (rF of)).foldl ja [])))
  ((x.num:Int),(0:Int),()) x.ai.length rfl ⟨0,rfl,ad,ad,rfl,Ch.refl _ _,m3⟩ ?_
 rintro ⟨n9,n10,⟨⟩⟩ w h4 ⟨i,hi,hile,rfl,hn9,k4,m4⟩;simp only at hi hn9;subst hi hn9;refine ak ?_;have Y:Ext h h4:=bQ e03 k4;have hz4:=k4.size;refine aM (fun g1=>?_) (fun g1=>?_)
 ·have F:i<x.ai.length:=ad
  obtain ⟨a,rfl,hc⟩:=(v.an Y aj).cells i F;have Z:x.ai.take (i+1)=x.ai.take i++[x.ai[i]]:=Yw F;have hsz:=hs x.ai[i] (YD F);generalize x.ai[i]=t at hc Z hsz;have hw:=gu i;refine ax ⟨ad,ad⟩ (av rfl ?_);rw [show Int.toNat (i:Int)=i from ad];refine ay (t.1,(t.2:Int),()) hc (ak ?_);refine br ?_;intro h5 b5 e5 z5;refine aw b5 rfl aj ?_;intro h6 b6 k6 z6;have b6:bI h6 h4.size 117 [.string t.1,.int .u32 (t.2:Int)]:=b6;have G:Ext h4 h6:=bQ e5 k6;have m6:=m4.an G aj;have e06:=Y.trans G;have hz6:=G.size;refine af b6 (t.1,()) rfl (ak ?_);have u:((x.ai.take (i+1)).flatMap (rF of)).foldl ja []=(rF of t).foldl ja (((x.ai.take i).flatMap (rF of)).foldl ja []):=by
   rw [Z,Z2,Zk]
   simp
  have O:(x.ai.take (i+1)).foldl (gg of) x.num=gg of ((x.ai.take i).foldl (gg of) x.num) t:=by
   rw [Z,Zk]; rfl
  generalize (x.ai.take i).foldl (gg of) x.num=nn at O ⊢;generalize ((x.ai.take i).flatMap (rF of)).foldl ja []=D' at u m6 ⊢;refine AV (m.map.an e06 aj) t.1 (fun y U=>?_) (fun hy0=>?_)
  ·have V:of t.1=some y.x:=by rw [X,U]; rfl
   refine br ?_;intro h7 b7 e7 z7;refine aw b7 rfl aj ?_;intro h8 b8 k8 z8;have b8:bI h8 h6.size 69 [.slice y.p y.l y.c,.int .u32 (y.x.num:Int)]:=b8;have d:Ext h6 h8:=bQ e7 k8;refine bG rfl ?_;refine af b8 ((y.p,y.l,y.c),()) rfl (ak ?_);have hh2:h2.size=h.size+2:=ad
   refine Q5 (q:=t.2) (nm:=t.1) (us:=y.x.ai) rfl ((m.fq _ _ U).an (e06.trans d) aj) (hy _ _ U).1 (hy _ _ U).2 (m6.an d aj) (fun hne hb=>by have:=(m.fq _ _ U).U4 hne _ hb; omega) (b6.an d aj) ad ?_;intro J h9 m9 k9;have b69:=(b6.an d aj).an k9 (by simp; omega);have b89:=b8.an k9 (by simp; omega);rw [aE];refine af b69 ((t.2:Int),()) rfl (ak ?_);rw [aE];refine af b89 ((y.x.num:Int),()) rfl (ak ?_);have hnn:IntKind.wrap .u32 ((nn:Int)+IntKind.wrap .u32 ((t.2:Int)*(y.x.num:Int)))=((gg of nn t:Nat):Int):=by
    unfold gg;rw [V];simp only;rw [dT,dT,iH,bb9,iH,Int.natCast_mul]
   refine aG (cs:=[(false,[.int .u32]),(false,[.int .i64])]) (((gg of nn t:Nat):Int),((i+1:Nat):Int),()) (x.ai.length-(i+1)) rfl ad (by rw [hnn,hw]; rfl) ⟨i+1,rfl,ad,rfl,by rw [O],Ch.trans (Ch.trans (Ch.trans k4 G aj) d aj) k9 (fun j hj _=>hj),?_⟩;rw [u];unfold rF;rw [V];exact m9
  ·have V:of t.1=none:=by rw [X,hy0]; rfl
   refine br ?_;intro h7 b7 e7 z7;refine aw b7 rfl aj ?_;intro h8 b8 k8 z8;have d:Ext h6 h8:=bQ e7 k8;have b68:=b6.an d aj;refine bk rfl ?_;refine af b68 (t.1,()) rfl (ak ?_);refine pN (m6.an d aj) _ ?_;rw [aE];refine af b68 ((t.2:Int),()) rfl (ak ?_);refine Hm (n:=(dP D' t.1+t.2) % 4294967296) (m6.an d aj) hsz ?_ ?_
   ·rw [dT,iH,bb9]
   ·intro h9 m9 k9 z9;have hnn:gg of nn t=nn:=by unfold gg; rw [V]
    refine aG (cs:=[(false,[.int .u32]),(false,[.int .i64])]) ((nn:Int),((i+1:Nat):Int),()) (x.ai.length-(i+1)) rfl ad (by rw [hw]; rfl) ⟨i+1,rfl,ad,rfl,by rw [O,hnn],Ch.trans (Ch.trans (Ch.trans k4 G aj) d aj) k9 (fun j hj _=>hj),?_⟩;rw [u];unfold rF;rw [V];exact m9
 ·have hi:i=x.ai.length:=ad
  subst hi;rw [Y4] at m4 ⊢;have hD:((x.ai.flatMap (rF of)).foldl ja []).length<=2^40:=by
   have:=vh (x.ai.flatMap (rF of)) []
   simp only [List.length_nil,Nat.zero_add] at this;omega
  refine M1 (lv:=1) rfl m4 hD _ (b23.an k4 (by simp; omega)) ?_;intro p' l' c' h9 s9 k9;exact ⟨⟨p',l',c',rfl,s9.mono ad⟩,bQ Y k9⟩
structure TS where
 num:Xaa->Option Nat
 jH:Nat
 low:Xaa->Option Nat
 on:Xaa->Option Bool
 back:Xaa->Option Bool
 cZ:List Xaa
def eH (v:Xaa) (st:TS):TS:={ st with num:=dH st.num v (st.jH+1),jH:=st.jH+1,low:=dH st.low v (st.jH+1),cZ:=st.cZ++[v],on:=dH st.on v true }
def fw (v w:Xaa) (st:TS):TS:=if w=v then { st with back:=dH st.back v true } else st
def Kj (v:Xaa) (n:Nat) (st:TS):TS:={ st with low:=dH st.low v (min ((st.low v).getD 0) n) }
def tE (mT:Xaa->TS->TS) (v w:Xaa) (st:TS):TS :=
 if (st.num w).getD 0=0 then Kj v (((mT w st).low w).getD 0) (mT w st)
 else if (st.on w).getD false=true then Kj v ((st.num w).getD 0) st
 else st
def eG (own:Xaa->Bool) (mT:Xaa->TS->TS) (v:Xaa) (st:TS) (w:Xaa):TS :=
 if own w=true then tE mT v w (fw v w st) else st
def pL (qh:Bool) (st:TS) (x:Xaa):TS:={ st with on:=dH st.on x false,back:=dH st.back x ((st.back x).getD false || qh) }
def rE (v:Xaa) (st:TS):Nat:=st.cZ.findIdx (fun x=>decide (v=x))
def rk (v:Xaa) (st:TS):TS:={ (st.cZ.drop (rE v st)).foldl (pL (decide (1<st.cZ.length-rE v st))) st with cZ:=st.cZ.take (rE v st) }
def cP (own:Xaa->Bool) (succ:Xaa->List Xaa):Nat->Xaa->TS->TS
 | 0,_,st=>st
 | f+1,v,st =>
  if (((succ v).foldl (eG own (cP own succ f) v) (eH v st)).low v).getD 0<(((succ v).foldl (eG own (cP own succ f) v) (eH v st)).num v).getD 0 then (succ v).foldl (eG own (cP own succ f) v) (eH v st)
  else rk v ((succ v).foldl (eG own (cP own succ f) v) (eH v st))
def Cn:TS:=⟨fun _=>none,0,fun _=>none,fun _=>none,fun _=>none,[]⟩
def wM (own:Xaa->Bool) (succ:Xaa->List Xaa) (f:Nat) (st:TS) (v:Xaa):TS:=if (st.num v).getD 0=0 then cP own succ f v st else st
def Gv (own:Xaa->Bool) (succ:Xaa->List Xaa) (names:List Xaa):TS:=names.foldl (wM own succ names.length) Cn
def qR (names:List Xaa) (st:TS):Nat:=(names.filter fun v=>(st.num v).isNone).length
structure dF (names:List Xaa) (st:TS):Prop where
 sum:st.jH+qR names st=names.length
 pos:∀ s n,st.num s=some n->1<=n
 cZ:st.cZ.length<=st.jH
 fq:∀ x,x∈st.cZ->st.num x≠Option.none
def dF.none {names:List Xaa} {st:TS} (g:dF names st) {w:Xaa} (h:(st.num w).getD 0=0):st.num w=Option.none:=by
 cases d:st.num w with
 | none=>rfl
 | some n =>
  rw [d] at h
  have:=g.pos w n d
  simp at h;omega
def Qd {names:List Xaa} (hn:names.Nodup) {v:Xaa} (hv:v∈names) {f:Xaa->Option Nat} (h0:f v=Option.none) (n:Nat):(names.filter fun s=>(dH f v n s).isNone).length+1=(names.filter fun s=>(f s).isNone).length:=by
 induction names with
 | nil=>simp at hv
 | cons x l j =>
  obtain ⟨hx,hn⟩:=Z4.1 hn
  by_cases e:x=v
  ·subst e;have hl:l.filter (fun s=>(dH f x n s).isNone)=l.filter (fun s=>(f s).isNone):=by
    refine List.filter_congr fun s hs=>?_
    rw [cg _ _ (fun k=>hx (by rw [<- k]; exact hs))]
   rw [List.filter_cons,List.filter_cons,cF,h0,hl]
   simp
  ·have d:v∈l:=by
    rcases YS.1 hv with h | h
    ·exact (e h.symm).elim
    ·exact h
   have:=j hn d
   rw [List.filter_cons,List.filter_cons,cg _ _ e];split
   ·simp only [List.length_cons]; omega
   ·exact this
def A' (qh:Bool) (l:List Xaa):∀ st:TS,(l.foldl (pL qh) st).num=st.num/\(l.foldl (pL qh) st).jH=st.jH/\(l.foldl (pL qh) st).low=st.low:=by
 induction l with
 | nil=>intro st; exact ⟨rfl,rfl,rfl⟩
 | cons x l d =>
  intro st;rw [Y6];exact d _
def oo (v:Xaa) (st:TS):(rk v st).num=st.num:=(A' _ _ _).1
def zB (v:Xaa) (st:TS):(rk v st).jH=st.jH:=(A' _ _ _).2.1
def Pk (v:Xaa) (st:TS):(rk v st).low=st.low:=(A' _ _ _).2.2
def wg (v:Xaa) (st:TS):(rk v st).cZ=st.cZ.take (rE v st):=rfl
def iv (v w:Xaa) (st:TS):(fw v w st).num=st.num/\(fw v w st).jH=st.jH/\(fw v w st).cZ=st.cZ/\(fw v w st).on=st.on/\(fw v w st).low=st.low:=by
 unfold fw;split <;> exact ⟨rfl,rfl,rfl,rfl,rfl⟩
def dF.self {names:List Xaa} {st:TS} (g:dF names st) (v w:Xaa):dF names (fw v w st):=by
 obtain ⟨h1,h2,h3,_⟩:=iv v w st;exact ⟨by unfold qR; rw [h1,h2]; exact g.sum,by rw [h1]; exact g.pos,by rw [h2,h3]; exact g.cZ,by rw [h1,h3]; exact g.fq⟩
def dF.low {names:List Xaa} {st:TS} (g:dF names st) (v:Xaa) (n:Nat):dF names (Kj v n st):=⟨g.sum,g.pos,g.cZ,g.fq⟩
def dF.open {names:List Xaa} (hn:names.Nodup) {st:TS} (g:dF names st) {v:Xaa} (hv:v∈names) (h0:st.num v=Option.none):dF names (eH v st)/\qR names (eH v st)+1=qR names st:=by
 have h1:qR names (eH v st)+1=qR names st:=Qd hn hv h0 _;refine ⟨⟨?_,fun s n hs=>?_,?_,fun x hx=>?_⟩,h1⟩
 ·have:=g.sum
  show st.jH+1+qR names (eH v st)=_;omega
 ·have hs:dH st.num v (st.jH+1) s=some n:=hs
  by_cases e:s=v
  ·subst e;rw [cF] at hs
   have:=YR hs
   omega
  ·rw [cg _ _ e] at hs;exact g.pos s n hs
 ·have:=g.cZ
  show (st.cZ++[v]).length<=st.jH+1
  simp; omega
 ·have hx:x∈st.cZ++[v]:=hx;show dH st.num v _ x≠Option.none
  by_cases e:x=v
  ·subst e; rw [cF]; simp
  ·rw [cg _ _ e];rcases YN.1 hx with h | h
   ·exact g.fq x h
   ·exact (e (YP.1 h)).elim
def dF.pop {names:List Xaa} {st:TS} (g:dF names st) (v:Xaa):dF names (rk v st) :=
 ⟨by unfold qR; rw [oo,zB]; exact g.sum,by rw [oo]; exact g.pos,by rw [wg,zB,YQ]; have:=g.cZ; omega,fun x hx=>by rw [oo]; rw [wg] at hx; exact g.fq x (ZB hx)⟩
def Bp (names:List Xaa) (st d:TS):Prop:=dF names d/\(∀ s n,st.num s=some n->d.num s=some n)/\st.cZ <+: d.cZ
def Bp.qR {names:List Xaa} {st d:TS} (h:Bp names st d):qR names d<=qR names st:=by
 unfold Sx.qR;rw [<- List.countP_eq_length_filter,<- List.countP_eq_length_filter];refine List.countP_mono_left fun x hx h'=>?_
 cases j:st.num x with
 | none=>rfl
 | some n=>rw [h.2.1 x n j] at h'; simp at h'
def Bp.trans {names:List Xaa} {a b c:TS} (h:Bp names a b) (k:Bp names b c):Bp names a c:=⟨k.1,fun s n hs=>k.2.1 s n (h.2.1 s n hs),h.2.2.trans k.2.2⟩
def Bp.refl {names:List Xaa} {a:TS} (h:dF names a):Bp names a a:=⟨h,fun s n hs=>hs,List.prefix_refl _⟩
def N1 {names:List Xaa} {mT:Xaa->TS->TS} {f:Nat} (d:∀ w st,dF names st->w∈names->st.num w=Option.none->Sx.qR names st<=f->Bp names st (mT w st)) {v w:Xaa} {st:TS} (g:dF names st) (hw:w∈names) (hu:Sx.qR names st<=f):Bp names st (tE mT v w st):=by
 unfold tE;split
 ·rename_i h0;have h:=d w st g hw (g.none h0) hu;exact ⟨h.1.low v _,h.2.1,h.2.2⟩
 ·split
  ·exact ⟨g.low v _,fun s n hs=>hs,List.prefix_refl _⟩
  ·exact Bp.refl g
def Fh {names:List Xaa} {own:Xaa->Bool} (hown:∀ s,own s=true->s∈names) {mT:Xaa->TS->TS} {f:Nat} (d:∀ w st,dF names st->w∈names->st.num w=Option.none->Sx.qR names st<=f->Bp names st (mT w st)) {v w:Xaa} {st:TS} (g:dF names st) (hu:Sx.qR names st<=f):Bp names st (eG own mT v st w):=by
 unfold eG;split
 ·rename_i j;have h1:Bp names st (fw v w st):=⟨g.self v w,fun s n hs=>by rw [(iv v w st).1]; exact hs,by rw [(iv v w st).2.2.1]; exact List.prefix_refl _⟩
  exact h1.trans (N1 d (g.self v w) (hown w j) (Zq h1.qR hu))
 ·exact Bp.refl g
theorem AI {names:List Xaa} {own:Xaa->Bool} (hown:∀ s,own s=true->s∈names) {mT:Xaa->TS->TS} {f:Nat} (d:∀ w st,dF names st->w∈names->st.num w=Option.none->Sx.qR names st<=f->Bp names st (mT w st)) (v:Xaa):∀ (l:List Xaa) (st:TS),dF names st->Sx.qR names st<=f->Bp names st (l.foldl (eG own mT v) st)
 | [],st,g,hu=>Bp.refl g
 | w::l,st,g,hu=>by
  have h1:=Fh hown d (v:=v) (w:=w) g hu;rw [Y6];exact h1.trans (AI hown d v l _ h1.1 (Zq h1.qR hu))
def H' {a b:List Xaa} {v:Xaa} (h:a++[v] <+: b) (hv:v∉a) {st:TS} (hs:st.cZ=b):rE v st=a.length/\b.take a.length=a/\a.length<b.length:=by
 obtain ⟨t,rfl⟩:=h;unfold rE;rw [hs];refine ⟨?_,aj,aj⟩;rw [YV,List.findIdx_append,Yx ?_]
 ·simp [List.findIdx_cons]
 ·rw [List.findIdx_lt_length];rintro ⟨x,hx,e⟩;exact hv (by rw [Yz e]; exact hx)
def dF.WL {names:List Xaa} {st:TS} (g:dF names st) {v:Xaa} (h0:st.num v=Option.none):v∉st.cZ:=fun hv=>g.fq v hv h0
def NH {names:List Xaa} (hn:names.Nodup) {v:Xaa} {st:TS} (g:dF names st) (hv:v∈names) (h0:st.num v=Option.none):Bp names st (eH v st) :=
 ⟨(g.open hn hv h0).1,fun s n hs=>by
   show dH st.num v _ s=some n;rw [cg _ _ (fun e=>by rw [e,h0] at hs; cases hs)];exact hs,⟨[v],rfl⟩⟩
theorem sR {names:List Xaa} (hn:names.Nodup) {own:Xaa->Bool} (hown:∀ s,own s=true->s∈names) (succ:Xaa->List Xaa):∀ (f:Nat) (v:Xaa) (st:TS),dF names st->v∈names->st.num v=Option.none->Sx.qR names st<=f->Bp names st (cP own succ f v st)
 | 0,v,st,g,hv,h0,hu=>Bp.refl g
 | f+1,v,st,g,hv,h0,hu=>by
  obtain ⟨g1,d⟩:=g.open hn hv h0;have h2:=AI hown (sR hn hown succ f) v (succ v) _ g1 ad;have h3:=(NH hn g hv h0).trans h2;unfold cP;split
  ·exact h3
  ·refine ⟨h3.1.pop v,fun s n hs=>by rw [oo]; exact h3.2.1 s n hs,?_⟩;obtain ⟨e1,e2,_⟩:=H' (a:=st.cZ) (v:=v) h2.2.2 (g.WL h0) rfl;rw [wg,e1,e2];exact List.prefix_refl _
def K2 {names:List Xaa} (hn:names.Nodup) {own:Xaa->Bool} (hown:∀ s,own s=true->s∈names) (succ:Xaa->List Xaa) {f:Nat} {v:Xaa} {st:TS} (g:dF names st) (hv:v∈names) (h0:st.num v=Option.none) (hu:Sx.qR names st<=f+1) (l:List Xaa) :
  dF names (l.foldl (eG own (cP own succ f) v) (eH v st))/\Sx.qR names (l.foldl (eG own (cP own succ f) v) (eH v st))<=f/\st.cZ++[v] <+: (l.foldl (eG own (cP own succ f) v) (eH v st)).cZ/\∃ n,(l.foldl (eG own (cP own succ f) v) (eH v st)).num v=some n:=by
 obtain ⟨g1,d⟩:=g.open hn hv h0;have h2:=AI hown (sR hn hown succ f) v l _ g1 ad;exact ⟨h2.1,by have:=h2.qR; omega,h2.2.2,_,h2.2.1 v (st.jH+1) (cF _ _ _)⟩
def V' (names:List Xaa):dF names Cn:=⟨by unfold qR Cn; simp,fun s n hs=>(by cases hs),by simp [Cn],by simp [Cn]⟩
section
variable {E:Xaa->Xaa->Prop}
inductive pU (E:Xaa->Xaa->Prop):Xaa->Xaa->Prop
 | refl (a:Xaa):pU E a a
 | head {a b c:Xaa}:E a b->pU E b c->pU E a c
def pU.trans {a b c:Xaa} (h:pU E a b) (k:pU E b c):pU E a c:=by
 induction h with
 | refl=>exact k
 | head e _ d=>exact .head e (d k)
def pU.one {a b:Xaa} (h:E a b):pU E a b:=.head h (.refl b)
def kB (E:Xaa->Xaa->Prop) (v:Xaa):Prop:=∃ y,E v y/\pU E y v
def kB.of {a b:Xaa} (h:pU E a b) (k:pU E b a) (d:a≠b):kB E a:=by
 cases h with
 | refl=>exact (d rfl).elim
 | head e r=>exact ⟨_,e,r.trans k⟩
structure Inv (E:Xaa->Xaa->Prop) (G:List Xaa) (st:TS):Prop where
 le:∀ s n,st.num s=some n->1<=n/\n<=st.jH
 cZ:∀ x,x∈st.cZ->st.num x≠none
 on:∀ x,(st.on x).getD false=true↔x∈st.cZ
 gr:∀ g,g∈G->g∈st.cZ
 cl:∀ x,st.num x≠none->x∉st.cZ->∀ y,E x y->st.num y≠none/\y∉st.cZ
 bl:∀ x,st.num x≠none->x∉G->∀ y,E x y->st.num y≠none
 rg:∀ x,x∈st.cZ->∃ g,g∈G/\pU E x g
 b0:∀ x,st.num x=none->(st.back x).getD false=false
 bc:∀ x,st.num x≠none->x∉st.cZ->((st.back x).getD false=true↔kB E x)
 bw:∀ x,x∈st.cZ->(st.back x).getD false=true->E x x
 bb:∀ x,x∈st.cZ->x∉G->E x x->(st.back x).getD false=true
def Inv.low {G:List Xaa} {st:TS} (i:Inv E G st) (v:Xaa) (n:Nat):Inv E G (Kj v n st):=⟨i.le,i.cZ,i.on,i.gr,i.cl,i.bl,i.rg,i.b0,i.bc,i.bw,i.bb⟩
def Inv.Uk {G:List Xaa} {st:TS} (i:Inv E G st) {x y:Xaa} (h:pU E x y):st.num x≠none->x∉st.cZ->st.num y≠none/\y∉st.cZ:=by
 induction h with
 | refl=>exact fun h k=>⟨h,k⟩
 | head e _ d=>intro h k; obtain ⟨h2,j⟩:=i.cl _ h k _ e; exact d h2 j
def Inv.self {G:List Xaa} {st:TS} (i:Inv E G st) {v w:Xaa} (hv:v∈G) (J:w=v->E v v):Inv E G (fw v w st):=by
 unfold fw;split
 ·rename_i h;have hw:=i.gr v hv;have hn:=i.cZ v hw;refine ⟨i.le,i.cZ,i.on,i.gr,i.cl,i.bl,i.rg,fun x hx=>?_,fun x hx j=>?_,fun x hx u=>?_,fun x hx F O=>?_⟩
  ·have d:x≠v:=fun e=>hn (by rw [<- e]; exact hx)
   show (dH st.back v true x).getD false=false;rw [cg _ _ d]; exact i.b0 x hx
  ·have d:x≠v:=fun e=>j (by rw [e]; exact hw)
   show (dH st.back v true x).getD false=true↔_;rw [cg _ _ d]; exact i.bc x hx j
  ·by_cases e:x=v
   ·subst e; exact J h
   ·have u:(dH st.back v true x).getD false=true:=u;rw [cg _ _ e] at u; exact i.bw x hx u
  ·have d:x≠v:=fun e=>F (by rw [e]; exact hv)
   show (dH st.back v true x).getD false=true;rw [cg _ _ d]; exact i.bb x hx F O
 ·exact i
def Inv.open {G:List Xaa} {st:TS} (i:Inv E G st) {v:Xaa} (h0:st.num v=none):Inv E (v::G) (eH v st):=by
 have hw:v∉st.cZ:=fun h=>i.cZ v h h0
 have d:∀ {x},x≠v->(eH v st).num x=st.num x:=fun h=>cg _ _ h
 have mono:∀ {x},st.num x≠none->(eH v st).num x≠none:=by
  intro x h;rw [d (fun e=>h (by rw [e]; exact h0))]; exact h
 refine ⟨fun s n hs=>?_,fun x hx=>?_,fun x=>?_,fun g F=>?_,fun x hx j y U=>?_,fun x hx O y U=>?_,fun x hx=>?_,fun x hx=>?_,fun x hx j=>?_,fun x hx J=>?_,fun x hx F V=>?_⟩
 ·show 1<=n/\n<=st.jH+1
  by_cases e:s=v
  ·subst e;have hs:dH st.num s (st.jH+1) s=some n:=hs;rw [cF] at hs
   have:=YR hs
   omega
  ·rw [d e] at hs
   have:=i.le s n hs
   omega
 ·rcases YN.1 (show x∈st.cZ++[v] from hx) with h | h
  ·exact mono (i.cZ x h)
  ·rw [YP.1 h];show dH st.num v _ v≠none;rw [cF]; simp
 ·show (dH st.on v true x).getD false=true↔x∈st.cZ++[v]
  by_cases e:x=v
  ·subst e; rw [cF]; simp
  ·rw [cg _ _ e,i.on x]; simp [e]
 ·show g∈st.cZ++[v];rcases YS.1 F with h | h
  ·simp [h]
  ·exact Y3 _ (i.gr g h)
 ·have j:x∉st.cZ++[v]:=j;have u:x≠v:=fun e=>j (by simp [e])
  rw [d u] at hx;obtain ⟨h1,h2⟩:=i.cl x hx (fun h=>j (Y3 _ h)) y U;refine ⟨mono h1,?_⟩;show y∉st.cZ++[v];intro h;rcases YN.1 h with h | h
  ·exact h2 h
  ·exact h1 (by rw [YP.1 h]; exact h0)
 ·have u:x≠v:=fun e=>O (by simp [e])
  rw [d u] at hx;exact mono (i.bl x hx (fun h=>O (YM _ h)) y U)
 ·rcases YN.1 (show x∈st.cZ++[v] from hx) with h | h
  ·obtain ⟨g,F,r⟩:=i.rg x h;exact ⟨g,YM _ F,r⟩
  ·rw [YP.1 h];exact ⟨v,aj,.refl v⟩
 ·have u:x≠v:=by
   intro e;subst e;have hx:dH st.num x _ x=none:=hx;rw [cF] at hx; cases hx
  rw [d u] at hx;exact i.b0 x hx
 ·have j:x∉st.cZ++[v]:=j;have u:x≠v:=fun e=>j (by simp [e])
  rw [d u] at hx;exact i.bc x hx (fun h=>j (Y3 _ h))
 ·rcases YN.1 (show x∈st.cZ++[v] from hx) with h | h
  ·exact i.bw x h J
  ·rw [YP.1 h] at J;have J:(st.back v).getD false=true:=J;rw [i.b0 v h0] at J; cases J
 ·have u:x≠v:=fun e=>F (by simp [e])
  rcases YN.1 (show x∈st.cZ++[v] from hx) with h | h
  ·exact i.bb x h (fun k=>F (YM _ k)) V
  ·exact (u (YP.1 h)).elim
def uJ (st:TS) (v:Xaa):Nat:=(st.low v).getD 0
def sK (st:TS) (v:Xaa):Nat:=(st.num v).getD 0
def SY (s0 st:TS):Prop:=∀ s,s0.num s≠none->st.num s=s0.num s/\st.low s=s0.low s/\st.back s=s0.back s
def Wy (s0 st:TS):Prop:=∀ s n,s0.num s=none->st.num s=some n->s0.jH<n
def T9 (E:Xaa->Xaa->Prop) (v:Xaa) (s0 st:TS) (x:Xaa):Prop:=s0.num x=none/\pU E v x/\∀ y,E x y->y∈s0.cZ->uJ st v<=sK st y
structure oy (E:Xaa->Xaa->Prop) (G:List Xaa) (v:Xaa) (s0 st:TS):Prop where
 inv:Inv E G st
 old:SY s0 st
 jH:s0.jH<=st.jH
 new:Wy s0 st
 num:∃ n,st.num v=some n
 cZ:∃ X,st.cZ=s0.cZ++X/\∀ x,x∈X->T9 E v s0 st x
 low:uJ st v<sK st v->∃ y,y∈s0.cZ/\pU E v y/\st.num y=some (uJ st v)
structure Gx (E:Xaa->Xaa->Prop) (own:Xaa->Bool) (G:List Xaa) (v:Xaa) (P:List Xaa) (s0 st:TS):Prop where
 inv:Inv E (v::G) st
 old:SY s0 st
 jH:s0.jH<=st.jH
 new:Wy s0 st
 num:st.num v=some (s0.jH+1)
 cZ:∃ X,st.cZ=s0.cZ++v::X/\∀ x,x∈X->x≠v/\T9 E v s0 st x
 low:uJ st v<s0.jH+1->∃ y,y∈s0.cZ/\pU E v y/\st.num y=some (uJ st v)
 mT:∀ w,w∈P->own w=true->st.num w≠none/\(w∈s0.cZ->uJ st v<=sK st w)/\(w=v->(st.back v).getD false=true)
def Gx.start {own:Xaa->Bool} {G:List Xaa} {v:Xaa} {s0:TS} (i:Inv E G s0) (h0:s0.num v=none):Gx E own G v [] s0 (eH v s0):=by
 refine ⟨i.open h0,fun s hs=>?_,Nat.le_succ _,fun s n hs hn=>?_,cF _ _ _,⟨[],rfl,fun x hx=>by simp at hx⟩,fun hl=>?_,fun w hw=>by simp at hw⟩
 ·have d:s≠v:=fun e=>hs (by rw [e]; exact h0)
  exact ⟨cg _ _ d,cg _ _ d,rfl⟩
 ·by_cases e:s=v
  ·subst e;have hn:dH s0.num s (s0.jH+1) s=some n:=hn;rw [cF] at hn
   have:=YR hn
   omega
  ·have hn:dH s0.num v (s0.jH+1) s=some n:=hn;rw [cg _ _ e,hs] at hn; cases hn
 ·have hl:(dH s0.low v (s0.jH+1) v).getD 0<s0.jH+1:=hl;rw [cF] at hl;simp at hl
def Gx.self {own:Xaa->Bool} {G:List Xaa} {v w:Xaa} {P:List Xaa} {s0 st:TS} (m:Gx E own G v P s0 st) (h0:s0.num v=none) (V:w=v->E v v) :
  Gx E own G v P s0 (fw v w st)/\(w=v->((fw v w st).back v).getD false=true):=by
 obtain ⟨d,Y,Z,k4,F⟩:=iv v w st;have hb:∀ s,s≠v->(fw v w st).back s=st.back s:=by
  intro s hs;unfold fw;split
  ·exact cg _ _ hs
  ·rfl
 have J:w=v->((fw v w st).back v).getD false=true:=by
  intro e;unfold fw;rw [YC e];show (dH st.back v true v).getD false=true;rw [cF]; rfl
 have j:(st.back v).getD false=true->((fw v w st).back v).getD false=true:=by
  intro h;unfold fw;split
  ·show (dH st.back v true v).getD false=true;rw [cF]; rfl
  ·exact h
 refine ⟨⟨m.inv.self aj V,fun s hs=>?_,by rw [Y]; exact m.jH,fun s n hs hn=>by rw [d] at hn; exact m.new s n hs hn,by rw [d]; exact m.num,?_,?_,fun u hu ho=>?_⟩,J⟩
 ·have O:s≠v:=fun e=>hs (by rw [e]; exact h0)
  rw [d,F,hb s O];exact m.old s hs
 ·obtain ⟨X,hX,hx⟩:=m.cZ;refine ⟨X,by rw [Z]; exact hX,fun x U=>?_⟩
  have:=hx x U
  unfold T9 uJ sK at *;rw [d,F];exact this
 ·unfold uJ;rw [d,F];exact m.low
 ·obtain ⟨a,b,c⟩:=m.mT u hu ho;unfold uJ sK at *;rw [d,F];exact ⟨a,b,fun e=>j (c e)⟩
def px (v:Xaa) (n:Nat) (st:TS):uJ (Kj v n st) v=min (uJ st v) n:=by
 unfold uJ;show (dH st.low v _ v).getD 0=_;rw [cF]; rfl
def Gx.rest {own:Xaa->Bool} {G:List Xaa} {v w:Xaa} {P:List Xaa} {s0 st:TS} {mT:Xaa->TS->TS} (i0:Inv E G s0) (m:Gx E own G v P s0 st) (h0:s0.num v=none) (hG:∀ g,g∈G->pU E g v) (he:E v w)
  (hb:w=v->(st.back v).getD false=true) (hz:(st.num w).getD 0=0->st.num w=none) (hvis:st.num w=none->(∀ g,g∈v::G->pU E g w)->oy E (v::G) w st (mT w st)) :
  Gx E own G v (P++[w]) s0 (tE mT v w st):=by
 obtain ⟨X,hX,hx⟩:=m.cZ;have hv:st.num v≠none:=by rw [m.num]; simp
 have Z:∀ s,s0.num s≠none->st.num s≠none:=fun s hs=>by rw [(m.old s hs).1]; exact hs
 have F:∀ y,y∈s0.cZ->y∈st.cZ:=fun y O=>by rw [hX]; exact Y3 _ O
 unfold tE;split
 ·rename_i hw0;have hw:=hz hw0;have hwv:w≠v:=fun e=>hv (by rw [<- e]; exact hw)
  have p:=hvis hw (fun g hg=>by
   rcases YS.1 hg with h | h
   ·rw [h]; exact .one he
   ·exact (hG g h).trans (.one he))
  generalize mT w st=j at p ⊢;show Gx E own G v (P++[w]) s0 (Kj v (uJ j w) j);obtain ⟨X2,hX2,hx2⟩:=p.cZ;have J:uJ j v=uJ st v:=by unfold uJ; rw [(p.old v hv).2.1]
  have V:j.num v=some (s0.jH+1):=by rw [(p.old v hv).1]; exact m.num
  refine ⟨p.inv.low v _,fun s hs=>?_,Zq m.jH p.jH,fun s n hs hn=>?_,V,⟨X++X2,?_,fun x hxX=>?_⟩,fun hl=>?_,fun u hu ho=>?_⟩
  ·have hne:s≠v:=fun e=>hs (by rw [e]; exact h0)
   obtain ⟨a,b,c⟩:=m.old s hs;obtain ⟨a2,b2,c2⟩:=p.old s (Z s hs);refine ⟨a2.trans a,?_,c2.trans c⟩;show dH j.low v _ s=_;rw [cg _ _ hne];exact b2.trans b
  ·by_cases h1:st.num s=none
   ·have:=p.new s n h1 hn
    have:=m.jH
    omega
   ·have hn:j.num s=some n:=hn;rw [(p.old s h1).1] at hn;exact m.new s n hs hn
  ·show j.cZ=_;rw [hX2,hX,YV,ae9]
  ·rcases YN.1 hxX with h | h
   ·obtain ⟨a,b,c,d⟩:=hx x h;refine ⟨a,b,c,fun y O U=>?_⟩;rw [px,J]
    have:=d y O U
    have e:sK j y=sK st y:=by unfold sK; rw [(p.old y (m.inv.cZ y (F y U))).1]
    show _<=sK j y;omega
   ·obtain ⟨b,c,d⟩:=hx2 x h;refine ⟨fun e=>hv (by rw [<- e]; exact b),?_,pU.head he c,fun y O U=>?_⟩
    ·apply an9;intro k;exact Z x k b
    ·rw [px]
     have:=d y O (F y U)
     show _<=sK j y;omega
  ·rw [px,J] at hl ⊢;show ∃ y,y∈s0.cZ/\pU E v y/\j.num y=_
   by_cases hc:uJ st v<=uJ j w
   ·rw [Zz hc] at hl ⊢;obtain ⟨y,O,hr,hn⟩:=m.low hl;exact ⟨y,O,hr,by rw [(p.old y (m.inv.cZ y (F y O))).1]; exact hn⟩
   ·rw [Nat.min_eq_right ad] at hl ⊢;obtain ⟨n,hn⟩:=p.num;have h2:=p.new w n hw hn;have h3:=m.jH;obtain ⟨y,O,hr,Y⟩:=p.low (by unfold sK; rw [hn]; simp; omega);refine ⟨y,?_,pU.head he hr,Y⟩;rw [hX] at O;rcases YN.1 O with h | h
    ·exact h
    ·rcases YS.1 h with h | h
     ·rw [h,V] at Y
      have:=YR Y
      omega
     ·have hyst:st.num y≠none:=m.inv.cZ y (by rw [hX]; exact Y8 _ (YM _ h));rw [(p.old y hyst).1] at Y
      have:=m.new y _ (hx y h).2.1 Y
      omega
  ·rw [px,J];rcases YN.1 hu with h | h
   ·obtain ⟨a,b,c⟩:=m.mT u h ho;have hn:j.num u=st.num u:=(p.old u a).1;refine ⟨by show j.num u≠none; rw [hn]; exact a,fun k=>?_,fun k=>?_⟩
    ·have:=b k
     have e:sK j u=sK st u:=by unfold sK; rw [hn]
     show _<=sK j u;omega
    ·show (j.back v).getD false=true;rw [(p.old v hv).2.2];exact c k
   ·have h:=YP.1 h;subst h;obtain ⟨n,hn⟩:=p.num;exact ⟨by show j.num u≠none; rw [hn]; simp,fun k=>(m.inv.cZ u (F u k) hw).elim,fun k=>(hwv k).elim⟩
 ·rename_i hw0;have hw:st.num w≠none:=fun e=>hw0 (by rw [e]; rfl)
  obtain ⟨n,hn⟩:=Option.ne_none_iff_exists'.1 hw;split
  ·rename_i hon;have hwy:=(m.inv.on w).1 hon;have hnn:(st.num w).getD 0=n:=by rw [hn]; rfl
   rw [hnn];refine ⟨m.inv.low v _,fun s hs=>?_,m.jH,m.new,m.num,⟨X,hX,fun x hxX=>?_⟩,fun hl=>?_,fun u hu ho=>?_⟩
   ·have hne:s≠v:=fun e=>hs (by rw [e]; exact h0)
    obtain ⟨a,b,c⟩:=m.old s hs;refine ⟨a,?_,c⟩;show dH st.low v _ s=_;rw [cg _ _ hne];exact b
   ·obtain ⟨a,b,c,d⟩:=hx x hxX;refine ⟨a,b,c,fun y O U=>?_⟩;rw [px]
    have:=d y O U
    show _<=sK st y;omega
   ·rw [px] at hl ⊢;show ∃ y,y∈s0.cZ/\pU E v y/\st.num y=_
    by_cases hc:uJ st v<=n
    ·rw [Zz hc] at hl ⊢;exact m.low hl
    ·rw [Nat.min_eq_right ad] at hl ⊢;refine ⟨w,?_,.one he,hn⟩;rw [hX] at hwy;rcases YN.1 hwy with h | h
     ·exact h
     ·rcases YS.1 h with h | h
      ·rw [h,m.num] at hn
       have:=YR hn
       omega
      ·have:=m.new w _ (hx w h).2.1 hn
       omega
   ·rw [px];rcases YN.1 hu with h | h
    ·obtain ⟨a,b,c⟩:=m.mT u h ho;refine ⟨a,fun k=>?_,c⟩
     have:=b k
     show _<=sK st u;omega
    ·have h:=YP.1 h;subst h;refine ⟨hw,fun k=>?_,hb⟩;show _<=(st.num u).getD 0;rw [hnn];omega
  ·rename_i hon;refine ⟨m.inv,m.old,m.jH,m.new,m.num,m.cZ,m.low,fun u hu ho=>?_⟩;rcases YN.1 hu with h | h
   ·exact m.mT u h ho
   ·have h:=YP.1 h;subst h;exact ⟨hw,fun k=>(hon ((m.inv.on u).2 (F u k))).elim,hb⟩
def Gx.U1 {own:Xaa->Bool} {succ:Xaa->List Xaa} {G:List Xaa} {v:Xaa} {s0 st:TS} (hE:∀ a b,E a b↔b∈succ a/\own b=true) (i0:Inv E G s0) (m:Gx E own G v (succ v) s0 st) (hl:uJ st v<sK st v):oy E G v s0 st:=by
 obtain ⟨X,hX,hx⟩:=m.cZ;have hnv:sK st v=s0.jH+1:=by unfold sK; rw [m.num]; rfl
 have i:=m.inv;have hvw:v∈st.cZ:=i.gr v aj;have mT:∀ y,E v y->st.num y≠none/\(y∈s0.cZ->uJ st v<=sK st y)/\(y=v->(st.back v).getD false=true):=fun y d=>m.mT y ((hE v y).1 d).1 ((hE v y).1 d).2
 obtain ⟨y0,F,J,U⟩:=m.low ad;obtain ⟨g0,V,Y⟩:=i0.rg y0 F;refine ⟨⟨i.le,i.cZ,i.on,fun g Z=>i.gr g (YM _ Z),i.cl,fun x hx1 j y d=>?_,fun x u=>?_,i.b0,i.bc,i.bw,fun x u j O=>?_⟩,m.old,m.jH,m.new,⟨_,m.num⟩,⟨v::X,hX,fun x hxX=>?_⟩,fun _=>⟨y0,F,J,U⟩⟩
 ·by_cases e:x=v
  ·subst e; exact (mT y d).1
  ·exact i.bl x hx1 (by simp [e,j]) y d
 ·obtain ⟨g,Z,r⟩:=i.rg x u;rcases YS.1 Z with h | h
  ·rw [h] at r;exact ⟨g0,V,(r.trans J).trans Y⟩
  ·exact ⟨g,h,r⟩
 ·by_cases e:x=v
  ·subst e; exact (mT x O).2.2 rfl
  ·exact i.bb x u (by simp [e,j]) O
 ·rcases YS.1 hxX with h | h
  ·subst h;refine ⟨?_,.refl x,fun y d hyw=>(mT y d).2.1 hyw⟩;cases hh:s0.num x with
   | none=>rfl
   | some n =>
    have h1:=(m.old x (by rw [hh]; simp)).1;rw [hh,m.num] at h1
    have:=YR h1
    have:=(i0.le x n hh).2
    omega
  ·exact (hx x h).2
open Classical in
def Uc (qh:Bool) (x:Xaa) (l:List Xaa):∀ st:TS,((l.foldl (pL qh) st).on x).getD false=(if x∈l then false else (st.on x).getD false)/\((l.foldl (pL qh) st).back x).getD false=(if x∈l then ((st.back x).getD false || qh) else (st.back x).getD false)/\(x∉l->(l.foldl (pL qh) st).back x=st.back x):=by
 induction l with
 | nil=>intro st; simp
 | cons y l d =>
  intro st;rw [Y6];obtain ⟨a,b,c⟩:=d (pL qh st y);rw [a,b]
  by_cases e:x=y
  ·subst e;have e1:((pL qh st x).on x)=some false:=cF _ _ _;have e2:((pL qh st x).back x)=some ((st.back x).getD false || qh):=cF _ _ _;rw [e1,e2];refine ⟨aj,by by_cases hm:x∈l <;> simp [hm],fun h=>(h aj).elim⟩
  ·have e1:((pL qh st y).on x)=st.on x:=cg _ _ e;have e2:((pL qh st y).back x)=st.back x:=cg _ _ e;rw [e1,e2];refine ⟨by simp [e],by simp [e],fun h=>?_⟩;rw [c (fun k=>h (YM _ k)),e2]
open Classical in
def Gx.Vq {own:Xaa->Bool} {succ:Xaa->List Xaa} {G:List Xaa} {v:Xaa} {s0 st:TS} (hE:∀ a b,E a b↔b∈succ a/\own b=true) (i0:Inv E G s0) (m:Gx E own G v (succ v) s0 st) (h0:s0.num v=none) (hG:∀ g,g∈G->pU E g v) (hl:¬ uJ st v<sK st v):oy E G v s0 (rk v st):=by
 obtain ⟨X,hX,hx⟩:=m.cZ;have hnv:sK st v=s0.jH+1:=by unfold sK; rw [m.num]; rfl
 have i:=m.inv;have hvw:v∈st.cZ:=i.gr v aj;have mT:∀ y,E v y->st.num y≠none/\(y∈s0.cZ->uJ st v<=sK st y)/\(y=v->(st.back v).getD false=true):=fun y V=>m.mT y ((hE v y).1 V).1 ((hE v y).1 V).2
 have ec:v∉s0.cZ:=fun h=>i0.cZ v h h0
 obtain ⟨e1,e2,e3⟩:=H' (a:=s0.cZ) (v:=v) (b:=st.cZ) ⟨X,by rw [hX]; simp⟩ ec rfl;have U:st.cZ.drop (rE v st)=v::X:=by rw [e1,hX]; simp
 have hbig:decide (1<st.cZ.length-rE v st)=decide (1<(v::X).length):=by rw [<- U,Zl]
 have J:(rk v st).cZ=s0.cZ:=by rw [wg,e1,e2]
 have F:=oo v st;have hlow:=Pk v st;have hcnt:=zB v st;have hoff:=fun x=>Uc (decide (1<(v::X).length)) x (v::X) st
 have hon:∀ x,((rk v st).on x).getD false=(if x∈v::X then false else (st.on x).getD false):=by
  intro x;rw [<- (hoff x).1];unfold rk;rw [U,hbig]
 have hbk:∀ x,((rk v st).back x).getD false=(if x∈v::X then ((st.back x).getD false || decide (1<(v::X).length)) else (st.back x).getD false):=by
  intro x;rw [<- (hoff x).2.1];unfold rk;rw [U,hbig]
 have hbo:∀ x,x∉v::X->(rk v st).back x=st.back x:=by
  intro x hh;rw [<- (hoff x).2.2 hh];unfold rk;rw [U,hbig]
 have hnew:∀ x,x∈v::X->s0.num x=none:=by
  intro x h;rcases YS.1 h with h | h
  ·rw [h]; exact h0
  ·exact (hx x h).2.1
 have hdis:∀ x,x∈s0.cZ->x∉v::X:=fun x h k=>i0.cZ x h (hnew x k)
 have j:∀ x,x∈st.cZ↔x∈s0.cZ\/x∈v::X:=fun x=>by rw [hX]; exact YN
 have Z:∀ y,y∈s0.cZ->¬ uJ st v<=sK st y:=by
  intro y V;obtain ⟨n,hn⟩:=Option.ne_none_iff_exists'.1 (i0.cZ y V)
  have:=(i0.le y n hn).2
  have e:sK st y=n:=by unfold sK; rw [(m.old y (i0.cZ y V)).1,hn]; rfl
  omega
 have hblk:∀ x,st.num x≠none->x∉G->∀ y,E x y->st.num y≠none:=by
  intro x O Y y V
  by_cases e:x=v
  ·subst e; exact (mT y V).1
  ·exact i.bl x O (by simp [e,Y]) y V
 have hrv:∀ x,x∈st.cZ->pU E x v:=by
  intro x h;obtain ⟨g,hg,r⟩:=i.rg x h;rcases YS.1 hg with h | h
  ·rw [h] at r; exact r
  ·exact r.trans (hG g h)
 refine ⟨⟨fun s n hs=>?_,fun x d=>?_,fun x=>?_,fun g hg=>?_,fun x O d y V=>?_,fun x O Y y V=>?_,fun x d=>?_,fun x hx0=>?_,fun x O d=>?_,fun x d hb=>?_,fun x d Y hxx=>?_⟩,fun s hs=>?_,by rw [hcnt]; exact m.jH,fun s n hs hn=>by rw [F] at hn; exact m.new s n hs hn,⟨_,by rw [F]; exact m.num⟩,⟨[],by rw [J]; simp,fun x hxX=>by simp at hxX⟩,fun Z=>?_⟩
 ·rw [F] at hs; rw [hcnt]; exact i.le s n hs
 ·rw [F]; rw [J] at d; exact i.cZ x ((j x).2 (.inl d))
 ·rw [hon,J]
  by_cases h:x∈v::X
  ·rw [YC h];exact ⟨fun k=>(by cases k),fun k=>(hdis x k h).elim⟩
  ·rw [Yx h,i.on x,j];exact ⟨fun k=>k.resolve_right h,.inl⟩
 ·rw [J]; exact i0.gr g hg
 ·rw [F] at O ⊢;rw [J] at d ⊢
  by_cases h:x∈v::X
  ·have Y:x∉G:=fun k=>d (i0.gr x k)
   refine ⟨hblk x O Y y V,fun hys=>Z y hys ?_⟩;rcases YS.1 h with h | h
   ·subst h; exact (mT y V).2.1 hys
   ·exact (hx x h).2.2.2 y V hys
  ·obtain ⟨a,b⟩:=i.cl x O (fun k=>((j x).1 k).elim d h) y V;exact ⟨a,fun k=>b ((j y).2 (.inl k))⟩
 ·rw [F] at O ⊢;exact hblk x O Y y V
 ·rw [J] at d; exact i0.rg x d
 ·rw [F] at hx0;rw [hbk,Yx (fun k=>i.cZ x ((j x).2 (.inr k)) hx0)];exact i.b0 x hx0
 ·rw [F] at O;rw [J] at d;rw [hbk]
  by_cases h:x∈v::X
  ·rw [YC h]
   by_cases hb:1<(v::X).length
   ·rw [YA hb,Bool.or_true];refine ⟨fun _=>?_,fun _=>rfl⟩
    by_cases e:x=v
    ·subst e;obtain ⟨z,hz⟩:∃ z,z∈X:=by
      cases X with
      | nil=>simp at hb
      | cons z X=>exact ⟨z,aj⟩
     exact kB.of (hx z hz).2.2.1 (hrv z ((j z).2 (.inr (YM _ hz)))) (fun e=>(hx z hz).1 e.symm)
    ·have hxX:x∈X:=(YS.1 h).resolve_left e;exact kB.of (hrv x ((j x).2 (.inr h))) (hx x hxX).2.2.1 e
   ·rw [YB hb,Bool.or_false];have hX0:X=[]:=by
     cases X with
     | nil=>rfl
     | cons z X=>simp at hb
    subst hX0;have e:x=v:=by simpa using h
    subst e;refine ⟨fun k=>⟨x,i.bw x hvw k,.refl x⟩,?_⟩;rintro ⟨u,hu,r⟩;obtain ⟨a,b,c⟩:=mT u hu
    by_cases hus:u∈st.cZ
    ·rcases (j u).1 hus with k | k
     ·exact (Z u k (b k)).elim
     ·exact c (by simpa using k)
    ·exact ((i.Uk r a hus).2 hvw).elim
  ·rw [Yx h];exact i.bc x O (fun k=>((j x).1 k).elim d h)
 ·rw [J] at d;rw [hbk,Yx (hdis x d)] at hb;exact i.bw x ((j x).2 (.inl d)) hb
 ·rw [J] at d;rw [hbk,Yx (hdis x d)];exact i.bb x ((j x).2 (.inl d)) (fun k=>by
   rcases YS.1 k with k | k
   ·exact ec (by rw [<- k]; exact d)
   ·exact Y k) hxx
 ·have hns:s∉v::X:=fun k=>hs (hnew s k)
  rw [F,hlow,hbo s hns];exact m.old s hs
 ·unfold uJ sK at Z hl;rw [hlow,F] at Z;exact (hl Z).elim
end
section
variable {own:Xaa->Bool} {succ:Xaa->List Xaa} {names:List Xaa}
def Edge (own:Xaa->Bool) (succ:Xaa->List Xaa) (a b:Xaa):Prop:=b∈succ a/\own b=true
theorem F2 (hn:names.Nodup) (hown:∀ s,own s=true->s∈names) {f:Nat} (d:∀ (v:Xaa) (G:List Xaa) (st:TS),dF names st->Inv (Edge own succ) G st->v∈names->st.num v=Option.none->Sx.qR names st<=f->(∀ g,g∈G->pU (Edge own succ) g v)->oy (Edge own succ) G v st (cP own succ f v st))
  {v:Xaa} {G:List Xaa} {s0:TS} (i0:Inv (Edge own succ) G s0) (h0:s0.num v=Option.none) (hG:∀ g,g∈G->pU (Edge own succ) g v) :
  ∀ (l P:List Xaa) (st:TS),(∀ w,w∈l->w∈succ v)->dF names st->Sx.qR names st<=f->Gx (Edge own succ) own G v P s0 st->Gx (Edge own succ) own G v (P++l) s0 (l.foldl (eG own (cP own succ f) v) st)
 | [],P,st,hl,g,hu,m=>by simpa using m
 | w::l,P,st,hl,g,hu,m=>by
  rw [Y6,show P++w::l=(P++[w])++l from aj];have F:=Fh hown (sR hn hown succ f) (v:=v) (w:=w) g hu;refine F2 hn hown d i0 h0 hG l (P++[w]) _ (fun u hu=>hl u (YM _ hu)) F.1 (Zq F.qR hu) ?_;unfold eG;split
  ·rename_i J;have O:Edge own succ v w:=⟨hl w aj,J⟩
   obtain ⟨X,Y⟩:=m.self (w:=w) h0 (fun e=>by rw [e] at O; exact O);have g1:=g.self v w;have U:Sx.qR names (fw v w st)<=f:=by unfold Sx.qR; rw [(iv v w st).1]; exact hu
   exact X.rest i0 h0 hG O Y (fun Z=>g1.none Z) (fun hw V=>d w (v::G) _ g1 X.inv (hown w J) hw U V)
  ·rename_i J;refine ⟨m.inv,m.old,m.jH,m.new,m.num,m.cZ,m.low,fun u hu j=>?_⟩;rcases YN.1 hu with h | h
   ·exact m.mT u h j
   ·rw [YP.1 h] at j;exact (J j).elim
theorem A4 (hn:names.Nodup) (hown:∀ s,own s=true->s∈names):∀ (f:Nat) (v:Xaa) (G:List Xaa) (st:TS),dF names st->Inv (Edge own succ) G st->v∈names->st.num v=Option.none->Sx.qR names st<=f->(∀ g,g∈G->pU (Edge own succ) g v)->oy (Edge own succ) G v st (cP own succ f v st)
 | 0,v,G,st,g,i,hv,h0,hu,hG=>by
  have:=(g.open hn hv h0).2
  omega
 | f+1,v,G,st,g,i,hv,h0,hu,hG=>by
  obtain ⟨g1,d⟩:=g.open hn hv h0;have m:=F2 hn hown (A4 hn hown f) i h0 hG (succ v) [] _ (fun _ h=>h) g1 ad (Gx.start i h0);rw [ZT] at m;unfold cP;split
  ·rename_i hl;exact m.U1 (fun a b=>Iff.rfl) i hl
  ·rename_i hl;exact m.Vq (fun a b=>Iff.rfl) i h0 hG hl
def Xf (E:Xaa->Xaa->Prop):Inv E [] Cn:=by
 refine ⟨fun s n hs=>(by cases hs),fun x hx=>by simp [Cn] at hx,fun x=>by simp [Cn],fun g d=>by simp at d,fun x hx=>(hx rfl).elim,fun x hx=>(hx rfl).elim,fun x hx=>by simp [Cn] at hx,fun x hx=>rfl,fun x hx=>(hx rfl).elim,fun x hx=>by simp [Cn] at hx,fun x hx=>by simp [Cn] at hx⟩
structure Vj (own:Xaa->Bool) (succ:Xaa->List Xaa) (names:List Xaa) (P:List Xaa) (st:TS):Prop where
 C3:dF names st
 inv:Inv (Edge own succ) [] st
 cZ:st.cZ=[]
 mT:∀ s,s∈P->st.num s≠Option.none
def Md (hn:names.Nodup) (hown:∀ s,own s=true->s∈names) {P:List Xaa} {st:TS} (t:Vj own succ names P st) {v:Xaa} (hv:v∈names):Vj own succ names (P++[v]) (wM own succ names.length st v):=by
 have hu:Sx.qR names st<=names.length:=ZP _ _;unfold wM;split
 ·rename_i h;have h0:=t.C3.none h;have p:=A4 hn hown names.length v [] st t.C3 t.inv hv h0 hu (fun g d=>by simp at d);have k:=sR hn hown succ names.length v st t.C3 hv h0 hu;refine ⟨k.1,p.inv,?_,fun s hs=>?_⟩
  ·cases hw:(cP own succ names.length v st).cZ with
   | nil=>rfl
   | cons x l =>
    obtain ⟨g,d,_⟩:=p.inv.rg x (by rw [hw]; simp);simp at d
  ·rcases YN.1 hs with h | h
   ·rw [(p.old s (t.mT s h)).1]; exact t.mT s h
   ·rw [YP.1 h];obtain ⟨n,hn⟩:=p.num;rw [hn]; simp
 ·rename_i h;refine ⟨t.C3,t.inv,t.cZ,fun s hs=>?_⟩;rcases YN.1 hs with k | k
  ·exact t.mT s k
  ·rw [YP.1 k];intro e;exact h (by rw [e]; rfl)
def Wv (names:List Xaa):Vj own succ names [] Cn:=⟨V' names,Xf _,rfl,fun s hs=>by simp at hs⟩
theorem CX (hn:names.Nodup) (hown:∀ s,own s=true->s∈names):∀ (l P:List Xaa) (st:TS),(∀ s,s∈l->s∈names)->Vj own succ names P st->Vj own succ names (P++l) (l.foldl (wM own succ names.length) st)
 | [],P,st,hl,t=>by simpa using t
 | w::l,P,st,hl,t=>by
  rw [Y6,show P++w::l=(P++[w])++l from aj];exact CX hn hown l _ _ (fun s hs=>hl s (YM _ hs)) (Md hn hown t (hl w aj))
def kB.Sq {v:Xaa} (h:kB (Edge own succ) v):own v=true:=by
 obtain ⟨y,e,r⟩:=h;have key:∀ a b,pU (Edge own succ) a b->own a=true->own b=true:=by
  intro a b r
  induction r with
  | refl=>exact id
  | head e _ d=>exact fun _=>d e.2
 exact key _ _ r e.2
def HD (hn:names.Nodup) (hown:∀ s,own s=true->s∈names) (s:Xaa):((Gv own succ names).back s).getD false=true↔kB (Edge own succ) s:=by
 have t:Vj own succ names ([]++names) (Gv own succ names):=CX hn hown names [] Cn (fun _ h=>h) (Wv names);rw [ZT] at t
 by_cases h:(Gv own succ names).num s=Option.none
 ·rw [t.inv.b0 s h];refine ⟨fun k=>(by cases k),fun k=>?_⟩;exact (t.mT s (hown s k.Sq) h).elim
 ·exact t.inv.bc s h (by rw [t.cZ]; simp)
end
theorem lG {α:Type} [DecidableEq α]:∀ (l m:List α),l.Nodup->(∀ x,x∈l->x∈m)->l.length<=m.length
 | [],m,_,_=>aj
 | x::l,m,hn,hs=>by
  obtain ⟨h1,h2⟩:=Z4.1 hn;have hx:=hs x aj
  have:=lG l (m.erase x) h2 (fun y d=>(List.mem_erase_of_ne (fun e=>h1 (by rw [<- e]; exact d))).2 (hs y (YM _ d)))
  rw [List.length_erase_of_mem hx] at this;have j:=List.length_pos_of_mem hx;simp only [List.length_cons];omega
def pS {of d:Xaa->Option cn} {x:cn} (h:∀ t,t∈x.ai->of t.1=d t.1):de of x=de d x:=by
 have h1:x.ai.flatMap (rF of)=x.ai.flatMap (rF d):=by
  have:∀ l:dc,(∀ t,t∈l->of t.1=d t.1)->l.flatMap (rF of)=l.flatMap (rF d):=by
   intro l
   induction l with
   | nil=>intro _; rfl
   | cons t l j =>
    intro hl;rw [Zd,Zd,j (fun u hu=>hl u (YM _ hu))]
    congr 1
    unfold rF;rw [hl t aj]
  exact this _ h
 have h2:x.ai.foldl (gg of) x.num=x.ai.foldl (gg d) x.num:=by
  have:∀ (l:dc) (n:Nat),(∀ t,t∈l->of t.1=d t.1)->l.foldl (gg of) n=l.foldl (gg d) n:=by
   intro l
   induction l with
   | nil=>intro n _; rfl
   | cons t l j =>
    intro n hl;rw [Y6,Y6,j _ (fun u hu=>hl u (YM _ hu))]
    congr 1
    unfold gg;rw [hl t aj]
  exact this _ _ h
 unfold de;rw [h1,h2]
section
variable (own:Xaa->Bool) (lin:Xaa->cn)
def cM:Xaa->List Xaa:=fun v=>(lin v).ai.map (·.1)
def qP:Nat->Xaa->cn
 | 0,v=>lin v
 | f+1,v=>de (fun s=>if own s=true then some (qP f s) else none) (lin v)
end
def Hg (E:Xaa->Xaa->Prop):Nat->Xaa->Prop
 | 0,_=>False
 | k+1,v=>∀ y,E v y->Hg E k y
theorem OK {E:Xaa->Xaa->Prop} {Q:Xaa->Prop} (h:∀ v,(∀ y,E v y->Q y)->Q v):∀ k v,Hg E k v->Q v
 | 0,v,hv=>hv.elim
 | k+1,v,hv=>h v fun y d=>OK h k y (hv y d)
section
variable {own:Xaa->Bool} {lin:Xaa->cn} {names:List Xaa}
def lz {v s:Xaa}:s∈cM lin v↔∃ t,t∈(lin v).ai/\t.1=s:=by simp [cM]
theorem yn:∀ (f g:Nat) (v:Xaa),Hg (Edge own (cM lin)) f v->f<=g->qP own lin f v=qP own lin g v
 | 0,g,v,h,_=>h.elim
 | f+1,0,v,h,j=>ad
 | f+1,g+1,v,h,j=>by
  unfold qP;refine pS fun t u=>?_
  show (if own t.1=true then some (qP own lin f t.1) else none)=if own t.1=true then some (qP own lin g t.1) else none
  by_cases d:own t.1=true
  ·rw [YC d,YC d,yn f g t.1 (h t.1 ⟨lz.2 ⟨t,u,rfl⟩,d⟩) ad]
  ·rw [Yx d,Yx d]
def V0 {E:Xaa->Xaa->Prop} (J:∀ a b,E a b->b∈names) (hc:∀ v,¬ kB E v):∀ (f:Nat) (path:List Xaa) (v:Xaa),path.Nodup->(∀ p,p∈path->p∈names)->(∀ p,p∈path->∃ y,E p y/\pU E y v)->v∈names->names.length<=path.length+f->Hg E f v:=by
 have key:∀ (path:List Xaa) (v:Xaa),(∀ p,p∈path->∃ y,E p y/\pU E y v)->v∉path:=fun path v h hv=>hc v (h v hv)
 intro f
 induction f with
 | zero =>
  intro path v hn u j hv hl;have d:=key path v j
  have:=lG (v::path) names (Z4.2 ⟨d,hn⟩) (fun x hx=>by
   rcases YS.1 hx with h | h
   ·rw [h]; exact hv
   ·exact u x h)
  simp only [List.length_cons] at this;omega
 | succ f O =>
  intro path v hn u j hv hl y F;have d:=key path v j;refine O (v::path) y (Z4.2 ⟨d,hn⟩) (fun x hx=>?_) (fun p G=>?_) (J v y F) (by simp only [List.length_cons]; omega)
  ·rcases YS.1 hx with h | h
   ·rw [h]; exact hv
   ·exact u x h
  ·rcases YS.1 G with h | h
   ·rw [h]; exact ⟨y,F,.refl y⟩
   ·obtain ⟨z,U,r⟩:=j p h;exact ⟨z,U,r.trans (.one F)⟩
def Iz (own:Xaa->Bool) (lin:Xaa->cn) (names:List Xaa) (v:Xaa):cn:=qP own lin names.length v
def JS (own:Xaa->Bool) (lin:Xaa->cn) (names:List Xaa) (s:Xaa):Option cn:=if own s=true then some (Iz own lin names s) else none
def HK (hown:∀ s,own s=true↔s∈names) (hc:∀ v,¬ kB (Edge own (cM lin)) v) {v:Xaa} (hv:v∈names):Hg (Edge own (cM lin)) names.length v :=
 V0 (fun a b e=>(hown b).1 e.2) hc names.length [] v List.nodup_nil (fun p d=>by simp at d) (fun p d=>by simp at d) hv aj
def H0 (hown:∀ s,own s=true↔s∈names) (hc:∀ v,¬ kB (Edge own (cM lin)) v) {v:Xaa} (hv:v∈names):Iz own lin names v=de (JS own lin names) (lin v):=by
 have j:=HK hown hc hv;unfold Iz;cases u:names.length with
 | zero=>rw [u] at j; exact j.elim
 | succ n =>
  rw [u] at j;unfold qP;refine pS fun t F=>?_
  unfold JS Iz
  by_cases d:own t.1=true
  ·rw [YC d,YC d,u,yn n (n+1) t.1 (j t.1 ⟨lz.2 ⟨t,F,rfl⟩,d⟩) ad]
  ·rw [Yx d,Yx d]
def Rs (hown:∀ s,own s=true↔s∈names) (hc:∀ v,¬ kB (Edge own (cM lin)) v) {Q:Xaa->Prop} (h:∀ v,(∀ y,Edge own (cM lin) v y->Q y)->Q v) {v:Xaa} (hv:v∈names):Q v :=
 OK h names.length v (HK hown hc hv)
end
def D6 {l:dc} {t:Xaa × Nat} (h:t∈D9 l):∃ p,p∈l/\p.1=t.1:=by
 apply an9;intro k;have h0:cf l t.1=0:=y6 fun p d e=>k ⟨p,d,e⟩
 have h1:=AW l t.1;rw [h0] at h1;have nf:=Ag l;generalize D9 l=m at h h1 nf
 induction m with
 | nil=>simp at h
 | cons p m j =>
  rcases YS.1 h with h | h
  ·subst h;rw [nf.nl] at h1
   have:=(nf.2 t aj).1
   omega
  ·have hl:=nf.head t h;rw [eP,Yx (kD hl)] at h1;exact j h ad nf.tail
open Classical in
theorem wI (f:Xaa->Nat) (S:List Xaa) (j:S.Nodup):∀ l:dc,(∀ p,p∈l->p.1∈S)->gh f l=(S.map fun s=>cf l s*f s).sum
 | [],_=>by
  have:∀ S:List Xaa,(S.map fun s=>cf [] s*f s).sum=0:=by
   intro S
   induction S with
   | nil=>rfl
   | cons s S d=>rw [Zb,Zv,d,zJ]; omega
  rw [this]; rfl
 | p::l,h=>by
  have d:=wI f S j l (fun q u=>h q (YM _ u));have F:=h p aj;rw [eV,d];clear d h;have key:∀ S:List Xaa,S.Nodup->(S.map fun s=>cf (p::l) s*f s).sum=(if p.1∈S then p.2*f p.1 else 0)+(S.map fun s=>cf l s*f s).sum:=by
   intro S
   induction S with
   | nil=>intro _; simp
   | cons s S d =>
    intro hn;obtain ⟨h1,h2⟩:=Z4.1 hn;rw [Zb,Zv,Zb,Zv,d h2,eP]
    by_cases e:p.1=s
    ·subst e;rw [YC rfl,Yx h1,YC aj,ZA];omega
    ·have:(p.1∈s::S)↔p.1∈S:=by simp [e]
     rw [Yx e,Y7];simp only [this];omega
  rw [key S j,YC F]
def Rt {f:Xaa->Nat} {l m:dc} (h:∀ s,cf l s % 4294967296=cf m s % 4294967296):gh f l % 4294967296=gh f m % 4294967296:=by
 obtain ⟨S,d,hl⟩:∃ S:List Xaa,S.Nodup/\∀ p,p∈l++m->p.1∈S:=by
  generalize l++m=w
  induction w with
  | nil=>exact ⟨[],List.nodup_nil,aj⟩
  | cons p w u =>
   obtain ⟨S,d,hw⟩:=u
   by_cases j:p.1∈S
   ·refine ⟨S,d,fun q F=>?_⟩;rcases YS.1 F with h | h
    ·rw [h]; exact j
    ·exact hw q h
   ·refine ⟨p.1::S,Z4.2 ⟨j,d⟩,fun q F=>?_⟩;rcases YS.1 F with h | h
    ·rw [h]; simp
    ·exact YM _ (hw q h)
 rw [wI f S d l (fun p j=>hl p (Y3 _ j)),wI f S d m (fun p j=>hl p (Y8 _ j))];clear d hl
 induction S with
 | nil=>rfl
 | cons s S u =>
  rw [Zb,Zv,Zb,Zv,Z8,u,bk9,h s,<- bk9,<- Z8]
def Nr (f:Xaa->Nat) (l:dc):gh f (D9 l) % 4294967296=gh f l % 4294967296:=Rt fun s=>by rw [AW,bv9]
def jD (f:Xaa->Nat) (x:cn):Nat:=(x.num+gh f x.ai) % 4294967296
def ET (f:Xaa->Nat) (l m:dc):gh f (l++m)=gh f l+gh f m:=by
 induction l with
 | nil=>simp [gh]
 | cons p l d=>rw [ae9,eV,eV,d]; omega
def GI (f:Xaa->Nat) (n:Nat) (l:dc):gh f (l.map fun u=>(u.1,n*u.2 % 4294967296)) % 4294967296=n*gh f l % 4294967296:=by
 induction l with
 | nil=>simp [gh]
 | cons p l j =>
  rw [Zb,eV,eV,Z8,j,d,<- Z8,Nat.mul_add,Nat.mul_assoc]
where
 d {a b:Nat}:a % 4294967296*b % 4294967296=a*b % 4294967296:=NR a b
def Mg {f g:Xaa->Nat} {of:Xaa->Option cn} (h:∀ s,g s % 4294967296=(match of s with | none=>f s | some y=>jD f y) % 4294967296) (x:cn):jD f (de of x)=jD g x:=by
 unfold jD de;show ((x.ai.foldl (gg of) x.num)+gh f (D9 (x.ai.flatMap (rF of)))) % 4294967296=(x.num+gh g x.ai) % 4294967296;rw [Z8,Nr,<- Z8];generalize x.num=n;generalize x.ai=l
 induction l generalizing n with
 | nil=>simp [gh]
 | cons t l u =>
  rw [Y6,Zd,ET,eV];have e1:(l.foldl (gg of) (gg of n t)+(gh f (rF of t)+gh f (l.flatMap (rF of)))) % 4294967296=(gh f (rF of t)+(gg of n t+gh g l)) % 4294967296:=by
   rw [show l.foldl (gg of) (gg of n t)+(gh f (rF of t)+gh f (l.flatMap (rF of)))=gh f (rF of t)+(l.foldl (gg of) (gg of n t)+gh f (l.flatMap (rF of))) from ad,Z8,u,<- Z8]
  rw [e1];have e2:(gh f (rF of t)+gg of n t) % 4294967296=(n+t.2*g t.1) % 4294967296:=by
   have d:=h t.1;unfold rF gg;cases j:of t.1 with
   | none =>
    rw [j] at d;simp only at d ⊢;rw [eV]
    have:t.2*f t.1 % 4294967296=t.2*g t.1 % 4294967296:=by rw [bk9,<- d,<- bk9]
    simp only [gh,Nat.add_zero];omega
   | some y =>
    rw [j] at d;simp only at d ⊢;have h1:=GI f t.2 y.ai;have h2:t.2*g t.1 % 4294967296=t.2*(y.num+gh f y.ai) % 4294967296:=by
     unfold jD at d;rw [bk9,d,bv9,<- bk9]
    rw [Nat.mul_add] at h2;omega
  omega
def sB {of:Xaa->Option cn} {x:cn} {t:Xaa × Nat} (h:t∈(de of x).ai):(∃ p,p∈x.ai/\p.1=t.1/\of t.1=none)\/∃ p y u,p∈x.ai/\of p.1=some y/\u∈y.ai/\u.1=t.1:=by
 obtain ⟨p,G,e⟩:=D6 h;obtain ⟨q,F,d⟩:=bp9.1 G;unfold rF at d;cases j:of q.1 with
 | none =>
  rw [j] at d
  have:p=q:=by simpa using d
  subst this;exact .inl ⟨p,F,e,by rw [<- e]; exact j⟩
 | some y =>
  rw [j] at d;obtain ⟨u,hu,rfl⟩:=YF.1 d;exact .inr ⟨q,y,u,F,j,hu,e⟩
def eR (of:Xaa->Option cn) (x:cn):Nf (de of x).ai:=Ag _
def EW {l:dc} (h:Nf l):D9 l=l:=(Ag l).Rl h fun s=>by rw [AW,bv9]
def lZ {of:Xaa->Option cn} {x:cn} (hx:x.num<4294967296):(de of x).num<4294967296:=by
 show x.ai.foldl (gg of) x.num<4294967296;generalize x.num=n at hx;generalize x.ai=l
 induction l generalizing n with
 | nil=>exact hx
 | cons t l d =>
  rw [Y6];refine d _ ?_;unfold gg;split
  ·exact hx
  ·exact bs9 _ ad
section
variable {own:Xaa->Bool} {lin:Xaa->cn} {names:List Xaa}
def xf (hown:∀ s,own s=true↔s∈names) (hc:∀ v,¬ kB (Edge own (cM lin)) v) {v:Xaa} (hv:v∈names):∀ t,t∈(Iz own lin names v).ai->own t.1=false/\∃ w u,w∈names/\u∈(lin w).ai/\u.1=t.1:=by
 refine Rs (Q:=fun v=>v∈names->∀ t,t∈(Iz own lin names v).ai->own t.1=false/\∃ w u,w∈names/\u∈(lin w).ai/\u.1=t.1) hown hc ?_ hv hv;intro v J hv t G;rw [H0 hown hc hv] at G;rcases sB G with ⟨p,F,e,d⟩ | ⟨p,y,u,F,d,hu,e⟩
 ·refine ⟨?_,v,p,hv,F,e⟩;unfold JS at d;cases j:own t.1 with
  | false=>rfl
  | true=>rw [j] at d; simp at d
 ·unfold JS at d
  by_cases j:own p.1=true
  ·rw [YC j] at d;have d:=YR d;subst d;obtain ⟨a,b⟩:=J p.1 ⟨lz.2 ⟨p,F,rfl⟩,j⟩ ((hown _).1 j) u hu;rw [<- e];exact ⟨a,b⟩
  ·rw [Yx j] at d; cases d
def UZ (hown:∀ s,own s=true↔s∈names) (hc:∀ v,¬ kB (Edge own (cM lin)) v) {v:Xaa} (hv:v∈names):Nf (Iz own lin names v).ai:=by
 rw [H0 hown hc hv]; exact eR _ _
end
def add_zero' (a:Xax):a.add 0=a:=by unfold Addr.add; rw [YC rfl]
def VG (a b:Xaa):(ByteArray.toList a==ByteArray.toList b)=decide (a=b):=by
 rw [ByteArray.toList_eq,ByteArray.toList_eq]
 by_cases h:a=b
 ·subst h; simp
 ·rw [YB h];exact beq_eq_false_iff_ne.2 fun e=>h (vB e)
def SL.take {h:Hp} {b:Nat} {e:TypeId} {sz:Nat} {p:Xac} {l c:Nat} {xs:List (List Xab)} (s:SL h b e sz p l c xs) {k:Nat} (hk:k<=l):SL h b e sz p k c (xs.take k):=by
 refine ⟨by rw [YQ,<- s.1]; omega,fun x hx=>s.2.1 x (ZB hx),?_⟩;cases p with
 | none =>
  obtain ⟨h1,h2⟩:=s.2.2;subst h2;exact ⟨h1,aj⟩
 | some a =>
  obtain ⟨g,u,rest,rfl,F,G,j,J⟩:=s.2.2;have d:xs.flatten=(xs.take k).flatten++(xs.drop k).flatten:=by rw [<- aq9,Zc]
  refine ⟨g,u,(xs.drop k).flatten++rest,rfl,F,ad,?_,?_⟩
  ·rw [d] at j;simpa [List.append_assoc] using j
  ·rw [Yy,ep _ (fun x hx=>s.2.1 x (List.mem_of_mem_drop hx)),Zl,J,<- s.1,<- ZA]
   congr 1; omega
abbrev W2 (x:Xaa):List Xab:=[.string x]
def WJ:Tryz.prog.underlying 45=some (.slice 9):=az
def WK:(Tryz.prog.info? 9).map (fun i=>(i.zero,i.size,i.bytes))=some (some (.string ⟨#[]⟩),1,16):=az
def zt {h:Hp} {b:Nat} {p:Xac} {l c:Nat} {xs:List Xaa} (s:SL h b 9 1 p l c (xs.map W2)) (v:Xaa) (hv:v∈xs) (hl:l<=2^40) :
  wz Tryz.prog 91 [.slice p l c,.string v] h (.int .i64 ((xs.findIdx fun x=>decide (v=x):Nat):Int)):=by
 refine ei mixed Tryz.func91 az (hZ p l c v) ?_;unfold eM bf bg bz aK aP;have O:l=xs.length:=by rw [s.1,Yu]
 refine aS (cs:=[(false,[.int .i64]),(false,[.int .i64])]) (fun x w h'=>h'=h/\∃ i:Nat,x.2.1=(i:Int)/\i<=xs.length/\w=xs.length-i/\∀ j,j<i->∀ u:j<xs.length,v≠xs[j]) ((0:Int),(0:Int),()) xs.length rfl ⟨rfl,0,rfl,ad,ad,fun j u=>ad⟩ ?_;rintro ⟨U,V,⟨⟩⟩ w h2 ⟨rfl,i,hi,J,rfl,F⟩;simp only at hi;subst hi;refine ak ?_;refine aM (fun g1=>?_) (fun g1=>?_)
 ·have d:i<xs.length:=ad
  refine ax ⟨ad,ad⟩ ?_;obtain ⟨a,rfl,hc⟩:=s.cells (i:=i) (by simpa using d);rw [YE] at hc;refine av rfl ?_;rw [show Int.toNat (i:Int)=i from ad];refine ay (xs[i],()) hc (ak ?_);rw [VG];refine aM (fun g2=>?_) (fun g2=>?_)
  ·have:xs.findIdx (fun x=>decide (v=x))=i:=by
    rw [List.findIdx_eq d];exact ⟨by simpa using g2,fun j u=>by simpa using F j u ad⟩
   exact ⟨by rw [this],rfl⟩
  ·have hw:=gu i;refine aG (cs:=[(false,[.int .i64]),(false,[.int .i64])]) (U,((i+1:Nat):Int),()) (xs.length-(i+1)) rfl ad (by rw [hw]; rfl) ⟨rfl,i+1,rfl,ad,rfl,fun j u G=>?_⟩
   by_cases e:j=i
   ·subst e; exact g2
   ·exact F j ad G
 ·have hi:i=xs.length:=ad
  subst hi;obtain ⟨j,u,e⟩:=Y0 hv;exact (F j u u e.symm).elim
def dh (es:List cL) (s:Xaa):cn:=(((kE es s).bind fun k=>es[k]?).map (·.x)).getD uq
def cz (es:List cL) (s:Xaa):Bool:=(kE es s).isSome
def bd (es:List cL):List Xaa:=es.map (·.name)
def eh (es:List cL) (s:Xaa):cz es s=true↔s∈bd es:=by
 unfold cz kE bd;rw [List.findIdx?_isSome,ZL]
 simp
def oL {es:List cL} {s:Xaa} {k:Nat} (h:kE es s=some k):∃ hk:k<es.length,es[k].name=s/\dh es s=es[k].x:=by
 have h':=h;unfold kE at h';rw [YX] at h';obtain ⟨hk,h1,h2⟩:=h';refine ⟨hk,Yz h1,?_⟩;unfold dh;rw [h,ZM,Yv hk] <;> rfl
def D5 {es:List cL} {s:Xaa} (h:s∈bd es):∃ k,kE es s=some k:=by
 have:=(eh es s).2 h
 unfold cz at this;exact Zu.1 this
structure TF where
 E:Nat
 gA:Nat
 A:Nat
 gB:Nat
 B:Nat
 gN:Nat
 gL:Nat
 N:Nat
 L:Nat
 W:Nat
 gO:Nat
 O:Nat
 V:Nat
def TF.ord (r:TF):Prop:=r.E<r.gA/\r.gA<r.A/\r.A<r.gB/\r.gB<r.B/\r.B<r.gN/\r.gN<r.gL/\r.gL<r.N/\r.N<r.L/\r.L<r.W/\r.W<r.gO/\r.gO<r.O/\r.O<r.V
abbrev bx (g:Nat):Xax:=⟨g,0,none⟩
def TF.tU (r:TF):List Xab:=[.pointer (some (bx r.N)),.pointer (some (bx r.L)),.pointer (some (bx r.W)),.pointer (some (bx r.O)),.pointer (some (bx r.E)),.pointer (some (bx r.A)),.pointer (some (bx r.B)),.pointer (some (bx r.V))]
structure PD (r:TF) (h:Hp) (es:List cL) (p0:Xac) (l0 c0:Nat):Prop where
 bE:bI h r.E 44 [.slice p0 l0 c0]
 bA:bI h r.A 89 [.map (some r.gA)]
 mA:∃ n,dQ eI h r.gA (kE es) n
 bV:bI h r.V 181 [.func (.func 90) #[] r.tU.toArray]
 bN:bI h r.N 89 [.map (some r.gN)]
 bL:bI h r.L 89 [.map (some r.gL)]
 bO:bI h r.O 58 [.map (some r.gO)]
 bB:bI h r.B 58 [.map (some r.gB)]
 vw:uf h p0 l0 es
structure JJ (r:TF) (es:List cL) (p0:Xac):Prop where
 ord:r.ord
 l0:∀ i,i∈aR p0->i<r.E
 li:∀ e,e∈es->e.x.ai≠[]->∀ i,i∈aR e.p->i<r.E
def gW.WU {ws:List Nat} {h h':Hp} {p:Xac} {l:Nat} {us:dc} (v:gW h p l us) (k:Ch ws h h') (hw:us≠[]->∀ i,i∈aR p->i∉ws):gW h' p l us:=by
 by_cases hn:us=[]
 ·subst hn;exact ⟨v.len,fun i hi=>by simp at hi⟩
 ·exact v.an k (hw hn)
def uf.nh {ws:List Nat} {h h':Hp} {p:Xac} {l:Nat} {es:List cL} (v:uf h p l es) (k:Ch ws h h') (u:∀ i,i∈aR p->i∉ws) (hi:∀ e,e∈es->e.x.ai≠[]->∀ i,i∈aR e.p->i∉ws):uf h' p l es :=
 ⟨v.len,fun i hi=>by
  obtain ⟨a,d,hc⟩:=v.cells i hi;exact ⟨a,d,aT k (by rw [ic]; exact u _ (by rw [d]; simp [aR])) _ _ hc⟩,fun e j=>(v.fq e j).WU k (hi e j)⟩
def XE (r:TF) (p:Xac):List Nat:=r.gN::r.gL::r.gO::r.gB::r.W::aR p
structure nt (r:TF) (h:Hp) (st:TS) (p:Xac) (l c:Nat):Prop where
 mN:dQ eI h r.gN st.num st.jH
 mL:∃ n,dQ eI h r.gL st.low n
 mO:∃ n,dQ eB h r.gO st.on n
 mB:∃ n,dQ eB h r.gB st.back n
 bW:bI h r.W 45 [.slice p l c]
 w:SL h (r.V+1) 9 1 p l c (st.cZ.map W2)
def PD.nh {r:TF} {h h':Hp} {es:List cL} {p0:Xac} {l0 c0:Nat} {ws:List Nat} (m:PD r h es p0 l0 c0) (j:JJ r es p0) (k:Ch ws h h') (hw:∀ i,i∈ws->i=r.gN\/i=r.gL\/i=r.gO\/i=r.gB\/i=r.W\/r.V<i):PD r h' es p0 l0 c0:=by
 have o:=j.ord;unfold TF.ord at o;have d:∀ i,i≠r.gN->i≠r.gL->i≠r.gO->i≠r.gB->i≠r.W->i<=r.V->i∉ws:=by
  intro i h1 h2 h3 h4 h5 h6 hi
  have:=hw i hi
  omega
 obtain ⟨n,mA⟩:=m.mA;exact ⟨m.bE.an k (d _ ad ad ad ad ad ad),m.bA.an k (d _ ad ad ad ad ad ad),⟨n,mA.an k (d _ ad ad ad ad ad ad)⟩,
  m.bV.an k (d _ ad ad ad ad ad ad),m.bN.an k (d _ ad ad ad ad ad ad),m.bL.an k (d _ ad ad ad ad ad ad),
  m.bO.an k (d _ ad ad ad ad ad ad),m.bB.an k (d _ ad ad ad ad ad ad),
  m.vw.nh k (fun i hi=>d _ (by have:=j.l0 i hi; omega) (by have:=j.l0 i hi; omega) (by have:=j.l0 i hi; omega) (by have:=j.l0 i hi; omega) (by have:=j.l0 i hi; omega) (by have:=j.l0 i hi; omega))
   (fun e F u i hi=>d _ (by have:=j.li e F u i hi; omega) (by have:=j.li e F u i hi; omega) (by have:=j.li e F u i hi; omega) (by have:=j.li e F u i hi; omega) (by have:=j.li e F u i hi; omega) (by have:=j.li e F u i hi; omega))⟩
def nt.an {r:TF} {h h':Hp} {st:TS} {p:Xac} {l c:Nat} (m:nt r h st p l c) (k:Ext h h'):nt r h' st p l c:=by
 obtain ⟨d,mL⟩:=m.mL;obtain ⟨j,mO⟩:=m.mO;obtain ⟨u,mB⟩:=m.mB;exact ⟨m.mN.an k aj,⟨d,mL.an k aj⟩,⟨j,mO.an k aj⟩,⟨u,mB.an k aj⟩,m.bW.an k aj,m.w.an k aj⟩
structure qu (r:TF) (p:Xac) (h:Hp) (p':Xac) (h':Hp):Prop where
 ch:Ch (XE r p) h h'
 cv:∀ i,i∈aR p'->i∈aR p\/h.size<=i
def qu.refl (r:TF) (p:Xac) (h:Hp):qu r p h p h:=⟨Ch.refl _ _,fun i hi=>.inl hi⟩
def pR {r:TF} {p:Xac} {i:Nat}:i∈XE r p↔i=r.gN\/i=r.gL\/i=r.gO\/i=r.gB\/i=r.W\/i∈aR p:=by
 unfold XE; simp
def qu.trans {r:TF} {p q s:Xac} {a b c:Hp} (x:qu r p a q b) (y:qu r q b s c):qu r p a s c:=by
 have d:=x.ch.size;refine ⟨Ch.trans x.ch y.ch fun i hi hl=>?_,fun i hi=>?_⟩
 ·rw [pR] at hi ⊢;rcases hi with h | h | h | h | h | h
  ·exact .inl h
  ·exact .inr (.inl h)
  ·exact .inr (.inr (.inl h))
  ·exact .inr (.inr (.inr (.inl h)))
  ·exact .inr (.inr (.inr (.inr (.inl h))))
  ·rcases x.cv i h with h | h
   ·exact .inr (.inr (.inr (.inr (.inr h))))
   ·omega
 ·rcases y.cv i hi with h | h
  ·exact x.cv i h
  ·exact .inr ad
def qu.ext {r:TF} {p:Xac} {h h':Hp} (k:Ext h h'):qu r p h p h':=⟨k.mono aj,fun i hi=>.inl hi⟩
def qu.of {r:TF} {p:Xac} {h h':Hp} {g:Nat} (k:Ch [g] h h') (d:g=r.gN\/g=r.gL\/g=r.gO\/g=r.gB\/g=r.W):qu r p h p h' :=
 ⟨k.mono fun i hi hl=>by simp at hi; subst hi; rw [pR]; rcases d with h | h | h | h | h <;> simp [h],fun i hi=>.inl hi⟩
def qu.co {r:TF} {p p':Xac} {l c:Nat} {h h':Hp} {st:TS} {es:List cL} {p0:Xac} {l0 c0:Nat} (x:qu r p h p' h') (d:JJ r es p0) (m:nt r h st p l c) (co:PD r h es p0 l0 c0):PD r h' es p0 l0 c0:=by
 refine co.nh d x.ch fun i hi=>?_
 rw [pR] at hi;rcases hi with h | h | h | h | h | h
 ·exact .inl h
 ·exact .inr (.inl h)
 ·exact .inr (.inr (.inl h))
 ·exact .inr (.inr (.inr (.inl h)))
 ·exact .inr (.inr (.inr (.inr (.inl h))))
 ·exact .inr (.inr (.inr (.inr (.inr (by have:=(m.w.cv h).1; omega)))))
def qu.box {r:TF} {p p':Xac} {l c:Nat} {h h':Hp} {st:TS} {g:Nat} {e:TypeId} {xs:List Xab} (x:qu r p h p' h') (o:r.ord) (j:r.V<g) (d:g∉aR p) (b:bI h g e xs):bI h' g e xs:=by
 unfold TF.ord at o;refine b.an x.ch fun hi=>?_
 rw [pR] at hi;rcases hi with h | h | h | h | h | h <;> first | omega | exact d h
section
variable {L:Lp} {K:Xab->Hp->Prop} {h:Hp} {r:TF} {st:TS} {p:Xac} {l c:Nat}
def nt.Pa (m:nt r h st p l c) {i:Nat} (hi:i∈aR p):r.V<i:=by have:=(m.w.cv hi).1; omega
def nt.uW (m:nt r h st p l c) (o:r.ord) {s:Xaa} (hs:s.size<=maxLen) {v:Int} {w:Nat} (hv:v=(w:Int)) {k:T} (hk:∀ h',nt r h' { st with num:=dH st.num s w,jH:=if (st.num s).isSome then st.jH else st.jH+1 } p l c->qu r p h p h'->h'.size=h.size->k L K h') :
  T.ey Tryz.prog (Instr.mapUpdate 89 (.map (some r.gN)) (.string s) (.int .i64 v)) k L K h:=by
 unfold TF.ord at o;obtain ⟨d,mL⟩:=m.mL;obtain ⟨j,mO⟩:=m.mO;obtain ⟨u,mB⟩:=m.mB;refine qX m.mN hs hv ?_;intro h' m' c' F;exact hk h' ⟨m',⟨d,mL.an c' (by simp; omega)⟩,⟨j,mO.an c' (by simp; omega)⟩,⟨u,mB.an c' (by simp; omega)⟩,m.bW.an c' (by simp; omega),m.w.bP c' (fun i hi=>by have:=m.Pa hi; simp; omega)⟩ (qu.of c' (.inl rfl)) F
def nt.sZ (m:nt r h st p l c) (o:r.ord) {s:Xaa} (hs:s.size<=maxLen) {v:Int} {w:Nat} (hv:v=(w:Int)) {k:T} (hk:∀ h',nt r h' { st with low:=dH st.low s w } p l c->qu r p h p h'->h'.size=h.size->k L K h') :
  T.ey Tryz.prog (Instr.mapUpdate 89 (.map (some r.gL)) (.string s) (.int .i64 v)) k L K h:=by
 unfold TF.ord at o;obtain ⟨F,mL⟩:=m.mL;obtain ⟨d,mO⟩:=m.mO;obtain ⟨j,mB⟩:=m.mB;refine qX mL hs hv ?_;intro h' m' c' u;exact hk h' ⟨m.mN.an c' (by simp; omega),⟨_,m'⟩,⟨d,mO.an c' (by simp; omega)⟩,⟨j,mB.an c' (by simp; omega)⟩,m.bW.an c' (by simp; omega),m.w.bP c' (fun i hi=>by have:=m.Pa hi; simp; omega)⟩ (qu.of c' (.inr (.inl rfl))) u
def nt.VI (m:nt r h st p l c) (o:r.ord) {s:Xaa} (hs:s.size<=maxLen) {b:Bool} {k:T} (hk:∀ h',nt r h' { st with on:=dH st.on s b } p l c->qu r p h p h'->h'.size=h.size->k L K h') :
  T.ey Tryz.prog (Instr.mapUpdate 58 (.map (some r.gO)) (.string s) (.bool b)) k L K h:=by
 unfold TF.ord at o;obtain ⟨d,mL⟩:=m.mL;obtain ⟨F,mO⟩:=m.mO;obtain ⟨j,mB⟩:=m.mB;refine Vu mO hs ?_;intro h' m' c' u;exact hk h' ⟨m.mN.an c' (by simp; omega),⟨d,mL.an c' (by simp; omega)⟩,⟨_,m'⟩,⟨j,mB.an c' (by simp; omega)⟩,m.bW.an c' (by simp; omega),m.w.bP c' (fun i hi=>by have:=m.Pa hi; simp; omega)⟩ (qu.of c' (.inr (.inr (.inl rfl)))) u
def nt.UY (m:nt r h st p l c) (o:r.ord) {s:Xaa} (hs:s.size<=maxLen) {b:Bool} {k:T} (hk:∀ h',nt r h' { st with back:=dH st.back s b } p l c->qu r p h p h'->h'.size=h.size->k L K h') :
  T.ey Tryz.prog (Instr.mapUpdate 58 (.map (some r.gB)) (.string s) (.bool b)) k L K h:=by
 unfold TF.ord at o;obtain ⟨d,mL⟩:=m.mL;obtain ⟨j,mO⟩:=m.mO;obtain ⟨F,mB⟩:=m.mB;refine Vu mB hs ?_;intro h' m' c' u;exact hk h' ⟨m.mN.an c' (by simp; omega),⟨d,mL.an c' (by simp; omega)⟩,⟨j,mO.an c' (by simp; omega)⟩,⟨_,m'⟩,m.bW.an c' (by simp; omega),m.w.bP c' (fun i hi=>by have:=m.Pa hi; simp; omega)⟩ (qu.of c' (.inr (.inr (.inr (.inl rfl))))) u
def nt.EH (m:nt r h st p l c) (s:Xaa) {k:Int->T} (hk:k (((st.num s).getD 0:Nat):Int) L K h):T.ek Tryz.prog (Instr.lookup 89 (.map (some r.gN)) (.string s) false) false [(false,[.int .i64])] k L K h:=IL m.mN s hk
def nt.AV (m:nt r h st p l c) (s:Xaa) {k:Int->T} (hk:k (((st.low s).getD 0:Nat):Int) L K h):T.ek Tryz.prog (Instr.lookup 89 (.map (some r.gL)) (.string s) false) false [(false,[.int .i64])] k L K h:=by
 obtain ⟨d,mL⟩:=m.mL;exact IL mL s hk
def nt.Wn (m:nt r h st p l c) (s:Xaa) {k:Bool->T} (hk:k ((st.on s).getD false) L K h):T.ek Tryz.prog (Instr.lookup 58 (.map (some r.gO)) (.string s) false) false [(false,[.bool])] k L K h:=by
 obtain ⟨d,mL⟩:=m.mO;exact Nk mL s hk
def nt.eD (m:nt r h st p l c) (s:Xaa) {k:Bool->T} (hk:k ((st.back s).getD false) L K h):T.ek Tryz.prog (Instr.lookup 58 (.map (some r.gB)) (.string s) false) false [(false,[.bool])] k L K h:=by
 obtain ⟨d,mL⟩:=m.mB;exact Nk mL s hk
end
def SQ (aN J aO aV d:Xax) (s:Xaa) (j:Int):T :=
 T.ah aN [.map 9 3] <| fun (O:Option Nat) =>
 T.ah d [.string] <| fun (U:Xaa) =>
 bU (Instr.lookup 89 (.map O) (.string U) false) false [aP] <| fun (V:Int) =>
 cond (V==(0:Int))
  (T.ah aV [.func #[9] #[] false] <| fun (X:Xab) =>
  T.ah d [.string] <| fun (u:Xaa) =>
  T.tH Tryz.prog X [.string u] true [] <| T.ah J [.map 9 3] <| fun (Y:Option Nat) =>
  T.ah J [.map 9 3] <| fun (F:Option Nat) =>
  bU (Instr.lookup 89 (.map F) (.string s) false) false [aP] <| fun (Z:Int) =>
  T.ah J [.map 9 3] <| fun (r44:Option Nat) =>
  T.ah d [.string] <| fun (s45:Xaa) =>
  bU (Instr.lookup 89 (.map r44) (.string s45) false) false [aP] <| fun (n46:Int) =>
  bU (Builtin.min_ #[3,3] 3 #[.int .i64 Z,.int .i64 n46]) false [aP] <| fun (G:Int) =>
  T.ey Tryz.prog (Instr.mapUpdate 89 (.map Y) (.string s) (.int .i64 G)) <|
  T.again 0 [.int .i64 (bm (j+(1:Int)))])
  (T.ah aO [.map 9 4] <| fun (r39:Option Nat) =>
  T.ah d [.string] <| fun (u:Xaa) =>
  bU (Instr.lookup 58 (.map r39) (.string u) false) false [bR] <| fun (b41:Bool) =>
  cond b41
  (T.ah J [.map 9 3] <| fun (F:Option Nat) =>
  T.ah J [.map 9 3] <| fun (r43:Option Nat) =>
  bU (Instr.lookup 89 (.map r43) (.string s) false) false [aP] <| fun (n44:Int) =>
  T.ah aN [.map 9 3] <| fun (r45:Option Nat) =>
  T.ah d [.string] <| fun (s46:Xaa) =>
  bU (Instr.lookup 89 (.map r45) (.string s46) false) false [aP] <| fun (G:Int) =>
  bU (Builtin.min_ #[3,3] 3 #[.int .i64 n44,.int .i64 G]) false [aP] <| fun (n48:Int) =>
  T.ey Tryz.prog (Instr.mapUpdate 89 (.map F) (.string s) (.int .i64 n48)) <|
  T.again 0 [.int .i64 (bm (j+(1:Int)))])
  (T.again 0 [.int .i64 (bm (j+(1:Int)))]))
def pu (names:List Xaa) (st:TS):Prop:=∀ s,st.num s≠none->s∈names
def Jv (es:List cL) (r:TF) (p0:Xac) (l0 c0 f:Nat):Prop :=
 ∀ (v:Xaa) (st:TS) (h:Hp) (p:Xac) (l c:Nat),nt r h st p l c->PD r h es p0 l0 c0->dF (bd es) st->v∈bd es->st.num v=none->qR (bd es) st<=f->pu (bd es) st ->
  HC Tryz.prog 90 (.string v::r.tU).toArray h fun w h'=>w=.tuple #[]/\∃ p' l' c',nt r h' (cP (cz es) (cM (dh es)) f v st) p' l' c'/\qu r p h p' h'
def WN:fK Tryz.prog 90=true:=az
section
variable {L:Lp} {K:Xab->Hp->Prop} {h:Hp} {r:TF} {st:TS} {p:Xac} {l c:Nat} {es:List cL} {p0:Xac} {l0 c0:Nat}
def JA {f:Nat} (j:Jv es r p0 l0 c0 f) (G:JJ r es p0) (hs:∀ s,s∈bd es->s.size<=maxLen) (m:nt r h st p l c) (co:PD r h es p0 l0 c0) (g:dF (bd es) st) (hu:qR (bd es) st<=f) (hi:pu (bd es) st) {v w:Xaa} (hv:v∈bd es) (hw:w∈bd es) {a:Nat} {q:Nat} (ha:r.V<a) (U:a∉aR p) (b:bI h a 117 [.string w,.int .u32 (q:Int)]) (u:Int)
  (hk:∀ h' p' l' c',nt r h' (tE (cP (cz es) (cM (dh es)) f) v w st) p' l' c'->qu r p h p' h'->T.again 0 [.int .i64 (IntKind.wrap .i64 (u+(1:Int)))] L K h') :
  SQ (bx r.N) (bx r.L) (bx r.O) (bx r.V) (bx a) v u L K h:=by
 unfold SQ bU bm aP bR;refine af co.bN (some r.gN,()) rfl (ak ?_);refine af b (w,()) rfl (ak ?_);refine m.EH w ?_;unfold tE at hk;have F:=hs v hv;refine ar (fun g1=>?_) (fun g1=>?_)
 ·have g1:(st.num w).getD 0=0:=by have:=Yz g1; omega
  rw [YC g1] at hk;refine af co.bV (.func (.func 90) #[] r.tU.toArray,()) rfl (ak ?_);refine af b (w,()) rfl (ak ?_);refine rD (cap:=r.tU) WN rfl (j w st h p l c m co g hw (g.none g1) hu hi) ?_;rintro _ h2 ⟨rfl,p2,l2,c2,J,X⟩;refine ⟨(),rfl,ak ?_⟩;have d:=X.co G m co;have b2:=X.box (st:=st) (l:=l) (c:=c) G.ord ha U b;generalize cP (cz es) (cM (dh es)) f w st=st2 at J hk;refine af d.bL (some r.gL,()) rfl (ak ?_);refine af d.bL (some r.gL,()) rfl (ak ?_);refine J.AV v ?_;refine af d.bL (some r.gL,()) rfl (ak ?_);refine af b2 (w,()) rfl (ak ?_);refine J.AV w ?_;refine Vz ?_;refine J.sZ G.ord F rfl ?_;intro h3 Y Z z3;exact hk h3 p2 l2 c2 Y (X.trans Z)
 ·have g1:¬ (st.num w).getD 0=0:=by
   intro e;rw [e] at g1;simp at g1
  rw [Yx g1] at hk;refine af co.bO (some r.gO,()) rfl (ak ?_);refine af b (w,()) rfl (ak ?_);refine m.Wn w ?_;refine ar (fun g2=>?_) (fun g2=>?_)
  ·rw [YC g2] at hk;refine af co.bL (some r.gL,()) rfl (ak ?_);refine af co.bL (some r.gL,()) rfl (ak ?_);refine m.AV v ?_;refine af co.bN (some r.gN,()) rfl (ak ?_);refine af b (w,()) rfl (ak ?_);refine m.EH w ?_;refine Vz ?_;refine m.sZ G.ord F rfl ?_;intro h3 Y Z z3;exact hk h3 p l c Y Z
  ·rw [Yx (by simp [g2])] at hk;exact hk h p l c m (qu.refl _ _ _)
end
end Go.Sx
