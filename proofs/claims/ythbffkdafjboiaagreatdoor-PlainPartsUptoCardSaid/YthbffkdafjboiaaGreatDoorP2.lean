/- Contracts over heaps, part 2. Condition: as each statement says. -/
import Derived.Test.YthbffkdafjboiaaGreatDoorP1
import Derived.Test.YthbffkdafjboiaaGreatDoorBtD
import Derived.Test.YthbffkdafjboiaaGreatDoorCobjShelf
import Derived.Test.YthbffkdafjboiaaGreatDoorCShelfB
import Derived.Test.YthbffkdafjboiaaGreatDoorBtE
import Derived.LaidEql
import Derived.Stop.Asserts
import Derived.RowKitTokens
import Derived.Lib.ItoaLen
import Derived.Lib.ItoaMem
set_option linter.all false
set_option maxRecDepth 100000
set_option maxHeartbeats 4000000
namespace Go.Sx.Ob
open Go.Proofs
structure xX (h:Hp) (p:ZC) (l:Nat) (us:List cd):Prop where
 len:l=us.length
 many:us.length<=2^60
 cells:∀ i,(hi:i<us.length)->∃ a sa sb sc sd,p=some a/\aJ h (a.add (i*4)) 0 [cv.v sa,cv.v sb,cv.v sc,cv.v sd]/\sO h sa sb sc sd us[i]
def xX.an {h h':Hp} {p:ZC} {l:Nat} {us:List cd} (v:xX h p l us) (k:Ext h h'):xX h' p l us :=
 ⟨v.len,v.many,fun i hi=>by
  obtain ⟨a,sa,sb,sc,sd,ha,hc,hv⟩:=v.cells i hi;exact ⟨a,sa,sb,sc,sd,ha,aX k aj _ _ hc,hv.an k⟩⟩
def AL (u:cd):Bool:=decide (600<u.text.length) || decide (300<u.data.length) || decide (100<u.bg.length)
def H9 (u:cd):Nat:=u.text.length+u.data.length+u.bg.length
def ix (us:List cd):Nat:=(us.map H9).sum
def sQ (us:List cd):Bool:=(us.take 65).any AL || decide (900<ix (us.take 65))
def Ku {α:Type} (f:α->Bool) (l:List α) {i n:Nat} (hi:i<l.length) (hn:i<n) (h:f l[i]=true):(l.take n).any f=true:=by
 rw [Yt];exact ⟨l[i],List.mem_take_iff_getElem.2 ⟨i,ad,rfl⟩,h⟩
def FN (us:List cd) {i:Nat} (hi:i<us.length):ix (us.take (i+1))=ix (us.take i)+H9 us[i]:=by
 unfold ix;rw [W7 hi,Xf,List.sum_append]
 simp
def KB {h:Hp} {p:ZC} {l c:Nat} {us:List cd} (v:xX h p l us):vz Tryz.prog 25 [.slice p l c] h (.bool (sQ us)):=by
 refine et mixed Tryz.func25 az (oh p l c) ?_;unfold jN bf bh bG aQ bt dL aR cg;have hl:=v.len;have hm:=v.many;refine aU (cs:=[(false,[.bool]),(false,[.int .i64]),(false,[.int .i64])]) (fun y m h'=>∃ i:Nat,y.1=false/\y.2.1=((ix (us.take i):Nat):Int)/\y.2.2.1=(i:Int)/\m=l-i/\i<=l/\i<=65/\h'=h/\(us.take i).any AL=false/\ix (us.take i)<=i*1000) (false,(0:Int),(0:Int),()) l rfl
  ⟨0,rfl,rfl,rfl,rfl,ad,ad,rfl,rfl,by simp [ix]⟩ ?_
 rintro ⟨b1,n2,n3,⟨⟩⟩ m h1 ⟨i,hy1,hy2,hy3,rfl,hi,hi65,rfl,hb,hs⟩;simp only at hy1 hy2 hy3;subst hy1 hy2 hy3;refine ao ?_;have fin:(l<=i\/65<=i)->(T.ret (.bool (decide (((ix (us.take i):Nat):Int)>(900:Int))))) [Jl (cs:=[(false,[.bool]),(false,[.int .i64]),(false,[.int .i64])]) (fun y m h'=>∃ i:Nat,y.1=false/\y.2.1=((ix (us.take i):Nat):Int)/\y.2.2.1=(i:Int)/\m=l-i/\i<=l/\i<=65/\h'=h1/\(us.take i).any AL=false/\ix (us.take i)<=i*1000) (l-i)] (fun v' h'=>v'=.bool (sQ us)/\h'=h1) h1:=by
  intro hh
  have:us.take i=us.take 65:=by
   by_cases h65:i=65
   ·rw [h65]
   ·rw [XD ad,XD ad]
  refine ⟨?_,rfl⟩;unfold sQ;rw [<- this,hb,YJ]
  congr 1
  by_cases g:900<ix (us.take i)
  ·rw [W9 g,W9 ad]
  ·rw [Xa g,Xa ad]
 refine Ij (fun r=>?_) (fun r=>?_)
 ·have r:=W4 r;exact fin ad
 have r:=W2 r;refine Ij (fun w=>?_) (fun w=>?_)
 ·have w:=W4 w;exact fin ad
 have w:=W2 w;clear fin;have hiu:i<us.length:=ad
 obtain ⟨a,sa,sb,sc,sd,rfl,hc,hv⟩:=v.cells i hiu;have na:=hv.text.len;have nb:=hv.data.len;have nc:=hv.bg.len;have ca:aJ h1 (a.add (i*4)) 0 [cv.v sa]:=⟨hc.1,trivial⟩
 have cb:aJ h1 ((a.add (i*4)).add 1) 0 [cv.v sb]:=rl _ 1 0 ⟨hc.2.1,trivial⟩;have cc:aJ h1 ((a.add (i*4)).add 2) 0 [cv.v sc]:=rl _ 2 0 ⟨hc.2.2.1,trivial⟩;have pB:AL us[i]=true->(T.ret (.bool true)) [Jl (cs:=[(false,[.bool]),(false,[.int .i64]),(false,[.int .i64])]) (fun y m h'=>∃ i:Nat,y.1=false/\y.2.1=((ix (us.take i):Nat):Int)/\y.2.2.1=(i:Int)/\m=l-i/\i<=l/\i<=65/\h'=h1/\(us.take i).any AL=false/\ix (us.take i)<=i*1000) (l-i)] (fun v' h'=>v'=.bool (sQ us)/\h'=h1) h1:=by
  intro hg;refine ⟨?_,rfl⟩;unfold sQ;rw [Ku AL us hiu ad hg] <;> rfl
 refine ay ⟨ad,ad⟩ (ax rfl ?_);refine aC ((sa.p,sa.l,sa.c),()) ca (ao ?_);refine ak (fun g=>?_) (fun g1=>?_)
 ·have g:=W2 g;refine pB ?_;unfold AL;rw [W9 ad] <;> rfl
 have g1:=W4 g1;refine ay ⟨ad,ad⟩ (ax rfl ?_);refine aC ((sb.p,sb.l,sb.c),()) cb (ao ?_);refine ak (fun g=>?_) (fun g2=>?_)
 ·have g:=W2 g;refine pB ?_;unfold AL;rw [W9 (show 300<us[i].data.length from ad)]
  simp
 have g2:=W4 g2;refine ay ⟨ad,ad⟩ (ax rfl ?_);refine aC ((sc.p,sc.l,sc.c),()) cc (ao ?_);refine ak (fun g=>?_) (fun g3=>?_)
 ·have g:=W2 g;refine pB ?_;unfold AL;rw [W9 (show 100<us[i].bg.length from ad)]
  simp
 have g3:=W4 g3;refine ay ⟨ad,ad⟩ (ax rfl ?_);refine aC ((sa.p,sa.l,sa.c),()) ca (ao ?_);refine ay ⟨ad,ad⟩ (ax rfl ?_);refine aC ((sb.p,sb.l,sb.c),()) cb (ao ?_);refine ay ⟨ad,ad⟩ (ax rfl ?_);refine aC ((sc.p,sc.l,sc.c),()) cc (ao ?_);rw [wrap_i64 (x:=((ix (us.take i):Nat):Int)+(sa.l:Int)) ad ad,wrap_i64 (x:=((ix (us.take i):Nat):Int)+(sa.l:Int)+(sb.l:Int)) ad ad,wrap_i64 (x:=((ix (us.take i):Nat):Int)+(sa.l:Int)+(sb.l:Int)+(sc.l:Int)) ad ad,wrap_i64 (x:=(i:Int)+1) ad ad];have hst:=FN us hiu;have hsz:H9 us[i]=sa.l+sb.l+sc.l:=by unfold H9; omega
 refine aI (cs:=[(false,[.bool]),(false,[.int .i64]),(false,[.int .i64])]) (false,((ix (us.take (i+1)):Nat):Int),((i+1:Nat):Int),()) (l-(i+1)) rfl ad ?_ ?_
 ·show [Value.bool false,Value.int .i64 (((ix (us.take i):Nat):Int)+(sa.l:Int)+(sb.l:Int)+(sc.l:Int)),Value.int .i64 ((i:Int)+1)]=[Value.bool false,Value.int .i64 ((ix (us.take (i+1)):Nat):Int),Value.int .i64 ((i+1:Nat):Int)];rw [hst,hsz]
  congr 3
  omega
 ·refine ⟨i+1,rfl,rfl,rfl,rfl,ad,ad,rfl,?_,ad⟩;rw [W7 hiu,Ze,hb,YJ];unfold AL;simp only [List.any_cons,List.any_nil,Bool.or_false,Bool.or_eq_false_iff,decide_eq_false_iff_not];omega
def QC:Array (Nat × ZB):=#[(0,.agg #[.string ⟨#[110,111,112]⟩,.int .u8 (0:Int),.int .i64 (1:Int)]),(1,.agg #[.string ⟨#[104,97,108,116]⟩,.int .u8 (1:Int),.int .i64 (1:Int)]),(2,.agg #[.string ⟨#[114,101,116]⟩,.int .u8 (2:Int),.int .i64 (1:Int)]),(3,.agg #[.string ⟨#[112,114,105,110,116]⟩,.int .u8 (3:Int),.int .i64 (2:Int)]),(4,.agg #[.string ⟨#[105,110]⟩,.int .u8 (4:Int),.int .i64 (2:Int)]),(5,.agg #[.string ⟨#[112,117,115,104]⟩,.int .u8 (5:Int),.int .i64 (2:Int)]),(6,.agg #[.string ⟨#[112,111,112]⟩,.int .u8 (6:Int),.int .i64 (2:Int)]),(7,.agg #[.string ⟨#[106,114]⟩,.int .u8 (7:Int),.int .i64 (2:Int)]),(8,.agg #[.string ⟨#[110,101,103]⟩,.int .u8 (8:Int),.int .i64 (2:Int)]),(9,.agg #[.string ⟨#[110,111,116]⟩,.int .u8 (9:Int),.int .i64 (2:Int)]),(10,.agg #[.string ⟨#[122,116,117,114,110]⟩,.int .u8 (10:Int),.int .i64 (3:Int)]),(11,.agg #[.string ⟨#[122,99,111,110,106]⟩,.int .u8 (11:Int),.int .i64 (3:Int)]),(12,.agg #[.string ⟨#[109,111,118]⟩,.int .u8 (16:Int),.int .i64 (4:Int)]),(13,.agg #[.string ⟨#[97,100,100]⟩,.int .u8 (17:Int),.int .i64 (4:Int)]),(14,.agg #[.string ⟨#[115,117,98]⟩,.int .u8 (18:Int),.int .i64 (4:Int)]),(15,.agg #[.string ⟨#[109,117,108]⟩,.int .u8 (19:Int),.int .i64 (4:Int)]),(16,.agg #[.string ⟨#[100,105,118]⟩,.int .u8 (20:Int),.int .i64 (4:Int)]),(17,.agg #[.string ⟨#[97,110,100]⟩,.int .u8 (21:Int),.int .i64 (4:Int)]),(18,.agg #[.string ⟨#[111,114]⟩,.int .u8 (22:Int),.int .i64 (4:Int)]),(19,.agg #[.string ⟨#[120,111,114]⟩,.int .u8 (23:Int),.int .i64 (4:Int)]),(20,.agg #[.string ⟨#[115,104,108]⟩,.int .u8 (24:Int),.int .i64 (4:Int)]),(21,.agg #[.string ⟨#[115,104,114]⟩,.int .u8 (25:Int),.int .i64 (4:Int)]),(22,.agg #[.string ⟨#[108,116]⟩,.int .u8 (26:Int),.int .i64 (4:Int)]),(23,.agg #[.string ⟨#[101,113]⟩,.int .u8 (27:Int),.int .i64 (4:Int)]),(24,.agg #[.string ⟨#[108,100,98]⟩,.int .u8 (28:Int),.int .i64 (4:Int)]),(25,.agg #[.string ⟨#[108,100,119]⟩,.int .u8 (29:Int),.int .i64 (4:Int)]),(26,.agg #[.string ⟨#[108,100,109]⟩,.int .u8 (30:Int),.int .i64 (4:Int)]),(27,.agg #[.string ⟨#[115,116,109]⟩,.int .u8 (31:Int),.int .i64 (4:Int)]),(28,.agg #[.string ⟨#[122,109,111,118]⟩,.int .u8 (32:Int),.int .i64 (5:Int)]),(29,.agg #[.string ⟨#[122,97,100,100]⟩,.int .u8 (33:Int),.int .i64 (5:Int)]),(30,.agg #[.string ⟨#[122,115,117,98]⟩,.int .u8 (34:Int),.int .i64 (5:Int)]),(31,.agg #[.string ⟨#[122,109,117,108]⟩,.int .u8 (35:Int),.int .i64 (5:Int)]),(32,.agg #[.string ⟨#[122,114,101]⟩,.int .u8 (36:Int),.int .i64 (6:Int)]),(33,.agg #[.string ⟨#[122,105,109]⟩,.int .u8 (37:Int),.int .i64 (6:Int)]),(34,.agg #[.string ⟨#[122,115,101,116]⟩,.int .u8 (38:Int),.int .i64 (7:Int)]),(35,.agg #[.string ⟨#[108,105,115]⟩,.int .u8 (48:Int),.int .i64 (8:Int)]),(36,.agg #[.string ⟨#[116,114,97,112]⟩,.int .u8 (49:Int),.int .i64 (9:Int)]),(37,.agg #[.string ⟨#[108,105]⟩,.int .u8 (50:Int),.int .i64 (10:Int)]),(38,.agg #[.string ⟨#[108,100,112]⟩,.int .u8 (51:Int),.int .i64 (11:Int)]),(39,.agg #[.string ⟨#[106,109,112]⟩,.int .u8 (64:Int),.int .i64 (12:Int)]),(40,.agg #[.string ⟨#[99,97,108,108]⟩,.int .u8 (67:Int),.int .i64 (12:Int)]),(41,.agg #[.string ⟨#[106,122]⟩,.int .u8 (70:Int),.int .i64 (13:Int)]),(42,.agg #[.string ⟨#[106,110,122]⟩,.int .u8 (73:Int),.int .i64 (13:Int)])]
def sT (k:Nat):ZA:=match QC[k]? with | some (_,.agg #[.string s,_,_])=>s | _=>⟨#[]⟩
def tK (k:Nat):Int:=match QC[k]? with | some (_,.agg #[_,.int _ b,_])=>b | _=>0
def VO:Tryz.prog.underlying 163=some (.slice 162):=az
def WO:(Tryz.prog.info? 162).map (fun i=>(i.zero,i.size,i.bytes))=some (some (.agg #[.string ⟨#[]⟩,.int .u8 0,.int .i64 0]),3,32):=az
def Qa:Instr.fill (fun j=>some (j*3,3)) ((Array.range (43*3)).map ((Value.agg #[.string ⟨#[]⟩,.int .u8 0,.int .i64 0]).cells[· % (Value.agg #[.string ⟨#[]⟩,.int .u8 0,.int .i64 0]).cells.size]!)) QC.toList=some (iT sT tK).toArray:=az
def SM (h:Hp):HC Tryz.prog 79 #[] h fun v h'=>v=.slice (some ⟨h.size,0,none⟩) 43 43/\bH h' h.size 162 (iT sT tK)/\Ext h h':=by
 refine bd (args:=[]) mixed Tryz.func79 az pY ?_;show (T.ek Tryz.prog (Instr.buildSlice 163 43 QC) false [(false,[.slice 0])] <| fun (p0:ZC) (l1:Nat) (l2:Nat)=>T.ret (.slice p0 l1 l2)) [] _ h;refine mH VO WO ad ad Qa ?_;intro h1 b1 e1 z1;exact ⟨rfl,b1,e1⟩
def J9 {nm:Nat->ZA} {by_:Nat->Int} {k:Nat} (hk:k<43):(iT nm by_)[k*3+2]?=some (.int .i64 (jG.getD k 0:Nat)):=by
 unfold iT;rw [qZ _ 3 aj _ _ _ ad];simp [hk]
def qy (h:Hp) (op:Int) (ho:Sm op):HC Tryz.prog 78 #[.int .i64 op] h fun w h'=>w=.int .i64 (cP op:Nat)/\Ext h h':=by
 refine bd (args:=[.int .i64 op]) mixed Tryz.func78 az (nK op) ?_;unfold jQ bK bt;refine aK (SM h) ?_;rintro _ h1 ⟨rfl,b1,e1⟩;refine ⟨((some ⟨h.size,0,none⟩,43,43),()),rfl,ao ?_⟩;have z0:op<1\/43<op->cP op=0:=by
  intro hh
  by_cases h0:cP op=0
  ·exact h0
  ·have:=CB op h0
   omega
 refine ak (fun q=>?_) (fun q=>?_)
 ·have q:=W2 q;rw [z0 (.inl q)];exact ⟨rfl,e1⟩
 have q:=W4 q;refine ak (fun r=>?_) (fun r=>?_)
 ·have r:op>((43:Nat):Int):=W2 r;rw [z0 (.inr ad)];exact ⟨rfl,e1⟩
 have r:¬ op>((43:Nat):Int):=W4 r;obtain ⟨k,hk⟩:∃ k:Nat,op=(k:Int)+1:=⟨(op-1).toNat,ad⟩
 rw [wrap_i64 ad ad,show op-1=(k:Int) from ad];have hk43:k<43:=ad
 refine ay ⟨ad,ad⟩ ?_;refine ax rfl ?_;rw [show Int.toNat (k:Int)=k from rfl,aG,aG];have hs:cP op=jG.getD k 0:=by
  unfold cP;rw [W6 ad,show (op-1).toNat=k from ad]
 refine af b1 (((jG.getD k 0:Nat):Int),()) ?_ ?_
 ·show List.take 1 (List.drop (0+k*3+2) (iT sT tK))=[.int .i64 ((jG.getD k 0:Nat):Int)]
  have:=J9 (nm:=sT) (by_:=tK) hk43
  rw [XK];obtain ⟨hlt,hv⟩:=Xn.1 this;rw [Xi hlt,List.take_succ_cons,List.take_zero,hv]
 ·rw [hs];exact ⟨rfl,e1⟩
def BF (h:Hp) (op:Int) (ho:Sm op):HC Tryz.prog 123 #[.int .i64 op] h fun w h'=>w=.bool (px op)/\Ext h h':=by
 refine bd (args:=[.int .i64 op]) mixed Tryz.func123 az (nO op) ?_;unfold jK cD dL;have hc:=gV op;refine aK (qy h op ho) ?_;rintro _ h1 ⟨rfl,e1⟩;refine ⟨(((cP op:Nat):Int),()),rfl,ao ?_⟩;refine ak (fun q=>?_) (fun q=>?_)
 ·have q:cP op=12:=EC q;exact ⟨by unfold px; rw [q]; rfl,e1⟩
 have q:¬ cP op=12:=EN q;refine aK (qy h1 op ho) ?_;rintro _ h2 ⟨rfl,e2⟩;refine ⟨(((cP op:Nat):Int),()),rfl,?_⟩;refine ⟨?_,e1.trans e2⟩
 congr 1
 unfold px
 by_cases g:cP op=13
 ·rw [g]; rfl
 ·rw [Xa ad];exact Wx (c:=13) g
def Ix (h:Hp) (op:Int) (ho:Sm op):HC Tryz.prog 125 #[.int .i64 op] h fun w h'=>w=.bool (Fz op)/\Ext h h':=by
 refine bd (args:=[.int .i64 op]) mixed Tryz.func125 az (oY op) ?_;unfold kh cD dL;have hc:=gV op;refine aK (qy h op ho) ?_;rintro _ h1 ⟨rfl,e1⟩;refine ⟨(((cP op:Nat):Int),()),rfl,ao ?_⟩;refine ak (fun q=>?_) (fun q1=>?_)
 ·have q:cP op=10:=EC q;exact ⟨by unfold Fz; rw [q]; rfl,e1⟩
 have q1:¬ cP op=10:=EN q1;refine ak (fun q=>?_) (fun q2=>?_)
 ·have q:cP op=11:=EC q;exact ⟨by unfold Fz; rw [q]; rfl,e1⟩
 have q2:¬ cP op=11:=EN q2;refine ak (fun q=>?_) (fun q3=>?_)
 ·have q:cP op=12:=EC q;exact ⟨by unfold Fz; rw [q]; rfl,e1⟩
 have q3:¬ cP op=12:=EN q3;refine ⟨?_,e1⟩
 congr 1
 unfold Fz
 by_cases g:cP op=13
 ·rw [g]; rfl
 ·rw [Xa ad];exact Wx (c:=13) g
def Pt (h:Hp) (n w:Int):vz Tryz.prog 147 [.int .i32 n,.int .i64 w] h (.bool ((decide (w=1) || decide (w=2) || decide (w=4)) && lU n w)):=by
 refine et mixed Tryz.func147 az (oE n w) ?_;unfold kE lU bC dL;refine ak (fun q=>?_) (fun q1=>?_)
 ·have q:w=1:=by simpa using q
  rw [Xb q,q];refine ak (fun r=>⟨?_,rfl⟩) (fun r=>⟨?_,rfl⟩)
  ·have r:=W2 r;rw [W9 (show -128<=n from r)]
   simp
  ·have r:=W4 r;rw [Xa (show ¬ -128<=n from r)]
   simp
 have q1:¬ w=1:=by simpa using q1
 rw [W6 q1];refine ak (fun q=>?_) (fun q2=>?_)
 ·have q:w=2:=by simpa using q
  rw [Xb q,q];refine ak (fun r=>⟨?_,rfl⟩) (fun r=>⟨?_,rfl⟩)
  ·have r:=W2 r;rw [W9 (show -32768<=n from r)]
   simp
  ·have r:=W4 r;rw [Xa (show ¬ -32768<=n from r)]
   simp
 have q2:¬ w=2:=by simpa using q2
 rw [W6 q2];refine ak (fun q=>?_) (fun q3=>?_)
 ·have q:w=4:=by simpa using q
  rw [q];exact ⟨rfl,rfl⟩
 ·have q3:¬ w=4:=by simpa using q3
  rw [Xa q1,Xa q2,Xa q3];exact ⟨rfl,rfl⟩
def aA (s:Nat):Nat:=if s=2\/s=8\/s=10\/s=11\/s=13\/s=4\/s=6 then 8 else if s=3\/s=5\/s=7 then 4 else 0
def bB (s:Nat):Nat:=if s=4\/s=7 then 8 else if s=5\/s=6 then 4 else 0
def MJ {s:Nat} (hs:1<=s/\s<=13) (a b n:Int):cG s a b n=true↔(0<=a/\0<=b/\(a<(aA s:Int)\/(aA s=0/\a=0))/\(b<(bB s:Int)\/(bB s=0/\b=0))/\(s=7->0<=n/\n<=7)):=by
 have:s=1\/s=2\/s=3\/s=4\/s=5\/s=6\/s=7\/s=8\/s=9\/s=10\/s=11\/s=12\/s=13:=ad
 unfold cG vA aA bB;rcases this with rfl | rfl | rfl | rfl | rfl | rfl | rfl | rfl | rfl | rfl | rfl | rfl | rfl <;> simp <;> omega
def JJ (h:Hp) (op a b n form:Int) (ho:Sm op) (hs:cP op≠0):HC Tryz.prog 146 #[dk op a b n form] h fun w h'=>w=.bool (cG (cP op) a b n)/\Ext h h':=by
 refine bd (args:=[dk op a b n form]) mixed Tryz.func146 az (kJ op a b n form) ?_;unfold gj cD bC dL aR;have hc:1<=cP op/\cP op<=13:=by have:=gV op; omega
 refine bk ?_;intro h1 b1 e1 z1;refine af b1 (op,()) rfl (ao ?_);refine aK (qy h1 op ho) ?_;rintro _ h2 ⟨rfl,e2⟩;refine ⟨(((cP op:Nat):Int),()),rfl,ao ?_⟩;have b2:=b1.an e2 aj;have e02:=e1.trans e2;have hiff:=MJ hc a b n;generalize cP op=s at *;generalize cG s a b n=R at *;refine iv (cs:=[(false,[.int .i64]),(false,[.int .i64])]) (fun y h'=>y=(((aA s:Nat):Int),((bB s:Nat):Int),())/\h2=h') ?_ ?_
 ·have:s=1\/s=2\/s=3\/s=4\/s=5\/s=6\/s=7\/s=8\/s=9\/s=10\/s=11\/s=12\/s=13:=ad
  rcases this with rfl | rfl | rfl | rfl | rfl | rfl | rfl | rfl | rfl | rfl | rfl | rfl | rfl
  all_goals (repeat (first | refine bn rfl ?_ | refine bJ rfl ?_))
  all_goals exact dJ (cs:=[(false,[.int .i64]),(false,[.int .i64])]) (((aA _:Nat):Int),((bB _:Nat):Int),()) rfl rfl ⟨rfl,rfl⟩
 rintro ⟨A,B,⟨⟩⟩ _ ⟨hy,rfl⟩;cases hy;refine ao ?_;simp only [aG];have fin:∀ b:Bool,(b=true↔R=true)->(T.ret (.bool b)) [] (fun w h'=>w=.bool R/\Ext h h') h2:=by
  intro b hb;refine ⟨?_,e02⟩;cases b <;> cases R <;> simp_all
 repeat' (first
  | (refine af b2 (a,()) rfl ?_; refine ao ?_)
  | (refine af b2 (b,()) rfl ?_; refine ao ?_)
  | (refine af b2 (n,()) rfl ?_; refine ao ?_)
  | refine fin _ ?_
  | refine ak (fun q=>?_) (fun q=>?_))
 all_goals (rw [hiff]; simp only [decide_eq_true_eq,decide_eq_false_iff_not,bne_iff_ne,ne_eq,bne_eq_false_iff_eq,Bool.false_eq_true,false_iff,true_iff] at *; omega)
def vc (n w:Int):Bool:=(decide (w=1) || decide (w=2) || decide (w=4)) && lU n w
def DC (n w:Int):Prop:=(w=1/\-128<=n/\n<=127)\/(w=2/\-32768<=n/\n<=32767)\/w=4
def Ho (n w:Int):vc n w=true↔DC n w:=by
 unfold vc lU DC
 by_cases h1:w=1
 ·subst h1; simp
 ·by_cases h2:w=2
  ·subst h2; simp
  ·by_cases h4:w=4
   ·subst h4; simp
   ·simp [h1,h2,h4]
def SC (n w:Int):vc n w=false↔¬ DC n w:=by
 rw [<- Ho]
 simp
def bq {i:Ins} (h0:cP i.op≠0) (hR:cG (cP i.op) i.a i.b i.n=true) (P:Prop) (hP:P↔((cP i.op=12\/cP i.op=13->DC i.n i.form)/\(cP i.op≠12/\cP i.op≠13->i.form=0)/\(cP i.op=8->-128<=i.n/\i.n<=127)/\(cP i.op=9->0<=i.n/\i.n<=255)/\(cP i.op=11->0<=i.n/\i.n<=4095) /\
  (cP i.op<7->i.n=0))):(P->gk i=0)/\(¬ P->gk i=13):=by
 obtain ⟨op,a,b,n,form⟩:=i;simp only at *;have hc:=gV op;have key:(!px op && decide (form≠0) || !nR (cP op) n form)=true↔¬ P:=by
  rw [hP];unfold px nR lU DC
  have:cP op=1\/cP op=2\/cP op=3\/cP op=4\/cP op=5\/cP op=6\/cP op=7\/cP op=8\/cP op=9\/cP op=10\/cP op=11\/cP op=12\/cP op=13:=ad
  rcases this with h | h | h | h | h | h | h | h | h | h | h | h | h <;> rw [h]
  all_goals (
   by_cases f1:form=1
   ·subst f1; simp; try omega
   ·by_cases f2:form=2
    ·subst f2; simp; try omega
    ·by_cases f4:form=4
     ·subst f4; simp; try omega
     ·by_cases f0:form=0
      ·subst f0; simp; try omega
      ·simp [f1,f2,f4,f0])
 unfold gk;simp only;rw [W6 h0,hR,W6 aj];refine ⟨fun hp=>?_,fun hp=>?_⟩
 ·rw [W6 (fun e=>key.1 e hp)]
 ·rw [Xb (key.2 hp)]
def JK (h:Hp) (op a b n form:Int) (ho:Sm op):HC Tryz.prog 124 #[dk op a b n form] h fun w h'=>w=.int .i64 (gk ⟨op,a,b,n,form⟩)/\Ext h h':=by
 refine bd (args:=[dk op a b n form]) mixed Tryz.func124 az (nk op a b n form) ?_;unfold jT aT cD;refine bk ?_;intro h1 b1 e1 z1;refine af b1 (op,()) rfl (ao ?_);refine aK (qy h1 op ho) ?_;rintro _ h2 ⟨rfl,e2⟩;refine ⟨(((cP op:Nat):Int),()),rfl,ao ?_⟩;have b2:=b1.an e2 aj;have e02:=e1.trans e2;refine ak (fun q=>?_) (fun q=>?_)
 ·have q:cP op=0:=EC q;exact ⟨by unfold gk; simp only; rw [Xb q],e02⟩
 have q:¬ cP op=0:=EN q;refine af b2 (op,a,b,n,form,()) rfl (ao ?_);refine gP (JJ h2 op a b n form ho q) ?_;intro h3 e3;have b3:=b2.an e3 aj;have e03:=e02.trans e3;refine ak (fun r=>?_) (fun r=>?_)
 ·have r:cG (cP op) a b n=false:=by simpa using r
  exact ⟨by unfold gk; simp only; rw [W6 q,r,Xb rfl],e03⟩
 have r:cG (cP op) a b n=true:=by simpa using r
 have hc:=gV op;obtain ⟨k0,k13⟩:=bq (i:=⟨op,a,b,n,form⟩) q r _ Iff.rfl;simp only at k0 k13;generalize gk ⟨op,a,b,n,form⟩=C at *;generalize cP op=s at *;clear r;have f0:((s=12\/s=13->DC n form)/\(s≠12/\s≠13->form=0)/\(s=8->-128<=n/\n<=127)/\(s=9->0<=n/\n<=255)/\(s=11->0<=n/\n<=4095)/\(s<7->n=0))->(T.ret (.int .i64 (0:Int))) [] (fun w h'=>w=.int .i64 C/\Ext h h') h3:=fun hp=>⟨by rw [k0 hp],e03⟩
 have f13:¬ ((s=12\/s=13->DC n form)/\(s≠12/\s≠13->form=0)/\(s=8->-128<=n/\n<=127)/\(s=9->0<=n/\n<=255)/\(s=11->0<=n/\n<=4095)/\(s<7->n=0))->(T.ret (.int .i64 (13:Int))) [] (fun w h'=>w=.int .i64 C/\Ext h h') h3:=fun hp=>⟨by rw [k13 hp],e03⟩
 clear k0 k13;simp only [aG]
 repeat' (first
  | (refine af b3 (n,()) rfl ?_; refine ao ?_)
  | (refine af b3 (form,()) rfl ?_; refine ao ?_)
  | refine f0 ?_
  | refine f13 ?_
  | refine aM (b:=vc n form) (Pt h3 n form) ?_
  | refine ak (fun q=>?_) (fun q=>?_))
 all_goals (
  clear f0 f13;simp only [decide_eq_true_eq,decide_eq_false_iff_not,bne_iff_ne,ne_eq,bne_eq_false_iff_eq,beq_iff_eq,beq_eq_false_iff_ne,Bool.not_eq_true',Bool.not_eq_false',Ho,SC,DC] at *;omega)
def nq (x:cF) (b1 b2 b3 b4:Bool):Bool:=(!b1 || z1 x) && ((!b2 || z2 x) && ((!b3 || z3 x) && (!b4 || z4 x)))
def Tb (s:ZA):(ByteArray.toList s==([]:List UInt8))=decide (s=dF):=by
 have:=qd s dF
 rw [show ByteArray.toList dF=[] by rw [ByteArray.toList_eq]; rfl] at this;exact this
def OJ (n:Nat) (m:Nat) (i:Ins) (h:Hp) (K:ZB->Hp->Prop) (hk:K (.bool (decide (i=Qk))) h) :
  aS Tryz.prog (Sx.ir (BinOp.eql) 65 (Operand.tmp n) (Operand.tmp m) (.agg #[.int .i64 i.op,.int .i64 i.a,.int .i64 i.b,.int .i32 i.n,.int .i64 i.form]) (.agg #[.int .i64 (0:Int),.int .i64 (0:Int),.int .i64 (0:Int),.int .i32 (0:Int),.int .i64 (0:Int)])) h K :=
 Pc _ _ i Qk h K hk
def O6 {h:Hp} {x:cF} {p:ZC} {l c:Nat} (v:gK h p l x.e.ai) (b1 b2 b3 b4:Bool) :
  HC Tryz.prog 122 #[uO p l c x,.bool b1,.bool b2,.bool b3,.bool b4] h fun w h'=>w=.bool (nq x b1 b2 b3 b4)/\Ext h h':=by
 refine bd (args:=[uO p l c x,.bool b1,.bool b2,.bool b3,.bool b4]) mixed Tryz.func122 az (oV x.kind x.name x.inst.op x.inst.a x.inst.b x.inst.n x.inst.form p l c x.e.num x.n b1 b2 b3 b4) ?_;unfold kx dr aH bC dL;have hl:=v.len;have hz:N8 x.e=(decide (l=0) && decide (x.e.num=0)):=by
  unfold N8
  congr 1
  rw [hl]
  simp
 refine bk ?_;intro h1 bx e1 zz1;have bx:bH h1 h.size 71 (encI p l c x):=bx;simp only [aG];unfold nq z1 z2 z3 z4;rw [hz]
 repeat' (first
  | (refine af bx (x.n,()) rfl ?_; refine ao ?_)
  | (refine af bx (x.name,()) rfl ?_; refine ao ?_)
  | (refine af bx ((p,l,c),()) rfl ?_; refine ao ?_)
  | (refine af bx ((x.e.num:Int),()) rfl ?_; refine ao ?_)
  | (refine af bx (x.inst.op,x.inst.a,x.inst.b,x.inst.n,x.inst.form,()) rfl ?_; refine ao ?_)
  | refine lz (fun K' hK=>OJ _ _ x.inst h1 K' hK) ?_
  | refine ⟨Xj Value.bool ?_,e1⟩
  | refine ak (fun q=>?_) (fun q=>?_))
 all_goals (
  try simp only [Tb] at *
  simp_all [cZ])
 all_goals omega
def QG (g:Nat) (b1 b2 b3 b4:Bool) (k:Bool->T):T :=
 T.ah ⟨g,0,none⟩ [.int .i64,.string,.int .i64,.int .i64,.int .i64,.int .i32,.int .i64,.slice 117,.int .u32,.int .i64] <| fun (n5:Int) (s6:ZA) (n7:Int) (n8:Int) (n9:Int) (n10:Int) (n11:Int) (p12:ZC) (l13:Nat) (l14:Nat) (n15:Int) (n16:Int) =>
  bK 122 [.agg #[.int .i64 n5,.string s6,.int .i64 n7,.int .i64 n8,.int .i64 n9,.int .i32 n10,.int .i64 n11,.slice p12 l13 l14,aH n15,.int .i64 n16],.bool b1,.bool b2,.bool b3,.bool b4] false [cg] k
def gH {L:Lp} {K:ZB->Hp->Prop} {h:Hp} {g:Nat} {x:cF} {p:ZC} {l c:Nat} {b1 b2 b3 b4:Bool} {k:Bool->T} (bx:bH h g 71 (encI p l c x)) (v:gK h p l x.e.ai) (hk:∀ h',Ext h h'->k (nq x b1 b2 b3 b4) L K h'):QG g b1 b2 b3 b4 k L K h:=by
 unfold QG bK aH cg;refine af bx (x.kind,x.name,x.inst.op,x.inst.a,x.inst.b,x.inst.n,x.inst.form,(p,l,c),(x.e.num:Int),x.n,()) rfl (ao ?_);exact gP (O6 v b1 b2 b3 b4) hk
def BK (h:Hp) (n:Int):vz Tryz.prog 126 [.int .i64 n] h (.bool (tQ n)):=by
 refine et mixed Tryz.func126 az (oc n) ?_;unfold jS bt bC dL aR cg;refine aU (cs:=[(false,[.bool]),(false,[.int .i64])]) (fun y m h'=>∃ k:Nat,y=(false,((2^k:Nat):Int),())/\m=9-k/\k<=9/\h'=h/\(∀ j,j<k->¬ n=((2^j:Nat):Int))) (false,(1:Int),()) 9 rfl
  ⟨0,rfl,rfl,ad,rfl,fun j hj=>ad⟩ ?_
 rintro ⟨b1,n2,⟨⟩⟩ m h1 ⟨k,hy,hm,hk,rfl,hj⟩;cases hy;refine ao ?_;refine ak (fun q=>?_) (fun q=>?_)
 ·have q:=W2 q;have hk8:k<=8:=by
   by_cases g:k=9
   ·subst g;exact absurd q cn
   ·omega
  refine ak (fun r=>?_) (fun r=>?_)
  ·have r:n=((2^k:Nat):Int):=by simpa using r
   refine ⟨?_,rfl⟩
   have:k=0\/k=1\/k=2\/k=3\/k=4\/k=5\/k=6\/k=7\/k=8:=ad
   rcases this with rfl | rfl | rfl | rfl | rfl | rfl | rfl | rfl | rfl <;> (rw [r]; rfl)
  ·have r:¬ n=((2^k:Nat):Int):=by simpa using r
   have hp:2^k<=2^8:=Nat.pow_le_pow_right ad hk8;have hp2:((2^k:Nat):Int)<=256:=by exact_mod_cast hp
   have hp3:(0:Int)<=((2^k:Nat):Int):=Int.natCast_nonneg _;rw [wrap_i64 ad ad];have h2:(2:Int)*((2^k:Nat):Int)=((2^(k+1):Nat):Int):=by rw [Nat.pow_succ]; omega
   rw [h2];refine aI (cs:=[(false,[.bool]),(false,[.int .i64])]) (false,((2^(k+1):Nat):Int),()) (9-(k+1)) rfl ad rfl ⟨k+1,rfl,rfl,ad,rfl,fun j hj'=>?_⟩
   by_cases g:j=k
   ·subst g; exact r
   ·exact hj j ad
 ·have q:=W4 q;have hk9:k=9:=by
   by_cases g:k=9
   ·exact g
   ·have hp:2^k<=2^8:=Nat.pow_le_pow_right ad ad;omega
  subst hk9;refine ⟨?_,rfl⟩;have a0:=hj 0 ad;have a1:=hj 1 ad;have a2:=hj 2 ad;have a3:=hj 3 ad;have a4:=hj 4 ad;have a5:=hj 5 ad;have a6:=hj 6 ad;have a7:=hj 7 ad;have a8:=hj 8 ad;unfold tQ;simp only [Nat.reducePow] at a0 a1 a2 a3 a4 a5 a6 a7 a8;rw [Xa ad,Xa ad,Xa ad,Xa ad,Xa ad,Xa ad,Xa ad,Xa ad,Xa ad] <;> rfl
def Kx {h:Hp} {x:cF} {p:ZC} {l c:Nat} (v:kC h p l x):HC Tryz.prog 96 #[uO p l c x,.int .i64 (0:Int)] h fun w h'=>w=C0 (cw x 0)/\Ext h h':=by
 refine bd (args:=[uO p l c x,.int .i64 (0:Int)]) mixed Tryz.func96 az (lP x.kind x.name x.inst.op x.inst.a x.inst.b x.inst.n x.inst.form p l c x.e.num x.n) ?_;unfold gW aT cD aH cg;have hml:maxLen=9223372036854775807:=rfl;refine bk ?_;intro h1 b1 e1 z1';have b1:bH h1 h.size 71 (encI p l c x):=b1;have v1:=v.an e1;simp only [aG];refine iv (cs:=[(false,[.bool])]) (fun y h'=>y.1=cw x 0/\Ext h h') ?_ ?_
 rotate_left
 ·rintro ⟨b2,⟨⟩⟩ h' ⟨hy,e'⟩;simp only at hy;subst hy;refine ao ?_;cases hr:cw x 0
  ·exact ⟨rfl,e'⟩
  ·exact ⟨rfl,e'⟩
 have fin:∀ (b:Bool) (h':Hp),b=cw x 0->Ext h h'->T.again 0 [.bool b] [fun vs h'=>∃ y:qb (flat [(false,[.bool])]),vs=parts [(false,[.bool])] (dZ _ y)/\(y.1=cw x 0/\Ext h h')] (fun w h'=>w=C0 (cw x 0)/\Ext h h') h':=by
  rintro b h' rfl e';exact dJ (cs:=[(false,[.bool])]) (J:=fun y h'=>y.1=cw x 0/\Ext h h') (cw x 0,()) rfl rfl ⟨rfl,e'⟩
 refine af b1 (x.kind,()) rfl (ao ?_)
 by_cases k1:x.kind=1
 ·refine bn (by rw [k1]; rfl) ?_;have hit:cw x 0=(cT x.name.data.toList && z2 x && z3 x && z4 x):=by unfold cw; rw [Xb k1]
  refine af b1 (x.name,()) rfl (ao ?_);refine aM (rJ x.name h1 (by have:=v.name; omega)) ?_;refine ak (fun q=>?_) (fun q=>fin _ _ (by rw [hit,q]; rfl) e1);refine gH b1 v1.lin.vw ?_;intro h2 e2;exact fin _ _ (by rw [hit,q]; unfold nq; simp [Bool.and_assoc]) (e1.trans e2)
 refine bJ (by simpa using k1) ?_
 by_cases k2:x.kind=2
 ·refine bn (by rw [k2]; rfl) ?_;have hit:cw x 0=(yF x.inst x.e && z1 x && z4 x):=by unfold cw; rw [W6 k1,Xb k2]; simp
  refine af b1 (x.inst.op,x.inst.a,x.inst.b,x.inst.n,x.inst.form,()) rfl (ao ?_);refine bk ?_;intro h2 b2 e2 z2';refine aw b2 rfl aj ?_;intro h3 b3 k3 z3';have b3:bH h3 h1.size 65 (nV x.inst):=b3;have e13:Ext h1 h3:=e2.st k3 (Xk _);have b13:=b1.an e13 aj;rw [aG];refine af b3 (x.inst.form,()) rfl (ao ?_);refine iv (cs:=[]) (fun _ h'=>bH h' h1.size 65 (nV { x.inst with form:=if px x.inst.op then 1 else x.inst.form })/\Ext h1 h') ?_ ?_
  ·refine af b3 (x.inst.op,()) rfl (ao ?_);refine gP (BF h3 x.inst.op v.op) ?_;intro h4 e4;have b4:=b3.an e4 aj;refine ak (fun q=>?_) (fun q=>?_)
   ·refine aw b4 rfl (by simp [nV]) ?_;intro h5 b5 k5 z5;exact dJ (cs:=[]) () rfl rfl ⟨by rw [Xb q]; exact b5,(e13.trans e4).st k5 (by have:=e13.size; omega)⟩
   ·exact dJ (cs:=[]) () rfl rfl ⟨by rw [W6 (by rw [q]; decide)]; exact b4,e13.trans e4⟩
  rintro _ h5 ⟨b5,e5⟩;refine ao ?_;have b15:=b1.an e5 aj;have v5:=v1.an e5;refine iv (cs:=[(false,[.bool])]) (fun y h'=>y.1=(decide (x.inst.form=0) && decide (gk { x.inst with form:=if px x.inst.op then 1 else x.inst.form }=0) && (z1 x && z4 x))/\Ext h5 h') ?_ ?_
  ·refine ak (fun q=>?_) (fun q=>?_)
   ·have q:x.inst.form=0:=by simpa using q
    refine af b5 (x.inst.op,x.inst.a,x.inst.b,x.inst.n,((if px x.inst.op then (1:Int) else x.inst.form):Int),()) rfl (ao ?_);refine aK (JK h5 x.inst.op x.inst.a x.inst.b x.inst.n (if px x.inst.op then 1 else x.inst.form) v.op) ?_;rintro _ h6 ⟨rfl,e6⟩;refine ⟨(gk { x.inst with form:=if px x.inst.op then 1 else x.inst.form },()),rfl,ao ?_⟩;refine ak (fun r=>?_) (fun r=>?_)
    ·have r:gk { x.inst with form:=if px x.inst.op then 1 else x.inst.form }=0:=by simpa using r
     refine gH (b15.an e6 aj) (v5.an e6).lin.vw ?_;intro h7 e7;exact dJ (cs:=[(false,[.bool])]) (nq x true false false true,()) rfl rfl ⟨by rw [W9 q,W9 r]; rfl,e6.trans e7⟩
    ·have r:¬ gk { x.inst with form:=if px x.inst.op then 1 else x.inst.form }=0:=by simpa using r
     exact dJ (cs:=[(false,[.bool])]) (false,()) rfl rfl ⟨by rw [W9 q,Xa r]; rfl,e6⟩
   ·have q:¬ x.inst.form=0:=by simpa using q
    exact dJ (cs:=[(false,[.bool])]) (false,()) rfl rfl ⟨by rw [Xa q]; rfl,Ch.refl _ _⟩
  rintro ⟨b10,⟨⟩⟩ h6 ⟨hy,e6⟩;simp only at hy;subst hy;refine ao ?_;have b6:=b5.an e6 aj;have b16:=b15.an e6 aj;have v6:=v5.an e6;refine af b6 (x.inst.op,()) rfl (ao ?_);refine gP (Ix h6 x.inst.op v.op) ?_;intro h7 e7;have b7:=b6.an e7 aj;have b17:=b16.an e7 aj;have v7:=v6.an e7;have e07:=((e1.trans e5).trans e6).trans e7;have hchk:Fz x.inst.op=true->(decide (x.inst.form=0) && decide (gk { x.inst with form:=if px x.inst.op then 1 else x.inst.form }=0) && (z1 x && z4 x) && (decide (x.inst.n=0) && ni none x.e.ai))=cw x 0:=by
   intro hw;rw [hit];unfold yF;rw [Xb hw]
   by_cases f0:x.inst.form=0
   ·rw [W9 f0,f0]
    by_cases c0:gk { x.inst with form:=if px x.inst.op then 1 else 0 }=0
    ·have hs:=(DF c0).1;simp only at hs;rw [W9 c0,W9 hs];simp only [Bool.true_and]
     ac_rfl
    ·rw [Xa c0]
     simp
   ·rw [Xa f0]
    simp
  have hchk2:Fz x.inst.op=false->(decide (x.inst.form=0) && decide (gk { x.inst with form:=if px x.inst.op then 1 else x.inst.form }=0) && (z1 x && z4 x) && z3 x)=cw x 0:=by
   intro hw;rw [hit];unfold yF;rw [W6 (show ¬ (Fz x.inst.op=true) by rw [hw]; decide)];have hsp:px x.inst.op=false:=by
    unfold Fz at hw;unfold px;rw [decide_eq_false_iff_not] at hw ⊢;omega
   rw [W6 (show ¬ (px x.inst.op=true) by rw [hsp]; decide)]
   by_cases f0:x.inst.form=0
   ·rw [W9 f0];have hi:({ x.inst with form:=x.inst.form }:Ins)=x.inst:=rfl;rw [hi]
    by_cases c0:gk x.inst=0
    ·have hs:=(DF c0).1;rw [W9 c0,W9 hs];unfold z3;simp only [Bool.true_and]
     ac_rfl
    ·rw [Xa c0]
     simp
   ·rw [Xa f0]
    simp
  generalize (decide (x.inst.form=0) && decide (gk { x.inst with form:=if px x.inst.op then 1 else x.inst.form }=0) && (z1 x && z4 x))=G at *;refine ak (fun hw=>?_) (fun hw=>?_)
  ·have hchk:=hchk hw;refine ak (fun g=>?_) (fun g=>fin _ _ (by rw [<- hchk,g]; rfl) e07);refine af b7 (x.inst.n,()) rfl (ao ?_);refine ak (fun r=>?_) (fun r=>?_)
   ·have r:x.inst.n=0:=by simpa using r
    refine af b17 ((p,l,c),(x.e.num:Int),()) rfl (ao ?_);refine aK (sW (c:=c) v7.lin.vw (by have:=v.lin.many; omega) v.lin.names) ?_;rintro _ h8 ⟨rfl,e8⟩;refine ⟨(ni none x.e.ai,()),rfl,?_⟩;exact fin _ _ (by rw [<- hchk,g,W9 r]; simp) (e07.trans e8)
   ·have r:¬ x.inst.n=0:=by simpa using r
    exact fin _ _ (by rw [<- hchk,Xa r]; simp) e07
  ·have hchk:=hchk2 hw;refine ak (fun g=>?_) (fun g=>fin _ _ (by rw [<- hchk,g]; rfl) e07);refine gH b17 v7.lin.vw ?_;intro h8 e8;exact fin _ _ (by rw [<- hchk,g]; unfold nq; simp) (e07.trans e8)
 refine bJ (by simpa using k2) ?_
 by_cases k3:x.kind=3
 ·refine bn (by rw [k3]; rfl) ?_;have hit:cw x 0=(tQ x.n && z1 x && z2 x && z3 x):=by unfold cw; rw [W6 k1,W6 k2,Xb k3]
  refine af b1 (x.n,()) rfl (ao ?_);refine aM (BK h1 x.n) ?_;refine ak (fun q=>?_) (fun q=>fin _ _ (by rw [hit,q]; rfl) e1);refine gH b1 v1.lin.vw ?_;intro h2 e2;exact fin _ _ (by rw [hit,q]; unfold nq; simp [Bool.and_assoc]) (e1.trans e2)
 refine bJ (by simpa using k3) ?_
 by_cases k4:x.kind=4
 ·refine bn (by rw [k4]; rfl) ?_;have hit:cw x 0=(z1 x && z2 x && z3 x && z4 x):=by unfold cw; rw [W6 k1,W6 k2,W6 k3,Xb k4]; simp
  refine gH b1 v1.lin.vw ?_;intro h2 e2;exact fin _ _ (by rw [hit]; unfold nq; simp [Bool.and_assoc]) (e1.trans e2)
 refine bJ (by simpa using k4) ?_
 by_cases k5:x.kind=5
 ·refine bn (by rw [k5]; rfl) ?_;exact fin _ _ (by unfold cw; rw [W6 k1,W6 k2,W6 k3,W6 k4,Xb k5]; simp) e1
 refine bJ (by simpa using k5) ?_
 by_cases k6:x.kind=6
 ·refine bn (by rw [k6]; rfl) ?_;exact fin _ _ (by unfold cw; rw [W6 k1,W6 k2,W6 k3,W6 k4,W6 k5,Xb k6]; simp) e1
 refine bJ (by simpa using k6) ?_
 by_cases k7:x.kind=7
 ·refine bn (by rw [k7]; rfl) ?_;exact fin _ _ (by unfold cw; rw [W6 k1,W6 k2,W6 k3,W6 k4,W6 k5,W6 k6,Xb k7]; simp) e1
 refine bJ (by simpa using k7) ?_;exact fin _ _ (by unfold cw; rw [W6 k1,W6 k2,W6 k3,W6 k4,W6 k5,W6 k6,W6 k7]) e1
def MN {h:Hp} {x:cF} {p:ZC} {l c:Nat} (v:kC h p l x):HC Tryz.prog 96 #[uO p l c x,.int .i64 (1:Int)] h fun w h'=>w=C0 (cw x 1)/\Ext h h':=by
 refine bd (args:=[uO p l c x,.int .i64 (1:Int)]) mixed Tryz.func96 az (kU x.kind x.name x.inst.op x.inst.a x.inst.b x.inst.n x.inst.form p l c x.e.num x.n) ?_;unfold gX aT aH cg;have hml:maxLen=9223372036854775807:=rfl;refine bk ?_;intro h1 b1 e1 z1';have b1:bH h1 h.size 71 (encI p l c x):=b1;have v1:=v.an e1;simp only [aG];refine iv (cs:=[(false,[.bool])]) (fun y h'=>y.1=cw x 1/\Ext h h') ?_ ?_
 rotate_left
 ·rintro ⟨b2,⟨⟩⟩ h' ⟨hy,e'⟩;simp only at hy;subst hy;refine ao ?_;cases hr:cw x 1
  ·exact ⟨rfl,e'⟩
  ·exact ⟨rfl,e'⟩
 have fin:∀ (b:Bool) (h':Hp),b=cw x 1->Ext h h'->T.again 0 [.bool b] [fun vs h'=>∃ y:qb (flat [(false,[.bool])]),vs=parts [(false,[.bool])] (dZ _ y)/\(y.1=cw x 1/\Ext h h')] (fun w h'=>w=C0 (cw x 1)/\Ext h h') h':=by
  rintro b h' rfl e';exact dJ (cs:=[(false,[.bool])]) (J:=fun y h'=>y.1=cw x 1/\Ext h h') (cw x 1,()) rfl rfl ⟨rfl,e'⟩
 refine af b1 (x.kind,()) rfl (ao ?_)
 by_cases k1:x.kind=1
 ·refine bn (by rw [k1]; rfl) ?_;have hit:cw x 1=(cT x.name.data.toList && z2 x && z3 x && z4 x):=by unfold cw; rw [Xb k1]
  refine af b1 (x.name,()) rfl (ao ?_);refine aM (rJ x.name h1 (by have:=v.name; omega)) ?_;refine ak (fun q=>?_) (fun q=>fin _ _ (by rw [hit,q]; rfl) e1);refine gH b1 v1.lin.vw ?_;intro h2 e2;exact fin _ _ (by rw [hit,q]; unfold nq; simp [Bool.and_assoc]) (e1.trans e2)
 refine bJ (by simpa using k1) ?_
 by_cases k2:x.kind=2
 ·refine bn (by rw [k2]; rfl) ?_;have hit:cw x 1=(false):=by unfold cw; rw [W6 k1,Xb k2]; simp
  refine af b1 (x.inst.op,x.inst.a,x.inst.b,x.inst.n,x.inst.form,()) rfl (ao ?_);refine bk ?_;intro h2 b2 e2 z2';refine aw b2 rfl aj ?_;intro h3 b3 k3 z3';have b3:bH h3 h1.size 65 (nV x.inst):=b3;have e13:Ext h1 h3:=e2.st k3 (Xk _);have b13:=b1.an e13 aj;rw [aG];refine af b3 (x.inst.form,()) rfl (ao ?_);refine iv (cs:=[]) (fun _ h'=>bH h' h1.size 65 (nV { x.inst with form:=if px x.inst.op then 1 else x.inst.form })/\Ext h1 h') ?_ ?_
  ·refine af b3 (x.inst.op,()) rfl (ao ?_);refine gP (BF h3 x.inst.op v.op) ?_;intro h4 e4;have b4:=b3.an e4 aj;refine ak (fun q=>?_) (fun q=>?_)
   ·refine aw b4 rfl (by simp [nV]) ?_;intro h5 b5 k5 z5;exact dJ (cs:=[]) () rfl rfl ⟨by rw [Xb q]; exact b5,(e13.trans e4).st k5 (by have:=e13.size; omega)⟩
   ·exact dJ (cs:=[]) () rfl rfl ⟨by rw [W6 (by rw [q]; decide)]; exact b4,e13.trans e4⟩
  rintro _ h5 ⟨b5,e5⟩;refine ao ?_;have b15:=b1.an e5 aj;have v5:=v1.an e5;refine iv (cs:=[(false,[.bool])]) (fun y h'=>y.1=false/\Ext h5 h') (dJ (cs:=[(false,[.bool])]) (false,()) rfl rfl ⟨rfl,Ch.refl _ _⟩) ?_;rintro ⟨b10,⟨⟩⟩ h6 ⟨hy,e6⟩;simp only at hy;subst hy;refine ao ?_;have b6:=b5.an e6 aj;have b16:=b15.an e6 aj;have v6:=v5.an e6;refine af b6 (x.inst.op,()) rfl (ao ?_);refine gP (Ix h6 x.inst.op v.op) ?_;intro h7 e7;have b7:=b6.an e7 aj;have b17:=b16.an e7 aj;have v7:=v6.an e7;have e07:=((e1.trans e5).trans e6).trans e7;refine ak (fun hw=>?_) (fun hw=>?_)
  ·exact bJ rfl (fin _ _ (by rw [hit]) e07)
  ·exact bJ rfl (fin _ _ (by rw [hit]) e07)
 refine bJ (by simpa using k2) ?_
 by_cases k3:x.kind=3
 ·refine bn (by rw [k3]; rfl) ?_;have hit:cw x 1=(tQ x.n && z1 x && z2 x && z3 x):=by unfold cw; rw [W6 k1,W6 k2,Xb k3]
  refine af b1 (x.n,()) rfl (ao ?_);refine aM (BK h1 x.n) ?_;refine ak (fun q=>?_) (fun q=>fin _ _ (by rw [hit,q]; rfl) e1);refine gH b1 v1.lin.vw ?_;intro h2 e2;exact fin _ _ (by rw [hit,q]; unfold nq; simp [Bool.and_assoc]) (e1.trans e2)
 refine bJ (by simpa using k3) ?_
 by_cases k4:x.kind=4
 ·refine bn (by rw [k4]; rfl) ?_;exact fin _ _ (by unfold cw; rw [W6 k1,W6 k2,W6 k3,Xb k4]; simp) e1
 refine bJ (by simpa using k4) ?_
 by_cases k5:x.kind=5
 ·refine bn (by rw [k5]; rfl) ?_;have hit:cw x 1=(decide (-128<=x.n) && decide (x.n<=255) && z1 x && z2 x && z3 x):=by unfold cw; rw [W6 k1,W6 k2,W6 k3,W6 k4,Xb k5]; simp
  refine af b1 (x.n,()) rfl (ao ?_);refine ak (fun q=>?_) (fun q=>fin _ _ (by rw [hit,show decide (-128<=x.n)=false from q]; rfl) e1);refine af b1 (x.n,()) rfl (ao ?_);refine ak (fun r=>?_) (fun r=>fin _ _ (by rw [hit,r]; simp) e1);refine gH b1 v1.lin.vw ?_;intro h2 e2;exact fin _ _ (by rw [hit,r,show decide (-128<=x.n)=true from q]; unfold nq; simp [Bool.and_assoc]) (e1.trans e2)
 refine bJ (by simpa using k5) ?_
 by_cases k6:x.kind=6
 ·refine bn (by rw [k6]; rfl) ?_;have hit:cw x 1=(ni none x.e.ai && z1 x && z2 x && z4 x):=by unfold cw; rw [W6 k1,W6 k2,W6 k3,W6 k4,W6 k5,Xb k6]; simp
  refine af b1 ((p,l,c),(x.e.num:Int),()) rfl (ao ?_);refine aK (sW (c:=c) v1.lin.vw (by have:=v.lin.many; omega) v.lin.names) ?_;rintro _ h2 ⟨rfl,e2⟩;refine ⟨(ni none x.e.ai,()),rfl,ao ?_⟩;refine ak (fun q=>?_) (fun q=>fin _ _ (by rw [hit,q]; rfl) (e1.trans e2));refine gH (b1.an e2 aj) (v1.an e2).lin.vw ?_;intro h3 e3;exact fin _ _ (by rw [hit,q]; unfold nq; simp [Bool.and_assoc]) ((e1.trans e2).trans e3)
 refine bJ (by simpa using k6) ?_
 by_cases k7:x.kind=7
 ·refine bn (by rw [k7]; rfl) ?_;have hit:cw x 1=(decide (0<=x.n) && decide (x.n<=1048576) && z1 x && z2 x && z3 x):=by unfold cw; rw [W6 k1,W6 k2,W6 k3,W6 k4,W6 k5,W6 k6,Xb k7]; simp
  refine af b1 (x.n,()) rfl (ao ?_);refine ak (fun q=>?_) (fun q=>fin _ _ (by rw [hit,show decide (0<=x.n)=false from q]; rfl) e1);refine af b1 (x.n,()) rfl (ao ?_);refine ak (fun r=>?_) (fun r=>fin _ _ (by rw [hit,r]; simp) e1);refine gH b1 v1.lin.vw ?_;intro h2 e2;exact fin _ _ (by rw [hit,r,show decide (0<=x.n)=true from q]; unfold nq; simp [Bool.and_assoc]) (e1.trans e2)
 refine bJ (by simpa using k7) ?_;exact fin _ _ (by unfold cw; rw [W6 k1,W6 k2,W6 k3,W6 k4,W6 k5,W6 k6,W6 k7]) e1
def Bw {h:Hp} {x:cF} {p:ZC} {l c k:Nat} (v:kC h p l x) (hk:k<2):HC Tryz.prog 96 #[uO p l c x,.int .i64 (k:Int)] h fun w h'=>w=C0 (cw x k)/\Ext h h':=by
 have:k=0\/k=1:=ad
 rcases this with rfl | rfl
 ·exact Kx v
 ·exact MN v
def Ue (s:ZA):List ZB:=[.string s]
abbrev SN (h:Hp) (b:Nat) (p:ZC) (l c:Nat) (xs:List ZA):Prop:=SL h b 9 1 p l c (xs.map Ue)
def SN.len {h:Hp} {b:Nat} {p:ZC} {l c:Nat} {xs:List ZA} (s:SN h b p l c xs):l=xs.length:=by
 have:=s.1
 rwa [W3] at this
def SN.cell {h:Hp} {b:Nat} {p:ZC} {l c:Nat} {xs:List ZA} (s:SN h b p l c xs) {i:Nat} (hi:i<xs.length):∃ a,p=some a/\aJ h (a.add (i*1)) 0 [.string xs[i]]:=by
 obtain ⟨a,ha,hc⟩:=SL.cells s (i:=i) (by rw [W3]; exact hi);refine ⟨a,ha,?_⟩;rw [Xc] at hc;exact hc
def Vc (D:List ZA) (s:ZA) (i:Nat) (hi:i<D.length):fX (D.take (i+1)) s=(fX (D.take i) s || decide (D[i]=s)):=by
 unfold fX;rw [W7 hi,Ze]
 simp
def Cn {h:Hp} {b:Nat} {p:ZC} {l c:Nat} {xs:List ZA} (v:SN h b p l c xs) (hl:xs.length<=2^61) (s:ZA):vz Tryz.prog 57 [.slice p l c,.string s] h (.bool (fX xs s)):=by
 refine et mixed Tryz.func57 az (jc p l c s) ?_;unfold gQ bf bh bG aQ bC dL aR cg;have n:=SN.len v;refine aU (cs:=[(false,[.bool]),(false,[.int .i64])]) (fun y m h'=>∃ i:Nat,y.2.1=(i:Int)/\m=xs.length-i/\i<=xs.length/\h'=h/\fX (xs.take i) s=false) (false,(0:Int),()) xs.length rfl
  ⟨0,rfl,rfl,ad,rfl,rfl⟩ ?_
 rintro ⟨b2,n3,⟨⟩⟩ m h' ⟨i,hi,rfl,hle,rfl,hn⟩;simp only at hi;subst hi;refine ao ?_;refine ak (fun q=>?_) (fun q=>?_)
 ·have q:=W2 q;have hil:i<xs.length:=ad
  obtain ⟨a,ha,hc⟩:=SN.cell v hil;refine ay ⟨ad,ad⟩ (ax ha ?_);rw [show Int.toNat (i:Int)=i from ad];refine aC (xs[i],()) hc (ao ?_);have hs:=Vc xs s i hil;rw [qd];refine ak (fun r=>?_) (fun r=>?_)
  ·have r:=W2 r;refine ⟨Xj Value.bool ?_,rfl⟩;unfold fX;exact (Yt.2 ⟨_,Xe hil,W9 r⟩).symm
  ·rw [hn,r] at hs;refine aI (cs:=[(false,[.bool]),(false,[.int .i64])]) (b2,((i+1:Nat):Int),()) (xs.length-(i+1)) rfl ad (by rw [wrap_i64 ad ad]; rfl) ?_;exact ⟨i+1,rfl,rfl,ad,rfl,hs⟩
 ·have q:=W4 q
  have:i=xs.length:=ad
  subst this;rw [XB] at hn;exact ⟨by rw [hn],rfl⟩
def eb (l:List cF):List ZA:=(l.filter fun x=>decide (x.kind=1)).map (·.name)
def vR (l:List cF) (i:Nat) (hi:i<l.length):eb (l.take (i+1))=eb (l.take i)++if l[i].kind=1 then [l[i].name] else []:=by
 unfold eb;rw [W7 hi,List.filter_append,Xf]
 congr 1
 by_cases hk:l[i].kind=1 <;> simp [hk]
def SN.push {L:Lp} {K:ZB->Hp->Prop} {h:Hp} {b:Nat} {p:ZC} {l c:Nat} {xs:List ZA} (v:SN h b p l c xs) (x:ZA) (hl:xs.length<=2^40) (hb:b<=h.size) {k:ZC->Nat->Nat->T}
  (hk:∀ p' c' h',SN h' b p' (l+1) c' (xs++[x])->Ch (aP p) h h'->k p' (l+1) c' L K h') :
  T.ek Tryz.prog (Instr.buildSlice 45 1 #[(0,.string x)]) false [(false,[.slice 0])] (fun q m cc=>T.ek Tryz.prog (Builtin.append_ #[45,45] 45 #[.slice p l c,.slice q m cc]) false [(false,[.slice 0])] k) L K h:=by
 have n:=SN.len v;refine mi (vs:=[.string x]) Hr T8 rfl ad ad az rfl rfl v hb ad ad ?_;intro p' c' h' s' ch _;refine hk p' c' h' ?_ ch;unfold SN;rw [Xf];exact s'
def SN.ext {h a b':Hp} {b:Nat} {p:ZC} {l c:Nat} {xs:List ZA} (e:Ext h a) (v:SN a b p l c xs) (hb:h.size<=b) (k:Ch (aP p) a b'):Ext h b' :=
 Ch.trans e k (fun i hi hl=>by have:=(Ob.SL.cj v i hi).1; omega)
def rS {h:Hp} {p:ZC} {l c:Nat} {us:List cF} (v:Dj h p l us) (hm:us.length<=2^20) :
  HC Tryz.prog 127 #[.slice p l c] h fun w h'=>∃ p' l' c',w=.slice p' l' c'/\SN h' h.size p' l' c' (eb us)/\Ext h h':=by
 refine bd (args:=[.slice p l c]) mixed Tryz.func127 az (mI p l c) ?_;unfold jh bf bh bG aQ bm bi aR dh;have n:=v.len;refine aU (cs:=[(false,[.slice 0]),(false,[.int .i64])]) (fun y m h'=>∃ i:Nat,y.2.1=(i:Int)/\m=us.length-i/\i<=us.length/\Ext h h'/\(eb (us.take i)).length<=i/\SN h' h.size y.1.1 y.1.2.1 y.1.2.2 (eb (us.take i))) ((none,0,0),(0:Int),()) us.length rfl
  ⟨0,rfl,rfl,ad,Ch.refl _ _,by simp [eb],SL.nil _ _ _ _⟩ ?_
 rintro ⟨⟨p1,l2,l3⟩,n4,⟨⟩⟩ m h1 ⟨i,hi,rfl,hle,e1,hll,s⟩;simp only at hi s;subst hi;refine ao ?_;have hz:=e1.size;refine ak (fun q=>?_) (fun q=>?_)
 ·have q:=W2 q;have hil:i<us.length:=ad
  obtain ⟨aa,pp,ll,cc,rfl',hc,va⟩:=(v.an e1).cells i hil;have ht:=vR us i hil;generalize us[i]=x at hc va ht;refine ay ⟨ad,ad⟩ (ax rfl' ?_);rw [show Int.toNat (i:Int)=i from ad];refine aC (x.kind,()) ⟨hc.1,trivial⟩ (ao ?_);refine ak (fun r=>?_) (fun r=>?_)
  ·have r:x.kind=1:=by simpa using r
   rw [Xb r] at ht;refine ay ⟨ad,ad⟩ (ax rfl' ?_);refine aC (x.name,()) ⟨by rw [add_add]; exact hc.2.1,trivial⟩ ?_;refine ao ?_;refine SN.push s x.name ad ad ?_;intro p' c' h2 s2 k2;refine aI (cs:=[(false,[.slice 0]),(false,[.int .i64])]) ((p',l2+1,c'),((i+1:Nat):Int),()) (us.length-(i+1)) rfl ad (by rw [wrap_i64 ad ad]; rfl) ?_;exact ⟨i+1,rfl,rfl,ad,SN.ext e1 s (Xk _) k2,by rw [ht,W8]; simp; omega,by rw [ht]; exact s2⟩
  ·have r:¬ x.kind=1:=by simpa using r
   rw [W6 r,X4] at ht;refine aI (cs:=[(false,[.slice 0]),(false,[.int .i64])]) ((p1,l2,l3),((i+1:Nat):Int),()) (us.length-(i+1)) rfl ad (by rw [wrap_i64 ad ad]; rfl) ?_;exact ⟨i+1,rfl,rfl,ad,e1,by rw [ht]; omega,by rw [ht]; exact s⟩
 ·have q:=W4 q
  have:i=us.length:=ad
  subst this;rw [XB] at s;exact ⟨p1,l2,l3,rfl,s,e1⟩
def Pv {L:Lp} {K:ZB->Hp->Prop} {h:Hp} {k:ZC->Nat->Nat->T} {b b':Nat} {p:ZC} {l c:Nat} {xs:List ZA} (s:SN h b p l c xs) {q:ZC} {m d:Nat} {us:List ZA} (v:SN h b' q m d us)
  (hl:l+m<=2^40) (hb:b<=h.size)
  (hk:∀ p' c' h',SN h' b p' (l+m) c' (xs++us)->Ch (aP p) h h'->k p' (l+m) c' L K h') :
  T.ek Tryz.prog (Builtin.append_ #[45,45] 45 #[.slice p l c,.slice q m d]) false [(false,[.slice 0])] k L K h:=by
 obtain ⟨i,hi,hz,hsz,hby⟩:=ou T8;refine dt ?_;cases q with
 | none =>
  have h1:us=[]:=by
   have:=v.2.2.2
   simpa using this
  have h0:m=0:=by have:=SN.len v; rw [h1] at this; exact this
  have hd:d=0:=v.2.2.1;subst h0 h1 hd;have hc0:l<=c:=by
   cases p with
   | none =>
    have h2:=s.2.2.2;have h3:=s.1;rw [h2] at h3;simp at h3;omega
   | some a =>
    obtain ⟨g,pre,rest,rfl,hbg,hlc,_⟩:=s.2.2;exact hlc.1
  simp [Builtin.append_,ar,aF Hr,bS hi,cE hi,Builtin.lenOf,Builtin.firstCells,hc0];have hfin:∃ p' l' c',Value.slice p l c=.slice p' l' c'/\k p' l' c' L K h:=⟨p,l,c,rfl,by simpa using hk p c h (by simpa using s) (Ch.refl _ _)⟩
  cases p with
  | none=>exact hfin
  | some a=>exact hfin
 | some a =>
  have hc:aJ h a 0 (us.map Ue).flatten:=by
   obtain ⟨g,pre,rest,rfl,hbg,hlc,hbox,hr⟩:=v.2.2;refine hbox.cells _ ?_;rw [YO,YW]
  have hpl:(us.map Ue).flatten.all cX=true:=by
   rw [XA];intro x hx;obtain ⟨y,hy,hxy⟩:=YX.1 hx;obtain ⟨z,_,rfl⟩:=Xd.1 hy;rw [Xm.1 hxy] <;> rfl
  refine nZ Hr hi hz (by rw [hsz]; rfl) (by rw [hsz]; exact s) (ys:=us.map Ue) (by rw [W3]; exact SN.len v) (fun y hy=>?_) hc hpl (by rw [hby]; omega) ad hb ?_
  ·obtain ⟨t,_,rfl⟩:=Xd.1 hy;rw [hsz] <;> rfl
  ·intro p' c' h' s' k' hp';rw [hsz,<- Xf] at s';exact ⟨_,_,_,rfl,hk p' c' h' s' k'⟩
def fv (u:cd):List ZA:=eb u.text++eb u.data++u.bg.map (·.1)
def ui (l:List cF):(eb l).length<=l.length:=by
 unfold eb;rw [W3];exact Yo _ _
def Mj {h:Hp} {a b c d:cv} {u:cd} (v:sO h a b c d u) (h1:u.text.length<=2^20) (h2:u.data.length<=2^20) (h3:u.bg.length<=2^20) :
  HC Tryz.prog 98 #[DL a b c d] h fun w h'=>∃ p' l' c',w=.slice p' l' c'/\SN h' h.size p' l' c' (fv u)/\Ext h h':=by
 refine bd (args:=[DL a b c d]) mixed Tryz.func98 az (pV a.p a.l a.c b.p b.l b.c c.p c.l c.c d.p d.l d.c) ?_;unfold kW bf bh bG aQ bK bm aR dh;refine bk ?_;intro g1 b1 e1 z1;have b1:bH g1 h.size 47 [a.v,b.v,c.v,d.v]:=b1;simp only [aG];refine af b1 ((a.p,a.l,a.c),()) rfl (ao ?_);refine af b1 ((b.p,b.l,b.c),()) rfl (ao ?_);refine aK (rS (c:=a.c) (v.text.an e1) h1) ?_;rintro _ g2 ⟨p8,l9,l10,rfl,s8,e2⟩;refine ⟨((p8,l9,l10),()),rfl,ao ?_⟩;have b2:=b1.an e2 aj;refine ⟨⟨b2.cells _ rfl,trivial⟩,?_⟩;refine aK (rS (c:=b.c) (v.data.an (e1.trans e2)) h2) ?_;rintro _ g3 ⟨p11,l12,l13,rfl,s11,e3⟩;refine ⟨((p11,l12,l13),()),rfl,ao ?_⟩;have b3:=b2.an e3 aj;have q1:=e1.size;have q2:=e2.size;have q3:=e3.size;refine ⟨⟨b3.cells _ rfl,trivial⟩,?_⟩;have s8':SN g3 g1.size p8 l9 l10 (eb u.text):=s8.an e3 aj;have n8:=SN.len s8;have n11:=SN.len s11;have k8:=ui u.text;have k11:=ui u.data;have e03:=(e1.trans e2).trans e3;refine Pv s8' s11 ad ad ?_;intro p14 c14 g4 s14 k4;have e4:=SN.ext e03 s8' ad k4;have nb:h.size∉aP p8:=fun hi=>by have:=(Ob.SL.cj s8' _ hi).1; omega
 have b4:=b3.an k4 nb;refine ⟨⟨b4.cells _ rfl,b4.cells _ rfl,trivial⟩,?_⟩;have nc:=v.bg.len;have hu:∀ i,i<u.bg.length->eb u.text++eb u.data++(u.bg.take (i+1)).map (·.1)=(eb u.text++eb u.data++(u.bg.take i).map (·.1))++[(u.bg.getD i (dF,Eu)).1]:=by
  intro i hi;rw [W7 hi,Xf,<- Xs,XT,W5 hi] <;> rfl
 refine aU (cs:=[(false,[.slice 0]),(false,[.int .i64])]) (fun y m h'=>∃ i:Nat,y.2.1=(i:Int)/\m=u.bg.length-i/\i<=u.bg.length/\(Ext h h'/\g1.size<=h'.size)/\bH h' h.size 47 [a.v,b.v,c.v,d.v]/\SN h' g1.size y.1.1 y.1.2.1 y.1.2.2 (eb u.text++eb u.data++(u.bg.take i).map (·.1))) ((p14,l9+l12,c14),(0:Int),()) u.bg.length rfl
  ⟨0,rfl,rfl,ad,⟨e4,by have:=k4.size; omega⟩,b4,by simpa using s14⟩ ?_
 rintro ⟨⟨p1,l2,l3⟩,n4,⟨⟩⟩ m g5 ⟨i,hi,rfl,hle,⟨e5,z5⟩,b5,s⟩;simp only at hi s;subst hi;refine ao ?_;have hz:=e5.size;refine af b5 ((c.p,c.l,c.c),()) rfl (ao ?_);refine ak (fun q=>?_) (fun q=>?_)
 ·have q:=W2 q;have hil:i<u.bg.length:=ad
  refine af b5 ((c.p,c.l,c.c),()) rfl (ao ?_);obtain ⟨aa,pp,ll,cc,rfl',hc,va,vn⟩:=(v.bg.an e5).cells i hil;refine ay ⟨ad,ad⟩ (ax rfl' ?_);rw [show Int.toNat (i:Int)=i from ad];refine aC (u.bg[i].1,()) ⟨hc.1,trivial⟩ (ao ?_);have ns:=SN.len s;have hg:(u.bg.getD i (dF,Eu)).1=u.bg[i].1:=by
   rw [XT,W5 hil] <;> rfl
  refine SN.push s _ (by simp only [List.length_append,List.length_map,List.length_take]; omega) z5 ?_;intro p' c' h2 s2 k2;have nb2:h.size∉aP p1:=fun hi=>by have:=(Ob.SL.cj s _ hi).1; omega
  refine aI (cs:=[(false,[.slice 0]),(false,[.int .i64])]) ((p',l2+1,c'),((i+1:Nat):Int),()) (u.bg.length-(i+1)) rfl ad (by rw [wrap_i64 ad ad]; rfl) ?_;exact ⟨i+1,rfl,rfl,ad,⟨SN.ext e5 s ad k2,by have:=k2.size; omega⟩,b5.an k2 nb2,by rw [hu i hil,hg]; exact s2⟩
 ·have q:=W4 q
  have:i=u.bg.length:=ad
  subst this;rw [XB] at s;exact ⟨p1,l2,l3,rfl,Sx.SL.mono s ad,e5⟩
def SL.flat {h:Hp} {b:Nat} {e:TypeId} {sz:Nat} {a:Zx} {l c:Nat} {xs:List (List ZB)} (s:SL h b e sz (some a) l c xs):aJ h a 0 xs.flatten:=by
 obtain ⟨g,pre,rest,rfl,hbg,hlc,hbox,hr⟩:=s.2.2;refine hbox.cells _ ?_;rw [YO,YW]
def fP (h:Hp):Prop:=∃ e f,h[1]?=some (.cells (Lib.pow10Tab.map fun z=>Value.int .u64 z).toArray e f)
def fP.an {ws:List Nat} {h h':Hp} (p:fP h) (k:Ch ws h h') (hw:1∉ws):fP h':=by
 obtain ⟨e,f,hp⟩:=p;exact ⟨e,f,k.get hp hw⟩
def Hc {W:World} {name:String} (hg:Tryz.prog.globalNamed name=some 1) (p:fP W.heap):Lib.TabIs Tryz.prog W name .u64 Lib.pow10Tab:=by
 obtain ⟨e,f,hp⟩:=p;unfold Lib.TabIs World.var?;rw [hg];show (match W.heap[1]? with | some (.cells cs _ _)=>some cs | _=>none)=_;rw [hp]
def N1:Tryz.prog.underlying 194=some (.slice 5):=az
def UH:Tryz.prog.underlying 5=some (.int .u8):=az
def Us:Tryz.prog.underlying 9=some .string:=az
def Mh {L:Lp} {K:ZB->Hp->Prop} {h:Hp} {b:Nat} {p:ZC} {l c:Nat} {bs:List UInt8} {k:ZA->T} (s:SL h b 5 1 p l c (M2 bs)) (h0:bs≠[]) (hk:k ⟨bs.toArray⟩ L K h) :
  T.ek Tryz.prog (convert 194 9 (.slice p l c)) false [(false,[.string])] k L K h:=by
 show aS Tryz.prog (convert 194 9 (.slice p l c)) h _;unfold convert;rw [ar,aF N1,ar,aF Us];show aS Tryz.prog (do match <- underlying 5 with
  | .int .u8=>Conv.bytesToString (.slice p l c)
  | .int .i32=>Conv.runesToString (.slice p l c)
  | _ => stuck "Convert: a slice of what to string?") h _
 rw [ar,aF UH];cases p with
 | none =>
  have h1:M2 bs=[]:=s.2.2.2
  have:bs=[]:=by simpa [M2] using h1
  exact absurd this h0
 | some a =>
  have hl:l=bs.length:=by rw [s.1,Gn]
  subst hl;have hf:=SL.flat s;rw [MP] at hf;exact I0 a bs c _ hf ⟨(⟨bs.toArray⟩,()),rfl,hk⟩
def Ta (n:Nat):IntKind.wrap .u8 (IntKind.wrap .i64 ((48:Int)+(Int.tmod (n:Int) (10:Int))))=((UInt8.ofNat (48+n % 10)).toNat:Int):=by
 have e:Int.tmod (n:Int) 10=((n % 10:Nat):Int):=by
  rw [Int.tmod_eq_emod_of_nonneg ad] <;> rfl
 rw [e,wrap_i64 ad ad,wrap_u8 ad ad]
 simp
 omega
end Go.Sx.Ob
namespace Go.Sx.BB
open Go.Sx Go.Sx.Ob
open Go.Proofs
def QW (b:UInt8):List ZB:=[.int .u8 (b.toNat:Int)]
end Go.Sx.BB
namespace Go.Sx.Ob
open Go.Proofs
def uv {h:Hp} {b b':Nat} {e e':TypeId} {sz sz':Nat} {p q:ZC} {l c l' c':Nat} {xs ys:List (List ZB)} (s:SL h b e sz p l c xs) (t:SL h b' e' sz' q l' c' ys) (he:e≠e'):∀ i,i∈aP p->i∉aP q:=fun i h1 h2=>by
 obtain ⟨x1,b1⟩:=SL.Au s i h1;obtain ⟨x2,b2⟩:=SL.Au t i h2;unfold bH at b1 b2;rw [b1] at b2;simp only [Option.some.injEq,Obj.cells.injEq] at b2;exact he b2.2.1
def SN.put {L:Lp} {K:ZB->Hp->Prop} {h:Hp} {b:Nat} {p:ZC} {l c:Nat} {xs:List ZA} (v:SN h b p l c xs) {i:Nat} (hi:i<xs.length) (x:ZA) {a:Zx} (ha:p=some a) {k:T}
  (hk:∀ h',SN h' b p l c (xs.set i x)->Ch (aP p) h h'->h'.size=h.size->k L K h'):T.aE (a.add (i*1)) [.string x] k L K h:=by
 refine SL.store (P:=Tryz.prog) v (i:=i) (vs:=Ue x) (by rw [W3]; exact hi) rfl rfl ha ?_;intro h' s' ch z;refine hk h' ?_ ch z;unfold SN;rw [Y0];exact s'
def Fo (zs:List ZA) (j:Nat) (hj:0<j) (hl:j<zs.length):(zs.set j (zs[j-1]'ad)).eraseIdx (j-1)=zs.eraseIdx j:=by
 apply Yd;intro k;rw [List.getElem?_eraseIdx,List.getElem?_eraseIdx]
 by_cases h1:k<j-1
 ·rw [Xb h1,Xb ad,Yq ad]
 ·rw [W6 h1]
  by_cases h2:k<j
  ·have:k=j-1:=ad
   subst this;rw [Xb h2,show j-1+1=j from ad,YH hl,W5 ad]
  ·rw [W6 h2,Yq ad]
def PQ (zs:List ZA) (j:Nat) (hl:j<zs.length) (x s:ZA):fX (zs.set j x) s=(fX (zs.eraseIdx j) s || decide (x=s)):=by
 unfold fX;rw [List.set_eq_take_append_cons_drop,Xb hl,List.eraseIdx_eq_take_drop_succ];simp only [List.any_append,List.any_cons]
 all_goals (cases List.any (zs.take j) (fun t=>decide (t=s)) <;> cases List.any (zs.drop (j+1)) (fun t=>decide (t=s)) <;> cases decide (x=s) <;> rfl)
def oJ {D:List ZA} {s:ZA}:fX D s=true↔s∈D:=by
 unfold fX;rw [Yt];constructor
 ·rintro ⟨t,ht,e⟩;rw [<- W2 e];exact ht
 ·intro hs;exact ⟨s,hs,W9 rfl⟩
def yD (l:List ZA) (x:ZA):(l++[x]).Nodup↔l.Nodup/\x∉l:=by
 rw [XW];constructor
 ·rintro ⟨a,_,c⟩;exact ⟨a,fun hx=>c x hx x aj rfl⟩
 ·rintro ⟨a,b⟩;refine ⟨a,aj,fun y hy z hz e=>?_⟩;rw [Xm.1 hz] at e;exact b (e▸hy)
def rW {h : Hp} {b : Nat} {p : ZC} {l c : Nat} {xs : List ZA} (v : SN h b p l c xs) (hm : xs.length <= 2 ^ 30) :
    HC Tryz.prog 58 #[.slice p l c] h fun w h' => ∃ p' c' ys, w = .slice p' (ys : List ZA).length c' /\ ys.length <= xs.length /\ (ys.length = xs.length ↔ xs.Nodup) /\ Ext h h' := by
  refine bd (args := [.slice p l c]) mixed Tryz.func58 az (mU p l c) ?_;unfold jg bf bh bG aQ aT bm bt bi aR dh;have n := SN.len v
  refine aU (cs := [(false, [.slice 0]), (false, [.int .i64])]) (fun y m h' => ∃ (i : Nat) (ys : List ZA), y.2.1 = (i : Int) /\ m = xs.length - i /\ i <= xs.length /\ Ext h h' /\ SN h' h.size y.1.1 y.1.2.1 y.1.2.2 ys /\ ys.length <= i /\ (∀ s, fX ys s = fX (xs.take i) s) /\ (ys.length = i ↔ (xs.take i).Nodup)) ((none, 0, 0), (0 : Int), ()) xs.length rfl
    ⟨0, [], rfl, rfl, ad, Ch.refl _ _, SL.nil _ _ _ _, aj, fun s => rfl, aj⟩ ?_
  rintro ⟨⟨p1, l2, l3⟩, n4, ⟨⟩⟩ m h1 ⟨i, ys, hi, rfl, hle, e1, s, hyl, hin, hnd⟩;simp only at hi s;subst hi;refine ao ?_;have hz := e1.size;have ny := SN.len s;refine ak (fun q => ?_) (fun q => ?_)
  · have q := W2 q
    have hil : i < xs.length :=ad
    have hx : ∀ {g}, Ext h g -> ∃ a, p = some a /\ aJ g (a.add (i * 1)) 0 [.string xs[i]] := by
      intro g e;obtain ⟨a, ha, hc⟩ := SN.cell v hil;exact ⟨a, ha, aX e aj _ _ hc⟩
    have htk : xs.take (i + 1) = xs.take i ++ [xs[i]] := W7 hil;generalize hxv : xs[i] = x at hx htk;obtain ⟨a, ha, hc⟩ := hx e1;refine ay ⟨ad, ad⟩ (ax ha ?_);rw [show Int.toNat (i : Int) = i from ad];refine aC (x, ()) hc (ao ?_);refine aM (Cn s ad x) ?_;rw [hin];have hinx : fX (xs.take i) x = true ↔ x ∈ xs.take i := oJ;refine ak (fun r => ?_) (fun r => ?_)
    · have r2 := hinx.1 r
      refine aI (cs := [(false, [.slice 0]), (false, [.int .i64])]) ((p1, l2, l3), ((i + 1 : Nat) : Int), ()) (xs.length - (i + 1)) rfl ad (by rw [wrap_i64 ad ad]; rfl) ?_;refine ⟨i + 1, ys, rfl, rfl, ad, e1, s, ad, fun t => ?_, ?_⟩
      · rw [hin, htk]
        by_cases e : x = t
        · subst e
          rw [r];exact (oJ.2 (Xl.2 (.inl r2))).symm
        · unfold fX
          rw [Ze];simp [e]
      · rw [htk, yD]
        exact ⟨fun k => ad, fun k => absurd r2 k.2⟩
    · have r2 : x ∉ xs.take i := fun k => by rw [hinx.2 k] at r; cases r
      refine ay ⟨ad, ad⟩ (ax ha ?_);refine aC (x, ()) hc (ao ?_);refine SN.push s x ad hz ?_;intro p' c' h2 s2 k2;have e2 := SN.ext e1 s (Xk _) k2
      refine aU (cs := [(false, [.int .i64])]) (fun y m h' => ∃ (j : Nat) (zs : List ZA), y.1 = (j : Int) /\ m = j /\ j <= ys.length /\ zs.length = ys.length + 1 /\ zs.eraseIdx j = ys /\ Ext h h' /\ SN h' h.size p' (l2 + 1) c' zs) ((l2 : Int), ()) ys.length rfl
        ⟨ys.length, ys ++ [x], by rw [ny], rfl, ad, aj, by rw [List.eraseIdx_append_of_length_le ad]; simp, e2, s2⟩ ?_
      rintro ⟨n16, ⟨⟩⟩ m h3 ⟨j, zs, hj, rfl, hjl, hzl, hze, e3, s3⟩;simp only at hj;subst hj;refine ao ?_
      have hpl : ∃ a2, p' = some a2 := by
        obtain ⟨a2, h2, _⟩ := SN.cell s3 (i := 0) ad;exact ⟨a2, h2⟩
      obtain ⟨a2, ha2⟩ := hpl
      have last : (T.need (((0 : Int) <= (i : Int)) /\ ((i : Int) < (l : Int))) <|
         T.bF p fun (a21 : Zx) =>
         T.ah (a21.add ((Int.toNat (i : Int)) * 1)) [.string] <| fun (s22 : ZA) =>
         T.need (((0 : Int) <= (m : Int)) /\ ((m : Int) < ((l2 + 1 : Nat) : Int))) <|
         T.bF p' fun (a23 : Zx) =>
         T.aE (a23.add ((Int.toNat (m : Int)) * 1)) [.string s22] <|
         T.again 0 [.slice p' (l2 + 1) c', .int .i64 (IntKind.wrap .i64 ((i : Int) + (1 : Int)))])
         ([] ++ [Jl (cs := [(false, [.slice 0]), (false, [.int .i64])]) (fun y m h' => ∃ (i : Nat) (ys : List ZA), y.2.1 = (i : Int) /\ m = xs.length - i /\ i <= xs.length /\ Ext h h' /\ SN h' h.size y.1.1 y.1.2.1 y.1.2.2 ys /\ ys.length <= i /\ (∀ s, fX ys s = fX (xs.take i) s) /\ (ys.length = i ↔ (xs.take i).Nodup)) (xs.length - i)] ++
          [Jl (cs := [(false, [.int .i64])]) (fun y m h' => ∃ (j : Nat) (zs : List ZA), y.1 = (j : Int) /\ m = j /\ j <= ys.length /\ zs.length = ys.length + 1 /\ zs.eraseIdx j = ys /\ Ext h h' /\ SN h' h.size p' (l2 + 1) c' zs) m])
         (fun w h' => ∃ p' c' ys, w = .slice p' (ys : List ZA).length c' /\ ys.length <= xs.length /\ (ys.length = xs.length ↔ xs.Nodup) /\ Ext h h') h3 := by
        obtain ⟨a, ha, hc⟩ := hx e3;refine ay ⟨ad, ad⟩ (ax ha ?_);rw [show Int.toNat (i : Int) = i from ad];refine aC (x, ()) hc (ao ?_);refine ay ⟨ad, ad⟩ (ax ha2 ?_);rw [show Int.toNat (m : Int) = m from ad];refine SN.put s3 ad x ha2 ?_;intro h4 s4 k4 z4;refine aI (cs := [(false, [.slice 0]), (false, [.int .i64])]) ((p', l2 + 1, c'), ((i + 1 : Nat) : Int), ()) (xs.length - (i + 1)) rfl ad (by rw [wrap_i64 ad ad]; rfl) ?_;refine ⟨i + 1, zs.set m x, rfl, rfl, ad, SN.ext e3 s3 (Xk _) k4, s4, by rw [X8]; omega, fun t => ?_, ?_⟩
        · rw [PQ zs m ad, hze, hin, htk]
          unfold fX;rw [Ze]
          simp
        · rw [X8, htk, yD, <- hnd, hzl]
          exact ⟨fun k => ⟨ad, r2⟩, fun k => ad⟩
      refine ak (fun q2 => ?_) (fun q2 => last);have q2 := W2 q2;rw [wrap_i64 ad ad];obtain ⟨a3, ha3, hc3⟩ := SN.cell s3 (i := m - 1) ad;refine ay ⟨ad, ad⟩ (ax ha3 ?_);rw [show Int.toNat ((m : Int) - 1) = m - 1 from ad];refine aC (zs[m - 1]'ad, ()) hc3 (ao ?_);obtain ⟨a, ha, hc⟩ := hx e3;refine ay ⟨ad, ad⟩ (ax ha ?_);refine aC (x, ()) hc (ao ?_);refine ak (fun q3 => ?_) (fun q3 => ?_)
      · refine ay ⟨ad, ad⟩ (ax ha3 ?_)
        refine aC (zs[m - 1]'ad, ()) hc3 (ao ?_);refine ay ⟨ad, ad⟩ (ax ha2 ?_);rw [show Int.toNat (m : Int) = m from ad];refine SN.put s3 ad _ ha2 ?_;intro h4 s4 k4 z4;refine aI (cs := [(false, [.int .i64])]) (((m - 1 : Nat) : Int), ()) (m - 1) rfl ad (by rw [show (m : Int) - 1 = ((m - 1 : Nat) : Int) from ad]; rfl) ?_;exact ⟨m - 1, _, rfl, rfl, ad, by rw [X8]; exact hzl, by rw [Fo zs m ad ad]; exact hze, SN.ext e3 s3 (Xk _) k4, s4⟩
      · have := last
        rw [show Int.toNat (i : Int) = i from ad] at this;exact this
  · have q := W4 q
    have : i = xs.length :=ad
    subst this;rw [XB] at hnd;exact ⟨p1, l3, ys, by rw [ny], hyl, hnd, e1⟩
def EX (e:qY):Bool:=cT e.1.data.toList && ni none e.2.ai
def wO (u:cd):Bool:=u.text.all (fun x=>cw x 0) && (u.data.all (fun x=>cw x 1) && (u.bg.all EX && (decide (fv u).Nodup && cS (fv u) dF u.aY)))
def rX (x:cF) (l:List cF):eb (x::l)=(if x.kind=1 then [x.name] else [])++eb l:=by
 unfold eb
 by_cases h:x.kind=1 <;> simp [h]
def Em (D:List ZA) (x:cF) (s:ZA):s∈tg D x↔s∈D\/s∈(if x.kind=1 then [x.name] else []):=by
 unfold tg;split <;> simp [or_comm]
theorem qu (sec:Nat):∀ (l:List cF) (D:List ZA),eK sec D l=true↔(∀ x,x∈l->cw x sec=true)/\(∀ s,s∈eb l->s∉D)/\(eb l).Nodup
 | [],D=>by simp [eK,eb]
 | x::l,D=>by
  rw [eK,Xz,qu sec l,rX];unfold xr;rw [Xz,XW]
  by_cases h:x.kind=1
  ·simp only [h,decide_true,Bool.true_and,if_true,Bool.not_eq_true',List.mem_cons,List.mem_append,List.mem_singleton,List.not_mem_nil,or_false];have hin:fX D x.name=false↔x.name∉D:=by
    rw [<- Bool.not_eq_true,oJ]
   rw [hin];have ha:∀ s,s∈tg D x↔s=x.name\/s∈D:=fun s=>by
    rw [Em,Xb h];simp [or_comm]
   simp only [ha];constructor
   ·rintro ⟨⟨a,b⟩,c,d,e⟩;refine ⟨?_,?_,?_,e,?_⟩
    ·rintro y (rfl | hy)
     ·exact a
     ·exact c y hy
    ·rintro s (rfl | hs)
     ·exact b
     ·exact fun k=>d s hs (.inr k)
    ·simp
    ·intro y hy z hz hyz;exact d z hz (.inl (hyz▸hy))
   ·rintro ⟨a,b,c,d,e⟩;refine ⟨⟨a x (.inl rfl),b _ (.inl rfl)⟩,fun y hy=>a y (.inr hy),fun s hs k=>?_,d⟩;rcases k with rfl | k
    ·exact e _ rfl _ hs rfl
    ·exact b s (.inr hs) k
  ·have ha:tg D x=D:=by unfold tg; rw [W6 h]
   simp only [h,decide_false,Bool.false_and,if_false,Bool.not_false,and_true,List.mem_cons,List.nil_append,ha];constructor
   ·rintro ⟨a,c,d,e⟩;refine ⟨?_,d,aj,e,aj⟩;rintro y (rfl | hy)
    ·exact a
    ·exact c y hy
   ·rintro ⟨a,b,_,d,_⟩;exact ⟨a x (.inl rfl),fun y hy=>a y (.inr hy),b,d⟩
theorem zX:∀ (l:List qY) (D:List ZA),gh D l=true↔(∀ x,x∈l->EX x=true)/\(∀ s,s∈l.map (·.1)->s∉D)/\(l.map (·.1)).Nodup
 | [],D=>by simp [gh]
 | x::l,D=>by
  rw [gh,Xz,zX l,XH,YA];have hok:BQ D x=true↔x.1∉D/\EX x=true:=by
   unfold BQ EX;rw [Xz,Xz,Xz,Bool.not_eq_true',<- Bool.not_eq_true,oJ,and_assoc]
  rw [hok];simp only [List.mem_cons];constructor
  ·rintro ⟨⟨a,b⟩,c,d,e⟩;refine ⟨?_,?_,?_,e⟩
   ·rintro y (rfl | hy)
    ·exact b
    ·exact c y hy
   ·rintro s (rfl | hs)
    ·exact a
    ·exact fun k=>d s hs (.inr k)
   ·exact fun hs=>d _ hs (.inl rfl)
  ·rintro ⟨a,b,c,d⟩;refine ⟨⟨b _ (.inl rfl),a x (.inl rfl)⟩,fun y hy=>a y (.inr hy),fun s hs k=>?_,d⟩;rcases k with rfl | k
   ·exact c hs
   ·exact b s (.inr hs) k
theorem ln:∀ (l:List cF) (D:List ZA) (s:ZA),s∈cO D l↔s∈D\/s∈eb l
 | [],D,s=>by simp [cO,eb]
 | x::l,D,s=>by
  show s∈cO (tg D x) l↔_;rw [ln l,Em,rX,Xl,or_assoc]
theorem Ag:∀ (l:List qY) (D:List ZA) (s:ZA),s∈aZ D l↔s∈D\/s∈l.map (·.1)
 | [],D,s=>by simp [aZ]
 | x::l,D,s=>by
  show s∈aZ (x.1::D) l↔_;rw [Ag l,XH,Xq,Xq,<- or_assoc,or_comm (a:=s=x.1)]
def JX {D E:List ZA} (h:∀ s,s∈D↔s∈E) (s:ZA):fX D s=fX E s:=by
 have:fX D s=true↔fX E s=true:=by rw [oJ,oJ]; exact h s
 exact YS.2 this
theorem sC {D E:List ZA} (h:∀ s,s∈D↔s∈E):∀ (l:List ZA) (o:ZA),cS D o l=cS E o l
 | [],o=>rfl
 | x::l,o=>by
  rw [cS,cS,sC h l,Qc,Qc,JX h]
def wQ (u:cd):vk u=wO u:=by
 have hg:cS u.names dF u.aY=cS (fv u) dF u.aY:=by
  refine sC (fun s=>?_) _ _;unfold cd.names fv;rw [Ag,ln,ln];simp [or_assoc]
 rw [YS];unfold vk wO;rw [Xz,Xz,Xz,Xz,Xz,Xz,Xz,qu,qu,zX,hg,XA,XA,XA,decide_eq_true_iff];unfold fv;rw [XW,XW];have e1:∀ s,s∈cO [] u.text↔s∈eb u.text:=fun s=>by rw [ln]; simp
 have e2:∀ s,s∈cO (cO [] u.text) u.data↔s∈eb u.text\/s∈eb u.data:=fun s=>by rw [ln,e1]
 simp only [e1,e2,List.mem_append];constructor
 ·rintro ⟨⟨⟨⟨a1,a2,a3⟩,b1,b2,b3⟩,c1,c2,c3⟩,g⟩;refine ⟨a1,b1,c1,⟨⟨a3,b3,fun x hx y hy e=>b2 y hy (e▸hx)⟩,c3,fun x hx y hy e=>c2 y hy (e▸hx)⟩,g⟩
 ·rintro ⟨a1,b1,c1,⟨⟨a3,b3,d⟩,c3,f⟩,g⟩;exact ⟨⟨⟨⟨a1,fun s _=>aj,a3⟩,b1,fun s hs k=>d s k s hs rfl,b3⟩,c1,fun s hs k=>f s k s hs rfl,c3⟩,g⟩
def qC {α:Type} (f:α->Bool) (l:List α) {i:Nat} (hi:i<l.length):(l.drop i).all f=(f l[i] && (l.drop (i+1)).all f):=by
 rw [Xi hi,Zd]
def Wg {h:Hp} {p:ZC} {l:Nat} {x:cm} (v:qX h p l x):gK h p l x.ai/\x.ai.length<=9223372036854775807/\∀ t,t∈x.ai->t.1.size<=maxLen:=⟨v.vw,by have:=v.many; omega,v.names⟩
def yJ (D:List ZA):Prop:=∀ g,g∈D->cT g.data.toList=true
def yJ.snoc {D E:List ZA} (h:yJ D) (k:yJ E):yJ (D++E):=fun g hg=>(Xl.1 hg).elim (h g) (k g)
def yJ.item {x:cF} {sec:Nat} (r:cw x sec=true):yJ (if x.kind=1 then [x.name] else []):=by
 intro g hg;split at hg
 ·rename_i r1;rw [Xm.1 hg];rw [CJ r1,Xz] at r;exact r.1
 ·simp at hg
def Jh {h:Hp} {a b c d:cv} {u:cd} (v:sO h a b c d u):HC Tryz.prog 71 #[DL a b c d] h fun w h'=>w=.int .i64 (eS u:Nat)/\Ext h h':=by
 refine bd (args:=[DL a b c d]) mixed Tryz.func71 az (nu a.p a.l a.c b.p b.l b.c c.p c.l c.c d.p d.l d.c) ?_;unfold jF bf bh bG aQ aT cD bK bt aH aR;refine bk ?_;intro g1 b1 e1 z1;have b1:bH g1 h.size 47 [a.v,b.v,c.v,d.v]:=b1;have m1:=v.text.many;have m2:=v.data.many;have m3:=v.bg.many;have m4:=v.aY.many;have n1:=v.text.len;have n2:=v.data.len;have n3:=v.bg.len;have n4:=v.aY.len;simp only [aG];refine af b1 ((a.p,a.l,a.c),()) rfl (ao ?_);refine af b1 ((b.p,b.l,b.c),()) rfl (ao ?_);rw [wrap_i64 ad ad];unfold eS uF;refine ak (fun q=>?_) (fun q=>?_)
 ·have q:=W2 q;exact ⟨by rw [W9 (show 8192<u.text.length+u.data.length from ad)]; rfl,e1⟩
 have q:=W4 q;rw [Xa (show ¬ 8192<u.text.length+u.data.length from ad),YJ];refine af b1 ((c.p,c.l,c.c),()) rfl (ao ?_);refine ak (fun q=>?_) (fun q=>?_)
 ·have q:=W2 q;exact ⟨by rw [W9 (show 8192<u.bg.length from ad)]; rfl,e1⟩
 have q:=W4 q;rw [Xa (show ¬ 8192<u.bg.length from ad),W6 aj,wQ];generalize hU:wO u=U;unfold wO at hU;refine aU (cs:=[(false,[.int .i64]),(false,[.int .i64])]) (fun y w h'=>∃ i:Nat,y.2.1=(i:Int)/\w=u.text.length-i/\i<=u.text.length/\Ext h h'/\bH h' h.size 47 [a.v,b.v,c.v,d.v]/\yJ (eb (u.text.take i))/\((u.text.drop i).all (fun x=>cw x 0) && (u.data.all (fun x=>cw x 1) && (u.bg.all EX && (decide (fv u).Nodup && cS (fv u) dF u.aY))))=U) ((0:Int),(0:Int),()) u.text.length rfl
  ⟨0,rfl,rfl,ad,e1,b1,fun g hg=>by simp [eb] at hg,hU⟩ ?_
 clear hU;rintro ⟨n21,n22,⟨⟩⟩ w h2 ⟨i,hi,rfl,hle,e2,b2,hg1,hu⟩;simp only at hi;subst hi;refine ao ?_;refine af b2 ((a.p,a.l,a.c),()) rfl (ao ?_);refine ak ?_ ?_
 case _ =>
  intro q;have q:=W2 q;have hil:i<u.text.length:=ad
  refine af b2 ((a.p,a.l,a.c),()) rfl (ao ?_);obtain ⟨aa,pp,ll,cc,rfl',hc,va⟩:=(v.text.an e2).cells i hil;rw [qC _ _ hil] at hu;have ht:=vR u.text i hil;generalize u.text[i]=x at hc va hu ht;refine ay ⟨ad,ad⟩ (ax rfl' ?_);rw [show Int.toNat (i:Int)=i from ad];refine aC (x.kind,x.name,x.inst.op,x.inst.a,x.inst.b,x.inst.n,x.inst.form,(pp,ll,cc),(x.e.num:Int),x.n,()) hc (ao ?_);refine aK (Bw (c:=cc) (k:=0) va ad) ?_;rintro _ h3 ⟨rfl,e3⟩;refine ⟨((if cw x 0 then 0 else 31:Int),()),rfl,ao ?_⟩;cases hr:cw x 0 with
  | false =>
   refine bn aj ?_;refine ⟨by rw [<- hu,hr]; rfl,e2.trans e3⟩
  | true =>
   refine bJ aj ?_;rw [hr,Xu] at hu;refine aI (cs:=[(false,[.int .i64]),(false,[.int .i64])]) (n21,((i+1:Nat):Int),()) (u.text.length-(i+1)) rfl ad (by rw [wrap_i64 ad ad]; rfl) ?_;exact ⟨i+1,rfl,rfl,ad,e2.trans e3,b2.an e3 aj,by rw [ht]; exact hg1.snoc (yJ.item hr),hu⟩
 intro q;have q:=W4 q
 have:i=u.text.length:=ad
 subst this;rw [Yi,List.all_nil,Xu] at hu;rw [XB] at hg1;clear e1 b1;refine aU (cs:=[(false,[.int .i64]),(false,[.int .i64])]) (fun y w h'=>∃ i:Nat,y.2.1=(i:Int)/\w=u.data.length-i/\i<=u.data.length/\Ext h h'/\bH h' h.size 47 [a.v,b.v,c.v,d.v]/\yJ (eb (u.data.take i))/\((u.data.drop i).all (fun x=>cw x 1) && (u.bg.all EX && (decide (fv u).Nodup && cS (fv u) dF u.aY)))=U) (n21,(0:Int),()) u.data.length rfl
  ⟨0,rfl,rfl,ad,e2,b2,fun g hg=>by simp [eb] at hg,hu⟩ ?_
 clear hu e2 b2;rintro ⟨n31,n32,⟨⟩⟩ w h4 ⟨i,hi,rfl,hle,e2,b2,hg2,hu⟩;simp only at hi;subst hi;refine ao ?_;refine af b2 ((b.p,b.l,b.c),()) rfl (ao ?_);refine ak ?_ ?_
 case _ =>
  intro q;have q:=W2 q;have hil:i<u.data.length:=ad
  refine af b2 ((b.p,b.l,b.c),()) rfl (ao ?_);obtain ⟨aa,pp,ll,cc,rfl',hc,va⟩:=(v.data.an e2).cells i hil;rw [qC _ _ hil] at hu;have ht:=vR u.data i hil;generalize u.data[i]=x at hc va hu ht;refine ay ⟨ad,ad⟩ (ax rfl' ?_);rw [show Int.toNat (i:Int)=i from ad];refine aC (x.kind,x.name,x.inst.op,x.inst.a,x.inst.b,x.inst.n,x.inst.form,(pp,ll,cc),(x.e.num:Int),x.n,()) hc (ao ?_);refine aK (Bw (c:=cc) (k:=1) va ad) ?_;rintro _ h3 ⟨rfl,e3⟩;refine ⟨((if cw x 1 then 0 else 31:Int),()),rfl,ao ?_⟩;cases hr:cw x 1 with
  | false =>
   refine bn aj ?_;refine ⟨by rw [<- hu,hr]; rfl,e2.trans e3⟩
  | true =>
   refine bJ aj ?_;rw [hr,Xu] at hu;refine aI (cs:=[(false,[.int .i64]),(false,[.int .i64])]) (n31,((i+1:Nat):Int),()) (u.data.length-(i+1)) rfl ad (by rw [wrap_i64 ad ad]; rfl) ?_;exact ⟨i+1,rfl,rfl,ad,e2.trans e3,b2.an e3 aj,by rw [ht]; exact hg2.snoc (yJ.item hr),hu⟩
 intro q;have q:=W4 q
 have:i=u.data.length:=ad
 subst this;rw [Yi,List.all_nil,Xu] at hu;rw [XB] at hg2;refine aU (cs:=[(false,[.int .i64]),(false,[.int .i64])]) (fun y w h'=>∃ i:Nat,y.2.1=(i:Int)/\w=u.bg.length-i/\i<=u.bg.length/\Ext h h'/\bH h' h.size 47 [a.v,b.v,c.v,d.v]/\yJ ((u.bg.take i).map (·.1))/\((u.bg.drop i).all EX && (decide (fv u).Nodup && cS (fv u) dF u.aY))=U) (n31,(0:Int),()) u.bg.length rfl
  ⟨0,rfl,rfl,ad,e2,b2,fun g hg=>by simp at hg,hu⟩ ?_
 clear hu e2 b2;rintro ⟨n41,n42,⟨⟩⟩ w h4 ⟨i,hi,rfl,hle,e2,b2,hg3,hu⟩;simp only at hi;subst hi;refine ao ?_;refine af b2 ((c.p,c.l,c.c),()) rfl (ao ?_);refine ak ?_ ?_
 case _ =>
  intro q;have q:=W2 q;have hil:i<u.bg.length:=ad
  refine af b2 ((c.p,c.l,c.c),()) rfl (ao ?_);obtain ⟨aa,pp,ll,cc,rfl',hc,va,vn⟩:=(v.bg.an e2).cells i hil;rw [qC _ _ hil] at hu;have ht:(u.bg.take (i+1)).map (·.1)=(u.bg.take i).map (·.1)++[u.bg[i].1]:=by rw [W7 hil,Xf]; rfl
  generalize u.bg[i]=x at hc va vn hu ht;unfold EX at hu;refine ay ⟨ad,ad⟩ (ax rfl' ?_);rw [show Int.toNat (i:Int)=i from ad];refine aC (x.1,()) ⟨hc.1,trivial⟩ (ao ?_);refine aM (rJ x.1 _ (by have:maxLen=9223372036854775807:=rfl; omega)) ?_;cases hle:cT x.1.data.toList with
  | false =>
   refine bn aj ?_;refine ⟨by rw [<- hu,hle]; rfl,e2⟩
  | true =>
   refine bJ aj ?_;rw [hle,Xu] at hu;refine af b2 ((c.p,c.l,c.c),()) rfl (ao ?_);refine ay ⟨ad,ad⟩ (ax rfl' ?_);refine aC ((pp,ll,cc),(x.2.num:Int),()) ⟨by rw [add_add]; exact hc.2.1,by rw [add_add]; exact hc.2.2.1,trivial⟩ ?_;refine ao ?_;obtain ⟨w1,w2,w3⟩:=Wg va;refine gP (sW w1 w2 w3) ?_;intro h3 e3;cases hr:ni none x.2.ai with
   | false =>
    refine bn aj ?_;refine ⟨by rw [<- hu,hr]; rfl,e2.trans e3⟩
   | true =>
    refine bJ aj ?_;rw [hr,Xu] at hu;refine aI (cs:=[(false,[.int .i64]),(false,[.int .i64])]) (n41,((i+1:Nat):Int),()) (u.bg.length-(i+1)) rfl ad (by rw [wrap_i64 ad ad]; rfl) ?_;exact ⟨i+1,rfl,rfl,ad,e2.trans e3,b2.an e3 aj,by rw [ht]; exact hg3.snoc (fun g hg=>by rw [Xm.1 hg]; exact hle),hu⟩
 intro q;have q:=W4 q
 have:i=u.bg.length:=ad
 subst this;rw [Yi,List.all_nil,Xu] at hu;rw [XB] at hg3;refine af b2 ((a.p,a.l,a.c),(b.p,b.l,b.c),(c.p,c.l,c.c),(d.p,d.l,d.c),()) rfl (ao ?_);refine aK (Mj (v.an e2) ad ad ad) ?_;rintro _ h5 ⟨p38,l39,l40,rfl,s5,e5⟩;refine ⟨((p38,l39,l40),()),rfl,ao ?_⟩;have hA:(fv u).length<=2^20:=by
  unfold fv
  have:=ui u.text
  have:=ui u.data
  simp only [List.length_append,List.length_map];omega
 have n5:=SN.len s5;refine aK (rW s5 ad) ?_;rintro _ h6 ⟨p41,l43,ys,rfl,hy1,hy2,e6⟩;refine ⟨((p41,ys.length,l43),()),rfl,ao ?_⟩;have e56:=e5.trans e6;have e06:=e2.trans e56
 by_cases hnd:(fv u).Nodup
 case neg =>
  rw [Xa hnd] at hu;refine bn ?_ ⟨by rw [<- hu]; rfl,e06⟩
  have:¬ ys.length=(fv u).length:=fun k=>hnd (hy2.1 k)
  rw [n5];simp only [bne_iff_ne,ne_eq];omega
 rw [W9 hnd,Xu] at hu;have hy:=hy2.2 hnd;refine bJ (by rw [n5,hy]; simp) ?_;have s6:SN h6 h4.size p38 l39 l40 (fv u):=s5.an e6 aj;have b6:=b2.an e56 aj;have hleg:∀ g,g∈fv u->gS dF g:=fun g hg=>DK (((hg1.snoc hg2).snoc hg3) g hg)
 generalize fv u=E at hu s6 hA hleg;refine aU (cs:=[(false,[.int .i64]),(false,[.int .i64])]) (fun y w h'=>∃ i:Nat,y.2.1=(i:Int)/\w=u.aY.length-i/\i<=u.aY.length/\h'=h6/\cS E (nC u.aY i) (u.aY.drop i)=U) (n41,(0:Int),()) u.aY.length rfl
  ⟨0,rfl,rfl,ad,rfl,hu⟩ ?_
 clear hu;rintro ⟨n51,n52,⟨⟩⟩ w h7 ⟨i,hi,rfl,hile,rfl,hu⟩;simp only at hi;subst hi;refine ao ?_;refine af b6 ((d.p,d.l,d.c),()) rfl (ao ?_);refine ak (fun q=>?_) (fun q=>?_)
 ·have q:=W2 q;have hil:i<u.aY.length:=ad
  obtain ⟨aa,rfl',hc,va⟩:=(v.aY.an e06).cells i hil;rw [uL _ _ hil] at hu;unfold Qc at hu;refine ak (fun r2=>?_) (fun r2=>?_)
  ·have r2:=W2 r2;refine af b6 ((d.p,d.l,d.c),()) rfl (ao ?_);refine ay ⟨ad,ad⟩ (ax rfl' ?_);rw [show Int.toNat (i:Int)=i from ad,wrap_i64 (x:=(i:Int)-1) ad ad];refine aC (u.aY[i],()) hc (ao ?_);refine af b6 ((d.p,d.l,d.c),()) rfl (ao ?_);obtain ⟨ab,rfl'',hc',va'⟩:=(v.aY.an e06).cells (i-1) ad;refine ay ⟨ad,ad⟩ (ax rfl'' ?_);rw [show Int.toNat ((i:Int)-1)=i-1 from ad];refine aC (u.aY[i-1],()) hc' (ao ?_);have hla:nC u.aY i=u.aY[i-1]:=by
    unfold nC;rw [W6 ad,XT,W5 ad] <;> rfl
   rw [leB];rw [hla] at hu;refine ak (fun r3=>?_) (fun r3=>?_)
   ·have r3:decide (gS u.aY[i-1] u.aY[i])=false:=by simpa using r3
    exact ⟨by rw [<- hu,r3,YY]; rfl,e06⟩
   ·have r3:decide (gS u.aY[i-1] u.aY[i])=true:=by simpa using r3
    rw [r3,Yk] at hu;refine af b6 ((d.p,d.l,d.c),()) rfl (ao ?_);refine ay ⟨ad,ad⟩ (ax rfl' ?_);refine aC (u.aY[i],()) hc (ao ?_);refine aM (Cn s6 ad _) ?_;refine ⟨⟨b6.cells _ rfl,hc',b6.cells _ rfl,hc,b6.cells _ rfl,trivial⟩,?_⟩;cases hr:fX E u.aY[i] with
    | false =>
     refine bn aj ?_;exact ⟨by rw [<- hu,hr]; rfl,e06⟩
    | true =>
     refine bJ aj ?_;rw [hr,Xu] at hu;exact aI (cs:=[(false,[.int .i64]),(false,[.int .i64])]) (n51,((i+1:Nat):Int),()) (u.aY.length-(i+1)) rfl ad (by rw [wrap_i64 ad ad]; rfl) ⟨i+1,rfl,rfl,ad,rfl,hu⟩
  ·have r2:=W4 r2;have hi0:i=0:=ad
   subst hi0;refine af b6 ((d.p,d.l,d.c),()) rfl (ao ?_);refine ay ⟨ad,ad⟩ (ax rfl' ?_);refine aC (u.aY[0],()) hc (ao ?_);refine aM (Cn s6 ad _) ?_;refine ⟨⟨b6.cells _ rfl,trivial⟩,?_⟩;cases hr:fX E u.aY[0] with
   | false =>
    refine bn aj ?_;exact ⟨by rw [<- hu,hr]; rfl,e06⟩
   | true =>
    refine bJ aj ?_;have hg:decide (gS (nC u.aY 0) u.aY[0])=true:=W9 (hleg _ (oJ.1 hr));rw [hr,hg,Xu,Xu] at hu;exact aI (cs:=[(false,[.int .i64]),(false,[.int .i64])]) (n51,((0+1:Nat):Int),()) (u.aY.length-(0+1)) rfl ad (by rw [wrap_i64 ad ad]; rfl) ⟨0+1,rfl,rfl,ad,rfl,hu⟩
 ·have q:=W4 q
  have:i=u.aY.length:=ad
  subst this;rw [Yi] at hu;exact ⟨by rw [<- hu]; rfl,e06⟩
end Go.Sx.Ob
namespace Go.Sx
open Go.Proofs
section any
variable {P:Program} {h:Hp}
end any
def fP (h:Hp):Prop:=∃ e f,h[1]?=some (.cells (Lib.pow10Tab.map fun z=>Value.int .u64 z).toArray e f)
def fP.an {ws:List Nat} {h h':Hp} (p:fP h) (k:Ch ws h h') (hw:∀ i,i∈ws->1<i):fP h':=by
 obtain ⟨e,f,hp⟩:=p;exact ⟨e,f,k.get hp (fun hm=>by have:=hw _ hm; omega)⟩
def Hc {W:World} {name:String} (hg:Tryz.prog.globalNamed name=some 1) (p:fP W.heap):Lib.TabIs Tryz.prog W name .u64 Lib.pow10Tab:=by
 obtain ⟨e,f,hp⟩:=p;unfold Lib.TabIs World.var?;rw [hg];show (match W.heap[1]? with | some (.cells cs _ _)=>some cs | _=>none)=_;rw [hp]
def wG {h:Hp} (p:fP h) (u:Nat) (h1:1<=u) (h2:u<18446744073709551616):vz Tryz.prog 119 [.int .u64 u] h (.int .i64 (Lib.nDigits u)):=by
 intro W hW;refine ((Any.internal_strconv_numDigits Tryz.Mn u h1 h2 W (Hc az (by rw [hW]; exact p))).mono ?_);rintro e w' ⟨he,hw⟩;exact ⟨_,he,by rw [hw]; exact dG.refl W,rfl,by rw [hw]; exact hW⟩
def fS (n:Nat):ZA:=⟨(Lib.decDigits n).toArray⟩
def gb (f:ZA->Nat):da->Nat
 | []=>0
 | p::l=>p.2*f p.1+gb f l
def eP (f:ZA->Nat) (p:ZA × Nat) (l:da):gb f (p::l)=p.2*f p.1+gb f l:=rfl
def MB (a b:Nat):a % 4294967296*b % 4294967296=a*b % 4294967296:=by rw [Y6,Zl,<- Y6]
section
variable {α:Type}
def vE (en:α->ZB) (D:List (ZA × α)):List (ZA × ZB):=D.map fun p=>(p.1,en p.2)
def gE (D:List (ZA × α)) (s:ZA):Option α:=(D.find? fun p=>decide (s=p.1)).map (·.2)
def pE (D:List (ZA × α)) (s:ZA) (v:α):List (ZA × α):=if (gE D s).isSome then D.map fun p=>if s=p.1 then (p.1,v) else p else D++[(s,v)]
def mu (en:α->ZB) (D:List (ZA × α)) (s:ZA):look (vE en D) s=(gE D s).map en:=by
 unfold look gE vE
 induction D with
 | nil=>rfl
 | cons p D ih =>
  by_cases h:s=p.1
  ·simp [h]
  ·simp only [List.map_cons,List.find?_cons,decide_eq_false h];exact ih
def Gs (en:α->ZB) (D:List (ZA × α)) (s:ZA) (v:α):je (vE en D) s (en v)=vE en (pE D s v):=by
 unfold je pE;rw [mu];cases h:gE D s with
 | none=>simp [vE]
 | some q =>
  simp only [Option.map_some,Option.isSome_some,if_true,vE,List.map_map];refine XQ fun p hp=>?_
  simp only [Function.comp];split <;> simp_all
def wx (D:List (ZA × α)) (s:ZA) (v:α):(pE D s v).length=if (gE D s).isSome then D.length else D.length+1:=by
 unfold pE;split <;> simp
def wC (D:List (ZA × α)) (s t:ZA) (v:α):gE (D++[(s,v)]) t=(gE D t).or (if t=s then some v else none):=by
 unfold gE;rw [YT];cases h:D.find? (fun p=>decide (t=p.1)) with
 | some q=>simp
 | none =>
  simp only [Option.none_or,Option.map_none,List.find?_cons,List.find?_nil]
  by_cases e:t=s
  ·simp [e]
  ·simp [e]
def FX (D:List (ZA × α)) (s t:ZA) (v:α) (hs:(gE D s).isSome):gE (D.map fun p=>if s=p.1 then (p.1,v) else p) t=if t=s then some v else gE D t:=by
 unfold gE at *
 induction D with
 | nil=>simp at hs
 | cons p D ih =>
  by_cases h:s=p.1
  ·by_cases e:t=s
   ·simp [h,e]
   ·have e2:¬ t=p.1:=fun k=>e (k.trans h.symm)
    have hg:∀ l:List (ZA × α),(List.find? (fun p=>decide (t=p.1)) (List.map (fun p=>if s=p.1 then (p.1,v) else p) l)).map (·.2)=(List.find? (fun p=>decide (t=p.1)) l).map (·.2):=by
     intro l
     induction l with
     | nil=>rfl
     | cons q l ihl =>
      by_cases hq:s=q.1
      ·have:¬ t=q.1:=fun k=>e (k.trans hq.symm)
       simp only [List.map_cons,List.find?_cons,if_pos hq,decide_eq_false this];exact ihl
      ·simp only [List.map_cons,List.find?_cons,if_neg hq]
       by_cases ht:t=q.1
       ·simp [ht]
       ·simp only [decide_eq_false ht];exact ihl
    simp only [List.map_cons,List.find?_cons,if_pos h,decide_eq_false e2,if_neg e];exact hg D
  ·have hs2:(Option.map (fun x=>x.2) (List.find? (fun p=>decide (s=p.1)) D)).isSome:=by
    simpa [List.find?_cons,decide_eq_false h] using hs
   simp only [List.map_cons,List.find?_cons,if_neg h]
   by_cases ht:t=p.1
   ·have:¬ t=s:=fun k=>h (k.symm.trans ht)
    simp [ht,if_neg (ht▸this)]
   ·simp only [decide_eq_false ht];exact ih hs2
def Nl (D:List (ZA × α)) (s:ZA) (v:α) (t:ZA):gE (pE D s v) t=if t=s then some v else gE D t:=by
 unfold pE;split
 ·rename_i h;exact FX D s t v h
 ·rename_i h;rw [wC]
  by_cases e:t=s
  ·subst e
   have:gE D t=none:=by simpa using h
   rw [this]; simp
  ·simp [e]
def dC (f:ZA->Option α) (s:ZA) (v:α):ZA->Option α:=fun t=>if t=s then some v else f t
def cy (f:ZA->Option α) (s:ZA) (v:α):dC f s v s=some v:=by simp [dC]
def bX (f:ZA->Option α) {s t:ZA} (v:α) (h:t≠s):dC f s v t=f t:=by simp [dC,h]
def dP (en:α->ZB) (h:Hp) (g:Nat) (f:ZA->Option α) (n:Nat):Prop:=∃ D:List (ZA × α),dT h g (vE en D)/\(∀ s,gE D s=f s)/\D.length=n
def dP.an {en:α->ZB} {ws:List Nat} {h h':Hp} {g:Nat} {f:ZA->Option α} {n:Nat} (m:dP en h g f n) (k:Ch ws h h') (hw:g∉ws):dP en h' g f n:=by
 obtain ⟨D,m,r⟩:=m;exact ⟨D,m.an k hw,r⟩
def dP.lt {en:α->ZB} {h:Hp} {g:Nat} {f:ZA->Option α} {n:Nat} (m:dP en h g f n):g<h.size:=by
 obtain ⟨D,m,r⟩:=m;exact m.lt
def dP.new {en:α->ZB} {h:Hp} {g:Nat} (m:dT h g []):dP en h g (fun _=>none) 0:=⟨[],m,fun s=>rfl,rfl⟩
def dP.je {en:α->ZB} {h':Hp} {g:Nat} {f:ZA->Option α} {n:Nat} {D:List (ZA × α)} (hD:∀ s,gE D s=f s) (hn:D.length=n) {s:ZA} {v:α} (m:dT h' g (Sx.je (vE en D) s (en v))):dP en h' g (dC f s v) (if (f s).isSome then n else n+1):=by
 rw [Gs] at m;refine ⟨_,m,fun t=>?_,?_⟩
 ·rw [Nl,hD t]; rfl
 ·rw [wx,hD s,hn]
end
def eI (n:Nat):ZB:=.int .i64 (n:Int)
def eB (b:Bool):ZB:=.bool b
def Hq:Tryz.prog.underlying 89=some (.map 9 3):=az
def QQ:Tryz.prog.underlying 58=some (.map 9 4):=az
def RB:(Tryz.prog.info? 3).bind (·.zero)=some (.int .i64 0):=az
def MF:(Tryz.prog.info? 4).bind (·.zero)=some (.bool false):=az
section
variable {L:Lp} {K:ZB->Hp->Prop} {h:Hp} {g n:Nat}
def HS {f:ZA->Option Nat} (m:dP eI h g f n) (s:ZA) {k:Int->T} (hk:k (((f s).getD 0:Nat):Int) L K h):T.ek Tryz.prog (Instr.lookup 89 (.map (some g)) (.string s) false) false [(false,[.int .i64])] k L K h:=by
 obtain ⟨D,m,hD,hn⟩:=m;refine hZ Hq wM RB m s false _ ?_;refine ⟨((((f s).getD 0:Nat):Int),()),?_,hk⟩;simp only [Bool.false_eq_true,if_false];rw [mu,hD s]
 all_goals (cases f s <;> rfl)
def CD {f:ZA->Option Nat} (m:dP eI h g f n) (s:ZA) {k:Int->Bool->T} (hk:k (((f s).getD 0:Nat):Int) (f s).isSome L K h):T.ek Tryz.prog (Instr.lookup 89 (.map (some g)) (.string s) true) true [(false,[.int .i64]),(false,[.bool])] k L K h:=by
 obtain ⟨D,m,hD,hn⟩:=m;refine hZ Hq wM RB m s true _ ?_;refine ⟨((((f s).getD 0:Nat):Int),(f s).isSome,()),?_,hk⟩;rw [Xb rfl,mu,hD s]
 all_goals (cases f s <;> rfl)
def L7 {f:ZA->Option Bool} (m:dP eB h g f n) (s:ZA) {k:Bool->T} (hk:k ((f s).getD false) L K h):T.ek Tryz.prog (Instr.lookup 58 (.map (some g)) (.string s) false) false [(false,[.bool])] k L K h:=by
 obtain ⟨D,m,hD,hn⟩:=m;refine hZ QQ wM MF m s false _ ?_;refine ⟨((f s).getD false,()),?_,hk⟩;simp only [Bool.false_eq_true,if_false];rw [mu,hD s]
 all_goals (cases f s <;> rfl)
def qn {f:ZA->Option Nat} (m:dP eI h g f n) {s:ZA} (hs:s.size<=maxLen) {v:Int} {w:Nat} (hv:v=(w:Int)) {k:T} (hk:∀ h',dP eI h' g (dC f s w) (if (f s).isSome then n else n+1)->Ch [g] h h'->h'.size=h.size->k L K h') :
  T.ei Tryz.prog (Instr.mapUpdate 89 (.map (some g)) (.string s) (.int .i64 v)) k L K h:=by
 subst hv;obtain ⟨D,m,hD,hn⟩:=m;refine fg Hq wM m hs _ _ ?_;intro h' m' c' z';exact hk h' (dP.je (en:=eI) hD hn m') c' z'
def T2 {f:ZA->Option Bool} (m:dP eB h g f n) {s:ZA} (hs:s.size<=maxLen) {b:Bool} {k:T} (hk:∀ h',dP eB h' g (dC f s b) (if (f s).isSome then n else n+1)->Ch [g] h h'->h'.size=h.size->k L K h') :
  T.ei Tryz.prog (Instr.mapUpdate 58 (.map (some g)) (.string s) (.bool b)) k L K h:=by
 obtain ⟨D,m,hD,hn⟩:=m;refine fg QQ wM m hs _ _ ?_;intro h' m' c' z';exact hk h' (dP.je (en:=eB) hD hn m') c' z'
def xR {α:Type} {en:α->ZB} {t:TypeId} {k:Option Nat->T} (hk:∀ h',dP en h' h.size (fun _=>none) 0->Ext h h'->h'.size=h.size+1->k (some h.size) L K h'):T.ek Tryz.prog (Instr.makeMap t none) false [(false,[.map 0 0])] k L K h:=by
 refine jx _ ?_;intro h' m e z;exact ⟨(some h.size,()),rfl,hk h' (dP.new m) e z⟩
def V5 {α:Type} {en:α->ZB} {f:ZA->Option α} (m:dP en h g f n) {k:Int->T} (hk:k (n:Int) L K h):T.ek Tryz.prog (Builtin.len_ #[89] 3 #[.map (some g)]) false [(false,[.int .i64])] k L K h:=by
 obtain ⟨D,m,hD,hn⟩:=m;obtain ⟨es,clock,hg,he,hst,hd⟩:=m;have hes:es.size=n:=by
  have:=Xj List.length he
  simpa [vE,hn] using this
 show aS _ _ _ _;unfold Builtin.len_;simp only [List.getElem?_toArray,List.getElem?_cons_zero];rw [ar,aF Hq];simp only [pure_bind];rw [ar];refine fT hg aj _ ?_;simp only [pure_bind];exact ⟨((n:Int),()),by rw [hes]; rfl,hk⟩
def T7 {a b:Nat} {k:Int->T} (hk:k ((min a b:Nat):Int) L K h):T.ek Tryz.prog (Builtin.min_ #[3,3] 3 #[.int .i64 (a:Int),.int .i64 (b:Int)]) false [(false,[.int .i64])] k L K h:=by
 show aS _ _ _ _;refine ⟨(((min a b:Nat):Int),()),?_,hk⟩;show Value.int .i64 (if (b:Int)<(a:Int) then (b:Int) else (a:Int))=.int .i64 ((min a b:Nat):Int)
 congr 1
 split <;> omega
end
structure cI where
 name:ZA
 p:ZC
 l:Nat
 c:Nat
 x:cm
def yZ (e:cI):List ZB:=[.string e.name,.slice e.p e.l e.c,.int .u32 e.x.num]
structure tk (h:Hp) (p:ZC) (l:Nat) (es:List cI):Prop where
 len:l=es.length
 cells:∀ i,(hi:i<es.length)->∃ a,p=some a/\aJ h (a.add (i*3)) 0 (yZ es[i])
 fm:∀ e,e∈es->gK h e.p e.l e.x.ai
def tk.an {h h':Hp} {p:ZC} {l:Nat} {es:List cI} (v:tk h p l es) (k:Ext h h'):tk h' p l es :=
 ⟨v.len,fun i hi=>by
  obtain ⟨a,ha,hc⟩:=v.cells i hi;exact ⟨a,ha,aX k aj _ _ hc⟩,fun e he=>(v.fm e he).an k aj⟩
def j8 (es:List cI) (s:ZA):Option Nat:=es.findIdx? fun e=>decide (e.name=s)
def EL {es:List cI} {e:cI} (hn:∀ d,d∈es->d.name≠e.name) (s:ZA):j8 (es++[e]) s=dC (j8 es) e.name es.length s:=by
 unfold j8 dC;rw [Y7]
 by_cases h:s=e.name
 ·subst h
  have:es.findIdx? (fun d=>decide (d.name=e.name))=none:=by
   rw [XL];intro d hd;simpa using hn d hd
  rw [this];simp [List.findIdx?_cons]
 ·have:¬ e.name=s:=fun k=>h k.symm
  rw [W6 h];cases hh:es.findIdx? (fun d=>decide (d.name=s)) with
  | none=>show _=List.findIdx? _ es; rw [hh]; simp [List.findIdx?_cons,this]
  | some k=>show _=List.findIdx? _ es; rw [hh]; simp
def Fb {es:List cI} {s:ZA} (h:∀ d,d∈es->d.name≠s):j8 es s=none:=by
 unfold j8;rw [XL];intro d hd;simpa using h d hd
def zh {h:Hp} {p:ZC} {l c:Nat} {es:List cI} (v:tk h p l es) (hl:es.length<=2^40) (hn:(es.map (·.name)).Nodup) (hs:∀ e,e∈es->e.name.size<=maxLen) :
  HC Tryz.prog 64 #[.slice p l c] h fun w h'=>(∃ g,w=.map (some g)/\dP eI h' g (j8 es) es.length/\h.size<=g)/\Ext h h':=by
 refine bd (args:=[.slice p l c]) mixed Tryz.func64 az (wZ p l c) ?_;unfold sP bf bh bG aQ bR aH bi bT aR;refine xR (en:=eI) ?_;intro h1 m1 e1 z1;have hll:=v.len;refine aU (cs:=[(false,[.int .i64])]) (fun x w h'=>∃ i:Nat,x.1=(i:Int)/\i<=es.length/\w=es.length-i/\dP eI h' h.size (j8 (es.take i)) i/\Ext h h') ((0:Int),()) es.length rfl ⟨0,rfl,ad,ad,m1,e1⟩ ?_;rintro ⟨n2,⟨⟩⟩ w h2 ⟨i,hi,hile,rfl,m2,e2⟩;simp only at hi;subst hi;refine ao ?_;refine ak (fun g1=>?_) (fun g1=>?_)
 ·have g1:=W2 g1;have hilt:i<es.length:=ad
  obtain ⟨a,rfl,hc⟩:=(v.an e2).cells i hilt;have htk:es.take (i+1)=es.take i++[es[i]]:=W7 hilt;have hsz:=hs es[i] (Xe hilt);have hnd:∀ d,d∈es.take i->d.name≠es[i].name:=by
   intro d hd he;obtain ⟨j,hj,rfl⟩:=Xw hd;rw [Xr] at hj;rw [List.getElem_take] at he;exact YQ.1 hn j i (by rw [W3]; omega) (by rw [W3]; omega) ad (by simpa using he)
  generalize es[i]=e at hc htk hsz hnd;refine ay ⟨ad,ad⟩ (ax rfl ?_);rw [show Int.toNat (i:Int)=i from ad];refine aC (e.name,(e.p,e.l,e.c),(e.x.num:Int),()) hc (ao ?_);refine bk ?_;intro h3 b3 e3 z3;refine aw b3 rfl aj ?_;intro h4 b4 k4 z4;have b4:bH h4 h2.size 100 [.string e.name,.slice e.p e.l e.c,.int .u32 e.x.num]:=b4;have e24:Ext h2 h4:=Ch.trans e3 k4 (fun j hj hl=>by simp at hj; omega);refine af b4 (e.name,()) rfl (ao ?_);refine qn (w:=i) (m2.an e24 aj) hsz rfl ?_;intro h5 m5 k5 z5;have hw:IntKind.wrap .i64 ((i:Int)+1)=((i+1:Nat):Int):=by rw [wrap_i64 ad ad]; omega
  have hf:j8 (es.take (i+1))=dC (j8 (es.take i)) e.name i:=by
   rw [htk]
   funext s
   rw [EL hnd,Xr,Yc ad]
  rw [Fb hnd] at m5;refine aI (cs:=[(false,[.int .i64])]) (((i+1:Nat):Int),()) (es.length-(i+1)) rfl ad (Xj (fun z=>[Value.int .i64 z]) hw) ⟨i+1,rfl,ad,rfl,by rw [hf]; exact m5,Ch.trans (e2.trans e24) k5 (fun j hj hl=>by simp at hj; omega)⟩
 ·have g1:=W4 g1;have hi:i=es.length:=ad
  subst hi;rw [XB] at m2;exact ⟨⟨_,rfl,m2,Xk _⟩,e2⟩
def qO (of:ZA->Option cm) (t:ZA × Nat):da:=match of t.1 with
 | none=>[t]
 | some y=>y.ai.map fun u=>(u.1,t.2*u.2 % 4294967296)
def fZ (of:ZA->Option cm) (n:Nat) (t:ZA × Nat):Nat:=match of t.1 with
 | none=>n
 | some y=>(n+t.2*y.num % 4294967296) % 4294967296
def db (of:ZA->Option cm) (x:cm):cm:=⟨Dl (x.ai.flatMap (qO of)),x.ai.foldl (fZ of) x.num⟩
structure qT where
 p:ZC
 l:Nat
 c:Nat
 x:cm
def eL (y:qT):ZB:=iA y.p y.l y.c y.x
structure Gf (h:Hp) (g:Nat) (f:ZA->Option qT) (n:Nat):Prop where
 map:dP eL h g f n
 fm:∀ s y,f s=some y->gK h y.p y.l y.x.ai
def Gf.an {ws:List Nat} {h h':Hp} {g:Nat} {f:ZA->Option qT} {n:Nat} (m:Gf h g f n) (k:Ch ws h h') (hw:g∉ws) (hi:∀ s y,f s=some y->∀ i,i∈aP y.p->i∉ws):Gf h' g f n :=
 ⟨m.map.an k hw,fun s y hy=>(m.fm s y hy).an k (hi s y hy)⟩
def UK:Tryz.prog.underlying 149=some (.map 9 69):=az
def U0:(Tryz.prog.info? 69).bind (·.zero)=some (.agg #[.slice none 0 0,.int .u32 0]):=az
def Ab {L:Lp} {K:ZB->Hp->Prop} {h:Hp} {g n:Nat} {f:ZA->Option qT} (m:dP eL h g f n) (s:ZA) {k:ZC->Nat->Nat->Int->Bool->T} (h1:∀ y,f s=some y->k y.p y.l y.c (y.x.num:Int) true L K h) (h0:f s=none->k none 0 0 0 false L K h) :
  T.ek Tryz.prog (Instr.lookup 149 (.map (some g)) (.string s) true) true [(true,[.slice 117,.int .u32]),(false,[.bool])] k L K h:=by
 obtain ⟨D,m,hD,hn⟩:=m;refine hZ UK wM U0 m s true _ ?_;rw [Xb rfl,mu,hD s];cases hf:f s with
 | none=>exact ⟨((none,0,0),(0:Int),false,()),rfl,h0 hf⟩
 | some y=>exact ⟨((y.p,y.l,y.c),(y.x.num:Int),true,()),rfl,h1 y hf⟩
def K7 {L:Lp} {K:ZB->Hp->Prop} {h:Hp} {g n:Nat} {f:ZA->Option qT} (m:dP eL h g f n) {s:ZA} (hs:s.size<=maxLen) (y:qT) {k:T} (hk:∀ h',dP eL h' g (dC f s y) (if (f s).isSome then n else n+1)->Ch [g] h h'->h'.size=h.size->k L K h') :
  T.ei Tryz.prog (Instr.mapUpdate 149 (.map (some g)) (.string s) (.agg #[.slice y.p y.l y.c,.int .u32 (y.x.num:Int)])) k L K h:=by
 obtain ⟨D,m,hD,hn⟩:=m;refine fg UK wM m hs _ _ ?_;intro h' m' c' z';exact hk h' (dP.je (en:=eL) hD hn m') c' z'
def T3 (r:Option Nat) (p:ZC) (l:Nat) (a14:Zx) (lv:Nat) (k:T):T :=
  T.loop [aR] [.int .i64 (0:Int)] <| fun (n25:Int) =>
  bG n25 l
  (T.need (fo n25 l) <|
  T.bF p <| fun (a26:Zx) =>
  T.ah (a26.add (aQ n25 2)) [.string,.int .u32] <| fun (s27:ZA) (n28:Int) =>
  T.new [bT,aH (0:Int)] 117 <| fun (a29:Zx) =>
  T.aE a29 [.string s27,aH n28] <|
  T.ah a29 [.string] <| fun (Vz:ZA) =>
  bR (Instr.lookup 183 (.map r) (.string Vz) false) false [(false,[.int .u32])] <| fun (n31:Int) =>
  T.ah (a14.add 1) [.int .u32] <| fun (n32:Int) =>
  T.ah (a29.add 1) [.int .u32] <| fun (n33:Int) =>
  T.ei Tryz.prog (Instr.mapUpdate 183 (.map r) (.string Vz) (aH (IntKind.wrap .u32 (n31+(IntKind.wrap .u32 (n32*n33)))))) <|
  T.again lv [.int .i64 (bt (n25+(1:Int)))]) k
def Px {L:Lp} {K:ZB->Hp->Prop} {h:Hp} {g ga q:Nat} {nm:ZA} {p:ZC} {l:Nat} {us D:da} {k:T} {lv:Nat} (hlv:L.length=lv) (v:gK h p l us) (hl:us.length<=2^40) (hs:∀ t,t∈us->t.1.size<=maxLen) (m:dT h g (vm D)) (hg:us≠[]->g∉aP p)
  (ba:bH h ga 117 [.string nm,.int .u32 (q:Int)]) (hga:ga≠g)
  (hk:∀ J h',dT h' g (vm ((us.map fun u=>(u.1,q*u.2 % 4294967296)).foldl iR D))->Ch [g] h h'->k (L++[J]) K h'):T3 (some g) p l ⟨ga,0,none⟩ lv k L K h:=by
 have hll:=v.len;have hL:∀ J:List ZB->Hp->Prop,(L++[J])[lv]?=some J:=by intro J; subst hlv; simp
 unfold T3 bG aQ bR bt fo aH bT aR;refine aU (cs:=[(false,[.int .i64])]) (fun y w h'=>∃ (i:Nat),y.1=(i:Int)/\i<=us.length/\w=us.length-i/\Ch [g] h h'/\dT h' g (vm (((us.take i).map fun u=>(u.1,q*u.2 % 4294967296)).foldl iR D))) ((0:Int),()) us.length rfl
  ⟨0,rfl,ad,ad,Ch.refl _ _,by simpa using m⟩ ?_
 rintro ⟨n8,⟨⟩⟩ w h4 ⟨i,hi,hile,rfl,k4,m4⟩;simp only at hi;subst hi;refine ao ?_;refine ak (fun g1=>?_) (fun g1=>?_)
 ·have g1:=W2 g1;have hilt:i<us.length:=ad
  obtain ⟨a,rfl,hc⟩:=(v.an k4 (by intro j hj hm; rw [Xm] at hm; subst hm; exact hg (List.ne_nil_of_length_pos ad) hj)).cells i hilt;have htk:us.take (i+1)=us.take i++[us[i]]:=W7 hilt;have hsz:=hs us[i] (Xe hilt);generalize us[i]=t at hc htk hsz;refine ay ⟨ad,ad⟩ (ax rfl ?_);rw [show Int.toNat (i:Int)=i from ad];refine aC (t.1,(t.2:Int),()) hc (ao ?_);refine bk ?_;intro h5 b5 e5 z5;refine aw b5 rfl aj ?_;intro h6 b6 k6 z6;have b6:bH h6 h4.size 117 (dc t):=b6;have e46:Ext h4 h6:=Ch.trans e5 k6 (fun j hj hl=>by simp at hj; omega);have m6:=m4.an e46 aj;have a6:=(ba.an k4 (by simpa using hga)).an e46 aj;refine af b6 (t.1,()) rfl (ao ?_);refine oS m6 _ ?_;rw [aG];refine af a6 ((q:Int),()) rfl (ao ?_);rw [aG];refine af b6 ((t.2:Int),()) rfl (ao ?_);generalize hDD:((us.take i).map fun u=>(u.1,q*u.2 % 4294967296)).foldl iR D=D' at m6;refine Gu (n:=(dO D' t.1+q*t.2 % 4294967296) % 4294967296) m6 hsz ?_ ?_
  ·rw [dS,dS,iy,Y2,iy,Int.natCast_mul]
  ·intro h7 m7 k7 z7;have hw:IntKind.wrap .i64 ((i:Int)+1)=((i+1:Nat):Int):=by rw [wrap_i64 ad ad]; omega
   have hf:((us.take (i+1)).map fun u=>(u.1,q*u.2 % 4294967296)).foldl iR D=uf D' t.1 ((dO D' t.1+q*t.2 % 4294967296) % 4294967296):=by
    rw [htk,Xf,XX,hDD] <;> rfl
   refine aI (cs:=[(false,[.int .i64])]) (((i+1:Nat):Int),()) (us.length-(i+1)) (hL _) ad (Xj (fun z=>[Value.int .i64 z]) hw) ⟨i+1,rfl,ad,rfl,?_,by rw [hf]; exact m7⟩;exact Ch.trans (Ch.trans k4 e46 aj) k7 (fun j hj _=>hj)
 ·have g1:=W4 g1;have hi:i=us.length:=ad
  subst hi;rw [XB] at m4;exact hk _ _ m4 k4
def Rj (r0:Option Nat) (a2:Zx) (n1:Int) (lv:Nat):T :=
 T.new [bi,aH (0:Int)] 69 <| fun (a3:Zx) =>
 T.aE a3 [bi,aH n1] <|
 bK 93 [.map r0] false [(false,[.func #[63] #[] false])] <| fun (v4:ZB) =>
 bK 92 [v4] false [(false,[.slice 9])] <| fun (p5:ZC) (l6:Nat) (l7:Nat) =>
 T.loop [aR] [.int .i64 (0:Int)] <| fun (n8:Int) =>
 bG n8 l6
 (T.need (fo n8 l6) <|
 T.bF p5 <| fun (a9:Zx) =>
 T.ah (a9.add (aQ n8 1)) [.string] <| fun (s10:ZA) =>
 bR (Instr.lookup 183 (.map r0) (.string s10) false) false [(false,[.int .u32])] <| fun (n11:Int) =>
 cond (n11 != (0:Int))
  (T.ah a3 [.slice 117] <| fun (p12:ZC) (l13:Nat) (l14:Nat) =>
  bR (Instr.lookup 183 (.map r0) (.string s10) false) false [(false,[.int .u32])] <| fun (n15:Int) =>
  bR (Instr.buildSlice 66 1 #[(0,.agg #[.string s10,aH n15])]) false [dh] <| fun (p16:ZC) (l17:Nat) (l18:Nat) =>
  bR (Builtin.append_ #[66,66] 66 #[.slice p12 l13 l14,.slice p16 l17 l18]) false [dh] <| fun (p19:ZC) (l20:Nat) (l21:Nat) =>
  T.aE a3 [.slice p19 l20 l21] <|
  T.again lv [.int .i64 (bt (n8+(1:Int)))])
  (T.again lv [.int .i64 (bt (n8+(1:Int)))]))
 (T.ah a3 [.slice 117,.int .u32] <| fun (p9:ZC) (l10:Nat) (l11:Nat) (n12:Int) =>
 T.aE a2 [.slice p9 l10 l11,aH n12] <|
 T.ah a2 [.slice 117,.int .u32] <| fun (p13:ZC) (l14:Nat) (l15:Nat) (n16:Int) =>
 T.ret (.agg #[.slice p13 l14 l15,aH n16]))
def LN {L:Lp} {K:ZB->Hp->Prop} {h:Hp} {g g2:Nat} {D:da} {lv:Nat} (hlv:L.length=lv) (m:dT h g (vm D)) (hl:D.length<=2^40) (n:Int) (c0:bH h g2 69 [.slice none 0 0,.int .u32 0])
  (hk:∀ p l c h',SL h' h.size 117 2 p l c ((Du D).map dc)->Ch [g2] h h'->K (.agg #[.slice p l c,.int .u32 n]) h'):Rj (some g) ⟨g2,0,none⟩ n lv L K h:=by
 have hL:∀ J:List ZB->Hp->Prop,(L++[J])[lv]?=some J:=by intro J; subst hlv; simp
 have hg2:=c0.lt;unfold Rj bG aQ bK bR bt fo aH bi aR dh;refine bk ?_;intro h2 b2 e2 z2;refine aw b2 rfl aj ?_;intro h3 b3 k3 z3;have b3:bH h3 h.size 69 [.slice none 0 0,.int .u32 n]:=b3;have e3:Ext h h3:=Ch.trans e2 k3 (fun i hi hl=>by simp at hi; omega);have m3:=m.an e3 aj;have c3:bH h3 g2 69 [.slice none 0 0,.int .u32 0]:=c0.an e3 aj;refine aK (H2 (some g) h3) ?_;rintro _ h4 ⟨rfl,rfl⟩;refine ⟨(.func (.func 117) #[] #[.pointer (some ⟨h3.size,0,none⟩)],()),rfl,ao ?_⟩;have e4:Ext h3 (h3.push (.cells #[.map (some g)] 183)):=Ext.push _ _;have hkl:(vm D).length<=2^40:=by unfold vm; rw [W3]; exact hl
 refine aK (rW m3 hkl) ?_;rintro _ h5 ⟨pk,lk,ck,rfl,sk,e5⟩;refine ⟨((pk,lk,ck),()),rfl,ao ?_⟩;have e35:=e4.trans e5;have hkeys:(keysOf (vm D)).length<=2^40:=by
  unfold keysOf;rw [List.length_mergeSort,W3];exact hkl
 have hlk:lk=(keysOf (vm D)).length:=by rw [sk.1,W3]
 unfold Du at hk;generalize keysOf (vm D)=ks at sk hkeys hlk hk;have b5:=b3.an e35 aj;have c5:=c3.an e35 aj;have m5:=m3.an e35 aj;have e05:=e3.trans e35;have hz3:=e35.size;have hb3:=b3.lt;have hg:=m.lt;refine aU (cs:=[(false,[.int .i64])]) (fun x w h'=>∃ (i:Nat) (p:ZC) (l c:Nat),x.1=(i:Int)/\i<=ks.length/\w=ks.length-i/\Ch [h.size] h5 h'/\bH h' h.size 69 [.slice p l c,.int .u32 n] /\
  SL h' h5.size 117 2 p l c (((ks.take i).filterMap fun k=>if dO D ⟨k.toArray⟩=0 then none else some ((⟨k.toArray⟩:ZA),dO D ⟨k.toArray⟩)).map dc)/\l<=i) ((0:Int),()) ks.length rfl
  ⟨0,none,0,0,rfl,ad,ad,Ch.refl _ _,b5,SL.nil _ _ _ _,ad⟩ ?_
 rintro ⟨n8,⟨⟩⟩ w h6 ⟨i,p,l,c,hi,hile,rfl,k6,b6,s6,hli⟩;simp only at hi;subst hi;refine ao ?_;have m6:=m5.an k6 (by simp; omega);have hz6:=k6.size;have e06:Ext h h6:=Ch.trans e05 k6 (fun j hj hl=>by simp at hj; omega);refine ak (fun g1=>?_) (fun g1=>?_)
 ·have g1:=W2 g1;have hilt:i<ks.length:=ad
  have sk6:=sk.bM k6 (fun j hj=>by have:=(sk.cj hj).1; simp; omega);obtain ⟨a,rfl,hc⟩:=sk6.cells (i:=i) (by simpa using hilt);rw [Xc] at hc;have htk:ks.take (i+1)=ks.take i++[ks[i]]:=W7 hilt;generalize ks[i]=k at hc htk;refine ay ⟨ad,ad⟩ (ax rfl ?_);rw [show Int.toNat (i:Int)=i from ad];refine aC ((⟨k.toArray⟩:ZA),()) hc (ao ?_);have hw:IntKind.wrap .i64 ((i:Int)+1)=((i+1:Nat):Int):=by rw [wrap_i64 ad ad]; omega
  refine oS m6 _ (ak (fun g2=>?_) (fun g2=>?_))
  ·have g2:((dO D ⟨k.toArray⟩:Nat):Int)≠0:=by simpa using g2
   refine af b6 ((p,l,c),()) rfl (ao ?_);refine oS m6 _ ?_;refine mi (vs:=dc (⟨k.toArray⟩,dO D ⟨k.toArray⟩)) yK sD rfl ad ad az rfl rfl s6 hz6 ad ad ?_;intro p' c' h7 s7 k7 hp7;have b7:=b6.an k7 (fun hh=>by have:=(s6.cj hh).1; omega);refine aw b7 rfl aj ?_;intro h8 b8 k8 z8;refine aI (cs:=[(false,[.int .i64])]) (((i+1:Nat):Int),()) (ks.length-(i+1)) (hL _) ad (Xj (fun z=>[Value.int .i64 z]) hw) ⟨i+1,p',l+1,c',rfl,ad,rfl,?_,b8,?_,ad⟩
   ·exact Ch.trans (Ch.trans k6 k7 (fun j hj hl=>by have:=(s6.cj hj).1; omega)) k8 (fun j hj _=>hj)
   ·rw [htk,YB,Xf];have hf:([k].filterMap fun k=>if dO D ⟨k.toArray⟩=0 then none else some ((⟨k.toArray⟩:ZA),dO D ⟨k.toArray⟩))=[((⟨k.toArray⟩:ZA),dO D ⟨k.toArray⟩)]:=by
     simp only [List.filterMap_cons,List.filterMap_nil];rw [W6 ad]
    rw [hf];exact s7.bM k8 (fun j hj=>by have:=(s7.cj hj).1; simp; omega)
  ·have g2:((dO D ⟨k.toArray⟩:Nat):Int)=0:=by simpa using g2
   refine aI (cs:=[(false,[.int .i64])]) (((i+1:Nat):Int),()) (ks.length-(i+1)) (hL _) ad (Xj (fun z=>[Value.int .i64 z]) hw) ⟨i+1,p,l,c,rfl,ad,rfl,k6,b6,?_,ad⟩;rw [htk,YB];have hf:([k].filterMap fun k=>if dO D ⟨k.toArray⟩=0 then none else some ((⟨k.toArray⟩:ZA),dO D ⟨k.toArray⟩))=[]:=by
    simp only [List.filterMap_cons,List.filterMap_nil];rw [Xb ad]
   rw [hf,X4];exact s6
 ·have g1:=W4 g1;have hi:i=ks.length:=ad
  subst hi;rw [XB] at s6;have c6:=c5.an k6 (by simp; omega);refine af b6 ((p,l,c),n,()) rfl (ao ?_);refine aw c6 rfl aj ?_;intro h7 b7 k7 z7;have b7:bH h7 g2 69 [.slice p l c,.int .u32 n]:=b7;refine af b7 ((p,l,c),n,()) rfl ?_;have hz5:=e05.size;exact hk _ _ _ _ ((s6.bM k7 (fun j hj=>by have:=(s6.cj hj).1; simp; omega)).mono ad) (Ch.trans (e06.mono aj) k7 (fun j hj hl=>hj))
def DU {h:Hp} {p:ZC} {l c:Nat} {x:cm} (v:gK h p l x.ai) {g n:Nat} {f:ZA->Option qT} (m:Gf h g f n) (hl:x.ai.length<=2^40) (hs:∀ t,t∈x.ai->t.1.size<=maxLen) (hy:∀ s y,f s=some y->y.x.ai.length<=2^40/\∀ t,t∈y.x.ai->t.1.size<=maxLen)
  (hN:(x.ai.flatMap (qO fun s=>(f s).map (·.x))).length<=2^40) :
  HC Tryz.prog 66 #[iA p l c x,.map (some g)] h fun w h'=>(∃ p' l' c',w=iA p' l' c' (db (fun s=>(f s).map (·.x)) x)/\SL h' h.size 117 2 p' l' c' ((db (fun s=>(f s).map (·.x)) x).ai.map dc))/\Ext h h':=by
 refine bd (args:=[iA p l c x,.map (some g)]) mixed Tryz.func66 az (C2 p l c x.num (some g)) ?_;unfold BU bf bh bG aQ bK bm bR aH bi bT aR cg;have hll:=v.len;refine bk ?_;intro h1 b1 e1 z1;refine bk ?_;intro h2 b2 e2 z2;refine jx _ ?_;intro h3 m3 e3 z3;refine ⟨(some h2.size,()),rfl,ao ?_⟩;have b13:=(b1.an e2 aj).an e3 aj;have b23:=b2.an e3 aj;have e03:=(e1.trans e2).trans e3;rw [aG];refine af b13 ((x.num:Int),()) rfl (ao ?_);refine af b13 ((p,l,c),()) rfl (ao ?_);have hh:h1.size=h.size+1:=z1;generalize hof:(fun s=>(f s).map (·.x))=of at hN;have hofs:∀ s,of s=(f s).map (·.x):=fun s=>by rw [<- hof]
 refine aU (cs:=[(false,[.int .u32]),(false,[.int .i64])]) (fun y w h'=>∃ i:Nat,y.2.1=(i:Int)/\i<=x.ai.length/\w=x.ai.length-i/\y.1=(((x.ai.take i).foldl (fZ of) x.num:Nat):Int)/\Ch [h2.size] h3 h'/\dT h' h2.size (vm (((x.ai.take i).flatMap (qO of)).foldl iR [])))
  ((x.num:Int),(0:Int),()) x.ai.length rfl ⟨0,rfl,ad,ad,rfl,Ch.refl _ _,m3⟩ ?_
 rintro ⟨n9,n10,⟨⟩⟩ w h4 ⟨i,hi,hile,rfl,hn9,k4,m4⟩;simp only at hi hn9;subst hi hn9;refine ao ?_;have e04:Ext h h4:=Ch.trans e03 k4 (fun j hj hl=>by simp at hj; omega);have hz4:=k4.size;refine ak (fun g1=>?_) (fun g1=>?_)
 ·have g1:=W2 g1;have hilt:i<x.ai.length:=ad
  obtain ⟨a,rfl,hc⟩:=(v.an e04 aj).cells i hilt;have htk:x.ai.take (i+1)=x.ai.take i++[x.ai[i]]:=W7 hilt;have hsz:=hs x.ai[i] (Xe hilt);generalize x.ai[i]=t at hc htk hsz;have hw:IntKind.wrap .i64 ((i:Int)+1)=((i+1:Nat):Int):=by rw [wrap_i64 ad ad]; omega
  refine ay ⟨ad,ad⟩ (ax rfl ?_);rw [show Int.toNat (i:Int)=i from ad];refine aC (t.1,(t.2:Int),()) hc (ao ?_);refine bk ?_;intro h5 b5 e5 z5;refine aw b5 rfl aj ?_;intro h6 b6 k6 z6;have b6:bH h6 h4.size 117 [.string t.1,.int .u32 (t.2:Int)]:=b6;have e46:Ext h4 h6:=Ch.trans e5 k6 (fun j hj hl=>by simp at hj; omega);have m6:=m4.an e46 aj;have e06:=e04.trans e46;have hz6:=e46.size;refine af b6 (t.1,()) rfl (ao ?_);have hfold:((x.ai.take (i+1)).flatMap (qO of)).foldl iR []=(qO of t).foldl iR (((x.ai.take i).flatMap (qO of)).foldl iR []):=by
   rw [htk,Yz,XX]
   simp
  have hnum:(x.ai.take (i+1)).foldl (fZ of) x.num=fZ of ((x.ai.take i).foldl (fZ of) x.num) t:=by
   rw [htk,XX]; rfl
  generalize (x.ai.take i).foldl (fZ of) x.num=nn at hnum ⊢;generalize ((x.ai.take i).flatMap (qO of)).foldl iR []=D' at hfold m6 ⊢;refine Ab (m.map.an e06 aj) t.1 (fun y hy1=>?_) (fun hy0=>?_)
  ·have hoy:of t.1=some y.x:=by rw [hofs,hy1]; rfl
   refine bk ?_;intro h7 b7 e7 z7;refine aw b7 rfl aj ?_;intro h8 b8 k8 z8;have b8:bH h8 h6.size 69 [.slice y.p y.l y.c,.int .u32 (y.x.num:Int)]:=b8;have e68:Ext h6 h8:=Ch.trans e7 k8 (fun j hj hl=>by simp at hj; omega);refine bJ rfl ?_;refine af b8 ((y.p,y.l,y.c),()) rfl (ao ?_);have hh2:h2.size=h.size+2:=ad
   refine Px (q:=t.2) (nm:=t.1) (us:=y.x.ai) rfl ((m.fm _ _ hy1).an (e06.trans e68) aj) (hy _ _ hy1).1 (hy _ _ hy1).2 (m6.an e68 aj) (fun hne hb=>by have:=(m.fm _ _ hy1).Tw hne _ hb; omega) (b6.an e68 aj) ad ?_;intro J h9 m9 k9;have b69:=(b6.an e68 aj).an k9 (by simp; omega);have b89:=b8.an k9 (by simp; omega);rw [aG];refine af b69 ((t.2:Int),()) rfl (ao ?_);rw [aG];refine af b89 ((y.x.num:Int),()) rfl (ao ?_);have hnn:IntKind.wrap .u32 ((nn:Int)+IntKind.wrap .u32 ((t.2:Int)*(y.x.num:Int)))=((fZ of nn t:Nat):Int):=by
    unfold fZ;rw [hoy];simp only;rw [dS,dS,iy,Y2,iy,Int.natCast_mul]
   refine aI (cs:=[(false,[.int .u32]),(false,[.int .i64])]) (((fZ of nn t:Nat):Int),((i+1:Nat):Int),()) (x.ai.length-(i+1)) rfl ad (by rw [hnn,hw]; rfl) ⟨i+1,rfl,ad,rfl,by rw [hnum],Ch.trans (Ch.trans (Ch.trans k4 e46 aj) e68 aj) k9 (fun j hj _=>hj),?_⟩;rw [hfold];unfold qO;rw [hoy];exact m9
  ·have hoy:of t.1=none:=by rw [hofs,hy0]; rfl
   refine bk ?_;intro h7 b7 e7 z7;refine aw b7 rfl aj ?_;intro h8 b8 k8 z8;have e68:Ext h6 h8:=Ch.trans e7 k8 (fun j hj hl=>by simp at hj; omega);have b68:=b6.an e68 aj;refine bn rfl ?_;refine af b68 (t.1,()) rfl (ao ?_);refine oS (m6.an e68 aj) _ ?_;rw [aG];refine af b68 ((t.2:Int),()) rfl (ao ?_);refine Gu (n:=(dO D' t.1+t.2) % 4294967296) (m6.an e68 aj) hsz ?_ ?_
   ·rw [dS,iy,Y2]
   ·intro h9 m9 k9 z9;have hnn:fZ of nn t=nn:=by unfold fZ; rw [hoy]
    refine aI (cs:=[(false,[.int .u32]),(false,[.int .i64])]) ((nn:Int),((i+1:Nat):Int),()) (x.ai.length-(i+1)) rfl ad (by rw [hw]; rfl) ⟨i+1,rfl,ad,rfl,by rw [hnum,hnn],Ch.trans (Ch.trans (Ch.trans k4 e46 aj) e68 aj) k9 (fun j hj _=>hj),?_⟩;rw [hfold];unfold qO;rw [hoy];exact m9
 ·have g1:=W4 g1;have hi:i=x.ai.length:=ad
  subst hi;rw [XB] at m4 ⊢;have hD:((x.ai.flatMap (qO of)).foldl iR []).length<=2^40:=by
   have:=uq (x.ai.flatMap (qO of)) []
   simp only [List.length_nil,Nat.zero_add] at this;omega
  refine LN (lv:=1) rfl m4 hD _ (b23.an k4 (by simp; omega)) ?_;intro p' l' c' h9 s9 k9;exact ⟨⟨p',l',c',rfl,s9.mono ad⟩,Ch.trans e04 k9 (fun j hj hl=>by simp at hj; omega)⟩
structure TS where
 num:ZA->Option Nat
 jt:Nat
 low:ZA->Option Nat
 on:ZA->Option Bool
 back:ZA->Option Bool
 cV:List ZA
def eD (v:ZA) (st:TS):TS:={ st with num:=dC st.num v (st.jt+1),jt:=st.jt+1,low:=dC st.low v (st.jt+1),cV:=st.cV++[v],on:=dC st.on v true }
def fq (v w:ZA) (st:TS):TS:=if w=v then { st with back:=dC st.back v true } else st
def Ji (v:ZA) (n:Nat) (st:TS):TS:={ st with low:=dC st.low v (min ((st.low v).getD 0) n) }
def sF (mf:ZA->TS->TS) (v w:ZA) (st:TS):TS :=
 if (st.num w).getD 0=0 then Ji v (((mf w st).low w).getD 0) (mf w st)
 else if (st.on w).getD false=true then Ji v ((st.num w).getD 0) st
 else st
def eC (own:ZA->Bool) (mf:ZA->TS->TS) (v:ZA) (st:TS) (w:ZA):TS :=
 if own w=true then sF mf v w (fq v w st) else st
def oQ (pB:Bool) (st:TS) (x:ZA):TS:={ st with on:=dC st.on x false,back:=dC st.back x ((st.back x).getD false || pB) }
def qM (v:ZA) (st:TS):Nat:=st.cV.findIdx (fun x=>decide (v=x))
def qA (v:ZA) (st:TS):TS:={ (st.cV.drop (qM v st)).foldl (oQ (decide (1<st.cV.length-qM v st))) st with cV:=st.cV.take (qM v st) }
def cL (own:ZA->Bool) (succ:ZA->List ZA):Nat->ZA->TS->TS
 | 0,_,st=>st
 | f+1,v,st =>
  if (((succ v).foldl (eC own (cL own succ f) v) (eD v st)).low v).getD 0<(((succ v).foldl (eC own (cL own succ f) v) (eD v st)).num v).getD 0 then (succ v).foldl (eC own (cL own succ f) v) (eD v st)
  else qA v ((succ v).foldl (eC own (cL own succ f) v) (eD v st))
def Bv:TS:=⟨fun _=>none,0,fun _=>none,fun _=>none,fun _=>none,[]⟩
def vN (own:ZA->Bool) (succ:ZA->List ZA) (f:Nat) (st:TS) (v:ZA):TS:=if (st.num v).getD 0=0 then cL own succ f v st else st
def FF (own:ZA->Bool) (succ:ZA->List ZA) (names:List ZA):TS:=names.foldl (vN own succ names.length) Bv
def qh (names:List ZA) (st:TS):Nat:=(names.filter fun v=>(st.num v).isNone).length
structure dA (names:List ZA) (st:TS):Prop where
 sum:st.jt+qh names st=names.length
 pos:∀ s n,st.num s=some n->1<=n
 cV:st.cV.length<=st.jt
 fm:∀ x,x∈st.cV->st.num x≠Option.none
def dA.none {names:List ZA} {st:TS} (g:dA names st) {w:ZA} (h:(st.num w).getD 0=0):st.num w=Option.none:=by
 cases hh:st.num w with
 | none=>rfl
 | some n =>
  rw [hh] at h
  have:=g.pos w n hh
  simp at h;omega
def OM {names:List ZA} (hn:names.Nodup) {v:ZA} (hv:v∈names) {f:ZA->Option Nat} (h0:f v=Option.none) (n:Nat):(names.filter fun s=>(dC f v n s).isNone).length+1=(names.filter fun s=>(f s).isNone).length:=by
 induction names with
 | nil=>simp at hv
 | cons x l ih =>
  obtain ⟨hx,hn⟩:=YA.1 hn
  by_cases e:x=v
  ·subst e;have hl:l.filter (fun s=>(dC f x n s).isNone)=l.filter (fun s=>(f s).isNone):=by
    refine List.filter_congr fun s hs=>?_
    rw [bX _ _ (fun k=>hx (by rw [<- k]; exact hs))]
   rw [List.filter_cons,List.filter_cons,cy,h0,hl]
   simp
  ·have hv':v∈l:=by
    rcases Xq.1 hv with h | h
    ·exact (e h.symm).elim
    ·exact h
   have:=ih hn hv'
   rw [List.filter_cons,List.filter_cons,bX _ _ e];split
   ·simp only [List.length_cons]; omega
   ·exact this
def Am (pB:Bool) (l:List ZA):∀ st:TS,(l.foldl (oQ pB) st).num=st.num/\(l.foldl (oQ pB) st).jt=st.jt/\(l.foldl (oQ pB) st).low=st.low:=by
 induction l with
 | nil=>intro st; exact ⟨rfl,rfl,rfl⟩
 | cons x l ih =>
  intro st;rw [XE];exact ih _
def nw (v:ZA) (st:TS):(qA v st).num=st.num:=(Am _ _ _).1
def yS (v:ZA) (st:TS):(qA v st).jt=st.jt:=(Am _ _ _).2.1
def NZ (v:ZA) (st:TS):(qA v st).low=st.low:=(Am _ _ _).2.2
def uZ (v:ZA) (st:TS):(qA v st).cV=st.cV.take (qM v st):=rfl
def hQ (v w:ZA) (st:TS):(fq v w st).num=st.num/\(fq v w st).jt=st.jt/\(fq v w st).cV=st.cV/\(fq v w st).on=st.on/\(fq v w st).low=st.low:=by
 unfold fq;split <;> exact ⟨rfl,rfl,rfl,rfl,rfl⟩
def dA.self {names:List ZA} {st:TS} (g:dA names st) (v w:ZA):dA names (fq v w st):=by
 obtain ⟨h1,h2,h3,_⟩:=hQ v w st;exact ⟨by unfold qh; rw [h1,h2]; exact g.sum,by rw [h1]; exact g.pos,by rw [h2,h3]; exact g.cV,by rw [h1,h3]; exact g.fm⟩
def dA.low {names:List ZA} {st:TS} (g:dA names st) (v:ZA) (n:Nat):dA names (Ji v n st):=⟨g.sum,g.pos,g.cV,g.fm⟩
def dA.open {names:List ZA} (hn:names.Nodup) {st:TS} (g:dA names st) {v:ZA} (hv:v∈names) (h0:st.num v=Option.none):dA names (eD v st)/\qh names (eD v st)+1=qh names st:=by
 have h1:qh names (eD v st)+1=qh names st:=OM hn hv h0 _;refine ⟨⟨?_,fun s n hs=>?_,?_,fun x hx=>?_⟩,h1⟩
 ·have:=g.sum
  show st.jt+1+qh names (eD v st)=_;omega
 ·have hs:dC st.num v (st.jt+1) s=some n:=hs
  by_cases e:s=v
  ·subst e;rw [cy] at hs
   have:=Xo hs
   omega
  ·rw [bX _ _ e] at hs;exact g.pos s n hs
 ·have:=g.cV
  show (st.cV++[v]).length<=st.jt+1
  simp; omega
 ·have hx:x∈st.cV++[v]:=hx;show dC st.num v _ x≠Option.none
  by_cases e:x=v
  ·subst e; rw [cy]; simp
  ·rw [bX _ _ e];rcases Xl.1 hx with h | h
   ·exact g.fm x h
   ·exact (e (Xm.1 h)).elim
def dA.pop {names:List ZA} {st:TS} (g:dA names st) (v:ZA):dA names (qA v st) :=
 ⟨by unfold qh; rw [nw,yS]; exact g.sum,by rw [nw]; exact g.pos,by rw [uZ,yS,Xr]; have:=g.cV; omega,fun x hx=>by rw [nw]; rw [uZ] at hx; exact g.fm x (X9 hx)⟩
def AA (names:List ZA) (st st':TS):Prop:=dA names st'/\(∀ s n,st.num s=some n->st'.num s=some n)/\st.cV <+: st'.cV
def AA.qh {names:List ZA} {st st':TS} (h:AA names st st'):qh names st'<=qh names st:=by
 unfold Sx.qh;rw [<- List.countP_eq_length_filter,<- List.countP_eq_length_filter];refine List.countP_mono_left fun x hx h'=>?_
 cases hh:st.num x with
 | none=>rfl
 | some n=>rw [h.2.1 x n hh] at h'; simp at h'
def AA.trans {names:List ZA} {a b c:TS} (h:AA names a b) (k:AA names b c):AA names a c:=⟨k.1,fun s n hs=>k.2.1 s n (h.2.1 s n hs),h.2.2.trans k.2.2⟩
def AA.refl {names:List ZA} {a:TS} (h:dA names a):AA names a a:=⟨h,fun s n hs=>hs,List.prefix_refl _⟩
def MK {names:List ZA} {mf:ZA->TS->TS} {f:Nat} (hvis:∀ w st,dA names st->w∈names->st.num w=Option.none->Sx.qh names st<=f->AA names st (mf w st)) {v w:ZA} {st:TS} (g:dA names st) (hw:w∈names) (hu:Sx.qh names st<=f):AA names st (sF mf v w st):=by
 unfold sF;split
 ·rename_i h0;have h:=hvis w st g hw (g.none h0) hu;exact ⟨h.1.low v _,h.2.1,h.2.2⟩
 ·split
  ·exact ⟨g.low v _,fun s n hs=>hs,List.prefix_refl _⟩
  ·exact AA.refl g
def Eh {names:List ZA} {own:ZA->Bool} (hown:∀ s,own s=true->s∈names) {mf:ZA->TS->TS} {f:Nat} (hvis:∀ w st,dA names st->w∈names->st.num w=Option.none->Sx.qh names st<=f->AA names st (mf w st)) {v w:ZA} {st:TS} (g:dA names st) (hu:Sx.qh names st<=f):AA names st (eC own mf v st w):=by
 unfold eC;split
 ·rename_i ho;have h1:AA names st (fq v w st):=⟨g.self v w,fun s n hs=>by rw [(hQ v w st).1]; exact hs,by rw [(hQ v w st).2.2.1]; exact List.prefix_refl _⟩
  exact h1.trans (MK hvis (g.self v w) (hown w ho) (XV h1.qh hu))
 ·exact AA.refl g
theorem zQ {names:List ZA} {own:ZA->Bool} (hown:∀ s,own s=true->s∈names) {mf:ZA->TS->TS} {f:Nat} (hvis:∀ w st,dA names st->w∈names->st.num w=Option.none->Sx.qh names st<=f->AA names st (mf w st)) (v:ZA):∀ (l:List ZA) (st:TS),dA names st->Sx.qh names st<=f->AA names st (l.foldl (eC own mf v) st)
 | [],st,g,hu=>AA.refl g
 | w::l,st,g,hu=>by
  have h1:=Eh hown hvis (v:=v) (w:=w) g hu;rw [XE];exact h1.trans (zQ hown hvis v l _ h1.1 (XV h1.qh hu))
def Hh {a b:List ZA} {v:ZA} (h:a++[v] <+: b) (hv:v∉a) {st:TS} (hs:st.cV=b):qM v st=a.length/\b.take a.length=a/\a.length<b.length:=by
 obtain ⟨t,rfl⟩:=h;unfold qM;rw [hs];refine ⟨?_,aj,aj⟩;rw [Xs,List.findIdx_append,W6 ?_]
 ·simp [List.findIdx_cons]
 ·rw [List.findIdx_lt_length];rintro ⟨x,hx,e⟩;exact hv (by rw [W2 e]; exact hx)
def dA.Vl {names:List ZA} {st:TS} (g:dA names st) {v:ZA} (h0:st.num v=Option.none):v∉st.cV:=fun hv=>g.fm v hv h0
def Mr {names:List ZA} (hn:names.Nodup) {v:ZA} {st:TS} (g:dA names st) (hv:v∈names) (h0:st.num v=Option.none):AA names st (eD v st) :=
 ⟨(g.open hn hv h0).1,fun s n hs=>by
   show dC st.num v _ s=some n;rw [bX _ _ (fun e=>by rw [e,h0] at hs; cases hs)];exact hs,⟨[v],rfl⟩⟩
theorem rV {names:List ZA} (hn:names.Nodup) {own:ZA->Bool} (hown:∀ s,own s=true->s∈names) (succ:ZA->List ZA):∀ (f:Nat) (v:ZA) (st:TS),dA names st->v∈names->st.num v=Option.none->Sx.qh names st<=f->AA names st (cL own succ f v st)
 | 0,v,st,g,hv,h0,hu=>AA.refl g
 | f+1,v,st,g,hv,h0,hu=>by
  obtain ⟨g1,hu1⟩:=g.open hn hv h0;have h2:=zQ hown (rV hn hown succ f) v (succ v) _ g1 ad;have h3:=(Mr hn g hv h0).trans h2;unfold cL;split
  ·exact h3
  ·refine ⟨h3.1.pop v,fun s n hs=>by rw [nw]; exact h3.2.1 s n hs,?_⟩;obtain ⟨e1,e2,_⟩:=Hh (a:=st.cV) (v:=v) h2.2.2 (g.Vl h0) rfl;rw [uZ,e1,e2];exact List.prefix_refl _
def J2 {names:List ZA} (hn:names.Nodup) {own:ZA->Bool} (hown:∀ s,own s=true->s∈names) (succ:ZA->List ZA) {f:Nat} {v:ZA} {st:TS} (g:dA names st) (hv:v∈names) (h0:st.num v=Option.none) (hu:Sx.qh names st<=f+1) (l:List ZA) :
  dA names (l.foldl (eC own (cL own succ f) v) (eD v st))/\Sx.qh names (l.foldl (eC own (cL own succ f) v) (eD v st))<=f/\st.cV++[v] <+: (l.foldl (eC own (cL own succ f) v) (eD v st)).cV/\∃ n,(l.foldl (eC own (cL own succ f) v) (eD v st)).num v=some n:=by
 obtain ⟨g1,hu1⟩:=g.open hn hv h0;have h2:=zQ hown (rV hn hown succ f) v l _ g1 ad;exact ⟨h2.1,by have:=h2.qh; omega,h2.2.2,_,h2.2.1 v (st.jt+1) (cy _ _ _)⟩
def UJ (names:List ZA):dA names Bv:=⟨by unfold qh Bv; simp,fun s n hs=>(by cases hs),by simp [Bv],by simp [Bv]⟩
section
variable {E:ZA->ZA->Prop}
inductive oZ (E:ZA->ZA->Prop):ZA->ZA->Prop
 | refl (a:ZA):oZ E a a
 | head {a b c:ZA}:E a b->oZ E b c->oZ E a c
def oZ.trans {a b c:ZA} (h:oZ E a b) (k:oZ E b c):oZ E a c:=by
 induction h with
 | refl=>exact k
 | head e _ ih=>exact .head e (ih k)
def oZ.one {a b:ZA} (h:E a b):oZ E a b:=.head h (.refl b)
def j6 (E:ZA->ZA->Prop) (v:ZA):Prop:=∃ y,E v y/\oZ E y v
def j6.of {a b:ZA} (h:oZ E a b) (k:oZ E b a) (hne:a≠b):j6 E a:=by
 cases h with
 | refl=>exact (hne rfl).elim
 | head e r=>exact ⟨_,e,r.trans k⟩
structure Inv (E:ZA->ZA->Prop) (G:List ZA) (st:TS):Prop where
 le:∀ s n,st.num s=some n->1<=n/\n<=st.jt
 cV:∀ x,x∈st.cV->st.num x≠none
 on:∀ x,(st.on x).getD false=true↔x∈st.cV
 gr:∀ g,g∈G->g∈st.cV
 cl:∀ x,st.num x≠none->x∉st.cV->∀ y,E x y->st.num y≠none/\y∉st.cV
 bl:∀ x,st.num x≠none->x∉G->∀ y,E x y->st.num y≠none
 rg:∀ x,x∈st.cV->∃ g,g∈G/\oZ E x g
 b0:∀ x,st.num x=none->(st.back x).getD false=false
 bc:∀ x,st.num x≠none->x∉st.cV->((st.back x).getD false=true↔j6 E x)
 bw:∀ x,x∈st.cV->(st.back x).getD false=true->E x x
 bb:∀ x,x∈st.cV->x∉G->E x x->(st.back x).getD false=true
def Inv.low {G:List ZA} {st:TS} (i:Inv E G st) (v:ZA) (n:Nat):Inv E G (Ji v n st):=⟨i.le,i.cV,i.on,i.gr,i.cl,i.bl,i.rg,i.b0,i.bc,i.bw,i.bb⟩
def Inv.SE {G:List ZA} {st:TS} (i:Inv E G st) {x y:ZA} (h:oZ E x y):st.num x≠none->x∉st.cV->st.num y≠none/\y∉st.cV:=by
 induction h with
 | refl=>exact fun h k=>⟨h,k⟩
 | head e _ ih=>intro h k; obtain ⟨h2,k2⟩:=i.cl _ h k _ e; exact ih h2 k2
def Inv.self {G:List ZA} {st:TS} (i:Inv E G st) {v w:ZA} (hv:v∈G) (he:w=v->E v v):Inv E G (fq v w st):=by
 unfold fq;split
 ·rename_i h;have hw:=i.gr v hv;have hn:=i.cV v hw;refine ⟨i.le,i.cV,i.on,i.gr,i.cl,i.bl,i.rg,fun x hx=>?_,fun x hx hxw=>?_,fun x hx hb=>?_,fun x hx hg hE=>?_⟩
  ·have hne:x≠v:=fun e=>hn (by rw [<- e]; exact hx)
   show (dC st.back v true x).getD false=false;rw [bX _ _ hne]; exact i.b0 x hx
  ·have hne:x≠v:=fun e=>hxw (by rw [e]; exact hw)
   show (dC st.back v true x).getD false=true↔_;rw [bX _ _ hne]; exact i.bc x hx hxw
  ·by_cases e:x=v
   ·subst e; exact he h
   ·have hb:(dC st.back v true x).getD false=true:=hb;rw [bX _ _ e] at hb; exact i.bw x hx hb
  ·have hne:x≠v:=fun e=>hg (by rw [e]; exact hv)
   show (dC st.back v true x).getD false=true;rw [bX _ _ hne]; exact i.bb x hx hg hE
 ·exact i
def Inv.open {G:List ZA} {st:TS} (i:Inv E G st) {v:ZA} (h0:st.num v=none):Inv E (v::G) (eD v st):=by
 have hw:v∉st.cV:=fun h=>i.cV v h h0
 have num_other:∀ {x},x≠v->(eD v st).num x=st.num x:=fun h=>bX _ _ h
 have mono:∀ {x},st.num x≠none->(eD v st).num x≠none:=by
  intro x h;rw [num_other (fun e=>h (by rw [e]; exact h0))]; exact h
 refine ⟨fun s n hs=>?_,fun x hx=>?_,fun x=>?_,fun g hg=>?_,fun x hx hxw y hy=>?_,fun x hx hxg y hy=>?_,fun x hx=>?_,fun x hx=>?_,fun x hx hxw=>?_,fun x hx hb=>?_,fun x hx hg hE=>?_⟩
 ·show 1<=n/\n<=st.jt+1
  by_cases e:s=v
  ·subst e;have hs:dC st.num s (st.jt+1) s=some n:=hs;rw [cy] at hs
   have:=Xo hs
   omega
  ·rw [num_other e] at hs
   have:=i.le s n hs
   omega
 ·rcases Xl.1 (show x∈st.cV++[v] from hx) with h | h
  ·exact mono (i.cV x h)
  ·rw [Xm.1 h];show dC st.num v _ v≠none;rw [cy]; simp
 ·show (dC st.on v true x).getD false=true↔x∈st.cV++[v]
  by_cases e:x=v
  ·subst e; rw [cy]; simp
  ·rw [bX _ _ e,i.on x]; simp [e]
 ·show g∈st.cV++[v];rcases Xq.1 hg with h | h
  ·simp [h]
  ·exact Xy _ (i.gr g h)
 ·have hxw:x∉st.cV++[v]:=hxw;have hne:x≠v:=fun e=>hxw (by simp [e])
  rw [num_other hne] at hx;obtain ⟨h1,h2⟩:=i.cl x hx (fun h=>hxw (Xy _ h)) y hy;refine ⟨mono h1,?_⟩;show y∉st.cV++[v];intro h;rcases Xl.1 h with h | h
  ·exact h2 h
  ·exact h1 (by rw [Xm.1 h]; exact h0)
 ·have hne:x≠v:=fun e=>hxg (by simp [e])
  rw [num_other hne] at hx;exact mono (i.bl x hx (fun h=>hxg (Xh _ h)) y hy)
 ·rcases Xl.1 (show x∈st.cV++[v] from hx) with h | h
  ·obtain ⟨g,hg,r⟩:=i.rg x h;exact ⟨g,Xh _ hg,r⟩
  ·rw [Xm.1 h];exact ⟨v,aj,.refl v⟩
 ·have hne:x≠v:=by
   intro e;subst e;have hx:dC st.num x _ x=none:=hx;rw [cy] at hx; cases hx
  rw [num_other hne] at hx;exact i.b0 x hx
 ·have hxw:x∉st.cV++[v]:=hxw;have hne:x≠v:=fun e=>hxw (by simp [e])
  rw [num_other hne] at hx;exact i.bc x hx (fun h=>hxw (Xy _ h))
 ·rcases Xl.1 (show x∈st.cV++[v] from hx) with h | h
  ·exact i.bw x h hb
  ·rw [Xm.1 h] at hb;have hb:(st.back v).getD false=true:=hb;rw [i.b0 v h0] at hb; cases hb
 ·have hne:x≠v:=fun e=>hg (by simp [e])
  rcases Xl.1 (show x∈st.cV++[v] from hx) with h | h
  ·exact i.bb x h (fun k=>hg (Xh _ k)) hE
  ·exact (hne (Xm.1 h)).elim
def tT (st:TS) (v:ZA):Nat:=(st.low v).getD 0
def rO (st:TS) (v:ZA):Nat:=(st.num v).getD 0
def Ri (s0 st:TS):Prop:=∀ s,s0.num s≠none->st.num s=s0.num s/\st.low s=s0.low s/\st.back s=s0.back s
def U7 (s0 st:TS):Prop:=∀ s n,s0.num s=none->st.num s=some n->s0.jt<n
def Sq (E:ZA->ZA->Prop) (v:ZA) (s0 st:TS) (x:ZA):Prop:=s0.num x=none/\oZ E v x/\∀ y,E x y->y∈s0.cV->tT st v<=rO st y
structure nH (E:ZA->ZA->Prop) (G:List ZA) (v:ZA) (s0 st:TS):Prop where
 inv:Inv E G st
 old:Ri s0 st
 jt:s0.jt<=st.jt
 new:U7 s0 st
 num:∃ n,st.num v=some n
 cV:∃ X,st.cV=s0.cV++X/\∀ x,x∈X->Sq E v s0 st x
 low:tT st v<rO st v->∃ y,y∈s0.cV/\oZ E v y/\st.num y=some (tT st v)
structure FH (E:ZA->ZA->Prop) (own:ZA->Bool) (G:List ZA) (v:ZA) (P:List ZA) (s0 st:TS):Prop where
 inv:Inv E (v::G) st
 old:Ri s0 st
 jt:s0.jt<=st.jt
 new:U7 s0 st
 num:st.num v=some (s0.jt+1)
 cV:∃ X,st.cV=s0.cV++v::X/\∀ x,x∈X->x≠v/\Sq E v s0 st x
 low:tT st v<s0.jt+1->∃ y,y∈s0.cV/\oZ E v y/\st.num y=some (tT st v)
 mf:∀ w,w∈P->own w=true->st.num w≠none/\(w∈s0.cV->tT st v<=rO st w)/\(w=v->(st.back v).getD false=true)
def FH.start {own:ZA->Bool} {G:List ZA} {v:ZA} {s0:TS} (i:Inv E G s0) (h0:s0.num v=none):FH E own G v [] s0 (eD v s0):=by
 refine ⟨i.open h0,fun s hs=>?_,Nat.le_succ _,fun s n hs hn=>?_,cy _ _ _,⟨[],rfl,fun x hx=>by simp at hx⟩,fun hl=>?_,fun w hw=>by simp at hw⟩
 ·have hne:s≠v:=fun e=>hs (by rw [e]; exact h0)
  exact ⟨bX _ _ hne,bX _ _ hne,rfl⟩
 ·by_cases e:s=v
  ·subst e;have hn:dC s0.num s (s0.jt+1) s=some n:=hn;rw [cy] at hn
   have:=Xo hn
   omega
  ·have hn:dC s0.num v (s0.jt+1) s=some n:=hn;rw [bX _ _ e,hs] at hn; cases hn
 ·have hl:(dC s0.low v (s0.jt+1) v).getD 0<s0.jt+1:=hl;rw [cy] at hl;simp at hl
def FH.self {own:ZA->Bool} {G:List ZA} {v w:ZA} {P:List ZA} {s0 st:TS} (m:FH E own G v P s0 st) (h0:s0.num v=none) (he:w=v->E v v) :
  FH E own G v P s0 (fq v w st)/\(w=v->((fq v w st).back v).getD false=true):=by
 obtain ⟨k1,k2,k3,k4,k5⟩:=hQ v w st;have hb:∀ s,s≠v->(fq v w st).back s=st.back s:=by
  intro s hs;unfold fq;split
  ·exact bX _ _ hs
  ·rfl
 have hbv:w=v->((fq v w st).back v).getD false=true:=by
  intro e;unfold fq;rw [Xb e];show (dC st.back v true v).getD false=true;rw [cy]; rfl
 have hbv2:(st.back v).getD false=true->((fq v w st).back v).getD false=true:=by
  intro h;unfold fq;split
  ·show (dC st.back v true v).getD false=true;rw [cy]; rfl
  ·exact h
 refine ⟨⟨m.inv.self aj he,fun s hs=>?_,by rw [k2]; exact m.jt,fun s n hs hn=>by rw [k1] at hn; exact m.new s n hs hn,by rw [k1]; exact m.num,?_,?_,fun u hu ho=>?_⟩,hbv⟩
 ·have hne:s≠v:=fun e=>hs (by rw [e]; exact h0)
  rw [k1,k5,hb s hne];exact m.old s hs
 ·obtain ⟨X,hX,hx⟩:=m.cV;refine ⟨X,by rw [k3]; exact hX,fun x hxX=>?_⟩
  have:=hx x hxX
  unfold Sq tT rO at *;rw [k1,k5];exact this
 ·unfold tT;rw [k1,k5];exact m.low
 ·obtain ⟨a,b,c⟩:=m.mf u hu ho;unfold tT rO at *;rw [k1,k5];exact ⟨a,b,fun e=>hbv2 (c e)⟩
def oD (v:ZA) (n:Nat) (st:TS):tT (Ji v n st) v=min (tT st v) n:=by
 unfold tT;show (dC st.low v _ v).getD 0=_;rw [cy]; rfl
def FH.rest {own:ZA->Bool} {G:List ZA} {v w:ZA} {P:List ZA} {s0 st:TS} {mf:ZA->TS->TS} (i0:Inv E G s0) (m:FH E own G v P s0 st) (h0:s0.num v=none) (hG:∀ g,g∈G->oZ E g v) (he:E v w)
  (hb:w=v->(st.back v).getD false=true) (hz:(st.num w).getD 0=0->st.num w=none) (hvis:st.num w=none->(∀ g,g∈v::G->oZ E g w)->nH E (v::G) w st (mf w st)) :
  FH E own G v (P++[w]) s0 (sF mf v w st):=by
 obtain ⟨X,hX,hx⟩:=m.cV;have hv:st.num v≠none:=by rw [m.num]; simp
 have old1:∀ s,s0.num s≠none->st.num s≠none:=fun s hs=>by rw [(m.old s hs).1]; exact hs
 have hsub:∀ y,y∈s0.cV->y∈st.cV:=fun y hy=>by rw [hX]; exact Xy _ hy
 unfold sF;split
 ·rename_i hw0;have hw:=hz hw0;have hwv:w≠v:=fun e=>hv (by rw [<- e]; exact hw)
  have p:=hvis hw (fun g hg=>by
   rcases Xq.1 hg with h | h
   ·rw [h]; exact .one he
   ·exact (hG g h).trans (.one he))
  generalize mf w st=s2 at p ⊢;show FH E own G v (P++[w]) s0 (Ji v (tT s2 w) s2);obtain ⟨X2,hX2,hx2⟩:=p.cV;have hlow2:tT s2 v=tT st v:=by unfold tT; rw [(p.old v hv).2.1]
  have hnum2:s2.num v=some (s0.jt+1):=by rw [(p.old v hv).1]; exact m.num
  refine ⟨p.inv.low v _,fun s hs=>?_,XV m.jt p.jt,fun s n hs hn=>?_,hnum2,⟨X++X2,?_,fun x hxX=>?_⟩,fun hl=>?_,fun u hu ho=>?_⟩
  ·have hne:s≠v:=fun e=>hs (by rw [e]; exact h0)
   obtain ⟨a,b,c⟩:=m.old s hs;obtain ⟨a2,b2,c2⟩:=p.old s (old1 s hs);refine ⟨a2.trans a,?_,c2.trans c⟩;show dC s2.low v _ s=_;rw [bX _ _ hne];exact b2.trans b
  ·by_cases h1:st.num s=none
   ·have:=p.new s n h1 hn
    have:=m.jt
    omega
   ·have hn:s2.num s=some n:=hn;rw [(p.old s h1).1] at hn;exact m.new s n hs hn
  ·show s2.cV=_;rw [hX2,hX,Xs,YK]
  ·rcases Xl.1 hxX with h | h
   ·obtain ⟨a,b,c,d⟩:=hx x h;refine ⟨a,b,c,fun y hy hyw=>?_⟩;rw [oD,hlow2]
    have:=d y hy hyw
    have e:rO s2 y=rO st y:=by unfold rO; rw [(p.old y (m.inv.cV y (hsub y hyw))).1]
    show _<=rO s2 y;omega
   ·obtain ⟨b,c,d⟩:=hx2 x h;refine ⟨fun e=>hv (by rw [<- e]; exact b),?_,oZ.head he c,fun y hy hyw=>?_⟩
    ·apply YR;intro k;exact old1 x k b
    ·rw [oD]
     have:=d y hy (hsub y hyw)
     show _<=rO s2 y;omega
  ·rw [oD,hlow2] at hl ⊢;show ∃ y,y∈s0.cV/\oZ E v y/\s2.num y=_
   by_cases hc:tT st v<=tT s2 w
   ·rw [Yc hc] at hl ⊢;obtain ⟨y,hy,hr,hn⟩:=m.low hl;exact ⟨y,hy,hr,by rw [(p.old y (m.inv.cV y (hsub y hy))).1]; exact hn⟩
   ·rw [Nat.min_eq_right ad] at hl ⊢;obtain ⟨n,hn⟩:=p.num;have h2:=p.new w n hw hn;have h3:=m.jt;obtain ⟨y,hy,hr,hyn⟩:=p.low (by unfold rO; rw [hn]; simp; omega);refine ⟨y,?_,oZ.head he hr,hyn⟩;rw [hX] at hy;rcases Xl.1 hy with h | h
    ·exact h
    ·rcases Xq.1 h with h | h
     ·rw [h,hnum2] at hyn
      have:=Xo hyn
      omega
     ·have hyst:st.num y≠none:=m.inv.cV y (by rw [hX]; exact XF _ (Xh _ h));rw [(p.old y hyst).1] at hyn
      have:=m.new y _ (hx y h).2.1 hyn
      omega
  ·rw [oD,hlow2];rcases Xl.1 hu with h | h
   ·obtain ⟨a,b,c⟩:=m.mf u h ho;have hn:s2.num u=st.num u:=(p.old u a).1;refine ⟨by show s2.num u≠none; rw [hn]; exact a,fun k=>?_,fun k=>?_⟩
    ·have:=b k
     have e:rO s2 u=rO st u:=by unfold rO; rw [hn]
     show _<=rO s2 u;omega
    ·show (s2.back v).getD false=true;rw [(p.old v hv).2.2];exact c k
   ·have h:=Xm.1 h;subst h;obtain ⟨n,hn⟩:=p.num;exact ⟨by show s2.num u≠none; rw [hn]; simp,fun k=>(m.inv.cV u (hsub u k) hw).elim,fun k=>(hwv k).elim⟩
 ·rename_i hw0;have hw:st.num w≠none:=fun e=>hw0 (by rw [e]; rfl)
  obtain ⟨n,hn⟩:=Option.ne_none_iff_exists'.1 hw;split
  ·rename_i hon;have hwy:=(m.inv.on w).1 hon;have hnn:(st.num w).getD 0=n:=by rw [hn]; rfl
   rw [hnn];refine ⟨m.inv.low v _,fun s hs=>?_,m.jt,m.new,m.num,⟨X,hX,fun x hxX=>?_⟩,fun hl=>?_,fun u hu ho=>?_⟩
   ·have hne:s≠v:=fun e=>hs (by rw [e]; exact h0)
    obtain ⟨a,b,c⟩:=m.old s hs;refine ⟨a,?_,c⟩;show dC st.low v _ s=_;rw [bX _ _ hne];exact b
   ·obtain ⟨a,b,c,d⟩:=hx x hxX;refine ⟨a,b,c,fun y hy hyw=>?_⟩;rw [oD]
    have:=d y hy hyw
    show _<=rO st y;omega
   ·rw [oD] at hl ⊢;show ∃ y,y∈s0.cV/\oZ E v y/\st.num y=_
    by_cases hc:tT st v<=n
    ·rw [Yc hc] at hl ⊢;exact m.low hl
    ·rw [Nat.min_eq_right ad] at hl ⊢;refine ⟨w,?_,.one he,hn⟩;rw [hX] at hwy;rcases Xl.1 hwy with h | h
     ·exact h
     ·rcases Xq.1 h with h | h
      ·rw [h,m.num] at hn
       have:=Xo hn
       omega
      ·have:=m.new w _ (hx w h).2.1 hn
       omega
   ·rw [oD];rcases Xl.1 hu with h | h
    ·obtain ⟨a,b,c⟩:=m.mf u h ho;refine ⟨a,fun k=>?_,c⟩
     have:=b k
     show _<=rO st u;omega
    ·have h:=Xm.1 h;subst h;refine ⟨hw,fun k=>?_,hb⟩;show _<=(st.num u).getD 0;rw [hnn];omega
  ·rename_i hon;refine ⟨m.inv,m.old,m.jt,m.new,m.num,m.cV,m.low,fun u hu ho=>?_⟩;rcases Xl.1 hu with h | h
   ·exact m.mf u h ho
   ·have h:=Xm.1 h;subst h;exact ⟨hw,fun k=>(hon ((m.inv.on u).2 (hsub u k))).elim,hb⟩
def FH.Tt {own:ZA->Bool} {succ:ZA->List ZA} {G:List ZA} {v:ZA} {s0 st:TS} (hE:∀ a b,E a b↔b∈succ a/\own b=true) (i0:Inv E G s0) (m:FH E own G v (succ v) s0 st) (hl:tT st v<rO st v):nH E G v s0 st:=by
 obtain ⟨X,hX,hx⟩:=m.cV;have hnv:rO st v=s0.jt+1:=by unfold rO; rw [m.num]; rfl
 have i:=m.inv;have hvw:v∈st.cV:=i.gr v aj;have mf:∀ y,E v y->st.num y≠none/\(y∈s0.cV->tT st v<=rO st y)/\(y=v->(st.back v).getD false=true):=fun y hy=>m.mf y ((hE v y).1 hy).1 ((hE v y).1 hy).2
 obtain ⟨y0,hy0,hr0,hn0⟩:=m.low ad;obtain ⟨g0,hg0,hr1⟩:=i0.rg y0 hy0;refine ⟨⟨i.le,i.cV,i.on,fun g hg=>i.gr g (Xh _ hg),i.cl,fun x hx1 hxg y hy=>?_,fun x hxw=>?_,i.b0,i.bc,i.bw,fun x hxw hxg hxx=>?_⟩,m.old,m.jt,m.new,⟨_,m.num⟩,⟨v::X,hX,fun x hxX=>?_⟩,fun _=>⟨y0,hy0,hr0,hn0⟩⟩
 ·by_cases e:x=v
  ·subst e; exact (mf y hy).1
  ·exact i.bl x hx1 (by simp [e,hxg]) y hy
 ·obtain ⟨g,hg,r⟩:=i.rg x hxw;rcases Xq.1 hg with h | h
  ·rw [h] at r;exact ⟨g0,hg0,(r.trans hr0).trans hr1⟩
  ·exact ⟨g,h,r⟩
 ·by_cases e:x=v
  ·subst e; exact (mf x hxx).2.2 rfl
  ·exact i.bb x hxw (by simp [e,hxg]) hxx
 ·rcases Xq.1 hxX with h | h
  ·subst h;refine ⟨?_,.refl x,fun y hy hyw=>(mf y hy).2.1 hyw⟩;cases hh:s0.num x with
   | none=>rfl
   | some n =>
    have h1:=(m.old x (by rw [hh]; simp)).1;rw [hh,m.num] at h1
    have:=Xo h1
    have:=(i0.le x n hh).2
    omega
  ·exact (hx x h).2
open Classical in
def Sw (pB:Bool) (x:ZA) (l:List ZA):∀ st:TS,((l.foldl (oQ pB) st).on x).getD false=(if x∈l then false else (st.on x).getD false)/\((l.foldl (oQ pB) st).back x).getD false=(if x∈l then ((st.back x).getD false || pB) else (st.back x).getD false)/\(x∉l->(l.foldl (oQ pB) st).back x=st.back x):=by
 induction l with
 | nil=>intro st; simp
 | cons y l ih =>
  intro st;rw [XE];obtain ⟨a,b,c⟩:=ih (oQ pB st y);rw [a,b]
  by_cases e:x=y
  ·subst e;have e1:((oQ pB st x).on x)=some false:=cy _ _ _;have e2:((oQ pB st x).back x)=some ((st.back x).getD false || pB):=cy _ _ _;rw [e1,e2];refine ⟨aj,by by_cases hm:x∈l <;> simp [hm],fun h=>(h aj).elim⟩
  ·have e1:((oQ pB st y).on x)=st.on x:=bX _ _ e;have e2:((oQ pB st y).back x)=st.back x:=bX _ _ e;rw [e1,e2];refine ⟨by simp [e],by simp [e],fun h=>?_⟩;rw [c (fun k=>h (Xh _ k)),e2]
open Classical in
def FH.TY {own:ZA->Bool} {succ:ZA->List ZA} {G:List ZA} {v:ZA} {s0 st:TS} (hE:∀ a b,E a b↔b∈succ a/\own b=true) (i0:Inv E G s0) (m:FH E own G v (succ v) s0 st) (h0:s0.num v=none) (hG:∀ g,g∈G->oZ E g v) (hl:¬ tT st v<rO st v):nH E G v s0 (qA v st):=by
 obtain ⟨X,hX,hx⟩:=m.cV;have hnv:rO st v=s0.jt+1:=by unfold rO; rw [m.num]; rfl
 have i:=m.inv;have hvw:v∈st.cV:=i.gr v aj;have mf:∀ y,E v y->st.num y≠none/\(y∈s0.cV->tT st v<=rO st y)/\(y=v->(st.back v).getD false=true):=fun y hy=>m.mf y ((hE v y).1 hy).1 ((hE v y).1 hy).2
 have dZ:v∉s0.cV:=fun h=>i0.cV v h h0
 obtain ⟨e1,e2,e3⟩:=Hh (a:=s0.cV) (v:=v) (b:=st.cV) ⟨X,by rw [hX]; simp⟩ dZ rfl;have hdrop:st.cV.drop (qM v st)=v::X:=by rw [e1,hX]; simp
 have hbig:decide (1<st.cV.length-qM v st)=decide (1<(v::X).length):=by rw [<- hdrop,X3]
 have hway:(qA v st).cV=s0.cV:=by rw [uZ,e1,e2]
 have hnum:=nw v st;have hlow:=NZ v st;have hcnt:=yS v st;have hoff:=fun x=>Sw (decide (1<(v::X).length)) x (v::X) st
 have hon:∀ x,((qA v st).on x).getD false=(if x∈v::X then false else (st.on x).getD false):=by
  intro x;rw [<- (hoff x).1];unfold qA;rw [hdrop,hbig]
 have hbk:∀ x,((qA v st).back x).getD false=(if x∈v::X then ((st.back x).getD false || decide (1<(v::X).length)) else (st.back x).getD false):=by
  intro x;rw [<- (hoff x).2.1];unfold qA;rw [hdrop,hbig]
 have hbo:∀ x,x∉v::X->(qA v st).back x=st.back x:=by
  intro x hh;rw [<- (hoff x).2.2 hh];unfold qA;rw [hdrop,hbig]
 have hnew:∀ x,x∈v::X->s0.num x=none:=by
  intro x h;rcases Xq.1 h with h | h
  ·rw [h]; exact h0
  ·exact (hx x h).2.1
 have hdis:∀ x,x∈s0.cV->x∉v::X:=fun x h k=>i0.cV x h (hnew x k)
 have hmem:∀ x,x∈st.cV↔x∈s0.cV\/x∈v::X:=fun x=>by rw [hX]; exact Xl
 have hlt:∀ y,y∈s0.cV->¬ tT st v<=rO st y:=by
  intro y hy;obtain ⟨n,hn⟩:=Option.ne_none_iff_exists'.1 (i0.cV y hy)
  have:=(i0.le y n hn).2
  have e:rO st y=n:=by unfold rO; rw [(m.old y (i0.cV y hy)).1,hn]; rfl
  omega
 have hblk:∀ x,st.num x≠none->x∉G->∀ y,E x y->st.num y≠none:=by
  intro x hx1 hxg y hy
  by_cases e:x=v
  ·subst e; exact (mf y hy).1
  ·exact i.bl x hx1 (by simp [e,hxg]) y hy
 have hrv:∀ x,x∈st.cV->oZ E x v:=by
  intro x h;obtain ⟨g,hg,r⟩:=i.rg x h;rcases Xq.1 hg with h | h
  ·rw [h] at r; exact r
  ·exact r.trans (hG g h)
 refine ⟨⟨fun s n hs=>?_,fun x hxw=>?_,fun x=>?_,fun g hg=>?_,fun x hx1 hxw y hy=>?_,fun x hx1 hxg y hy=>?_,fun x hxw=>?_,fun x hx0=>?_,fun x hx1 hxw=>?_,fun x hxw hb=>?_,fun x hxw hxg hxx=>?_⟩,fun s hs=>?_,by rw [hcnt]; exact m.jt,fun s n hs hn=>by rw [hnum] at hn; exact m.new s n hs hn,⟨_,by rw [hnum]; exact m.num⟩,⟨[],by rw [hway]; simp,fun x hxX=>by simp at hxX⟩,fun hlt=>?_⟩
 ·rw [hnum] at hs; rw [hcnt]; exact i.le s n hs
 ·rw [hnum]; rw [hway] at hxw; exact i.cV x ((hmem x).2 (.inl hxw))
 ·rw [hon,hway]
  by_cases h:x∈v::X
  ·rw [Xb h];exact ⟨fun k=>(by cases k),fun k=>(hdis x k h).elim⟩
  ·rw [W6 h,i.on x,hmem];exact ⟨fun k=>k.resolve_right h,.inl⟩
 ·rw [hway]; exact i0.gr g hg
 ·rw [hnum] at hx1 ⊢;rw [hway] at hxw ⊢
  by_cases h:x∈v::X
  ·have hxg:x∉G:=fun k=>hxw (i0.gr x k)
   refine ⟨hblk x hx1 hxg y hy,fun hys=>hlt y hys ?_⟩;rcases Xq.1 h with h | h
   ·subst h; exact (mf y hy).2.1 hys
   ·exact (hx x h).2.2.2 y hy hys
  ·obtain ⟨a,b⟩:=i.cl x hx1 (fun k=>((hmem x).1 k).elim hxw h) y hy;exact ⟨a,fun k=>b ((hmem y).2 (.inl k))⟩
 ·rw [hnum] at hx1 ⊢;exact hblk x hx1 hxg y hy
 ·rw [hway] at hxw; exact i0.rg x hxw
 ·rw [hnum] at hx0;rw [hbk,W6 (fun k=>i.cV x ((hmem x).2 (.inr k)) hx0)];exact i.b0 x hx0
 ·rw [hnum] at hx1;rw [hway] at hxw;rw [hbk]
  by_cases h:x∈v::X
  ·rw [Xb h]
   by_cases hb:1<(v::X).length
   ·rw [W9 hb,Bool.or_true];refine ⟨fun _=>?_,fun _=>rfl⟩
    by_cases e:x=v
    ·subst e;obtain ⟨z,hz⟩:∃ z,z∈X:=by
      cases X with
      | nil=>simp at hb
      | cons z X=>exact ⟨z,aj⟩
     exact j6.of (hx z hz).2.2.1 (hrv z ((hmem z).2 (.inr (Xh _ hz)))) (fun e=>(hx z hz).1 e.symm)
    ·have hxX:x∈X:=(Xq.1 h).resolve_left e;exact j6.of (hrv x ((hmem x).2 (.inr h))) (hx x hxX).2.2.1 e
   ·rw [Xa hb,Bool.or_false];have hX0:X=[]:=by
     cases X with
     | nil=>rfl
     | cons z X=>simp at hb
    subst hX0;have e:x=v:=by simpa using h
    subst e;refine ⟨fun k=>⟨x,i.bw x hvw k,.refl x⟩,?_⟩;rintro ⟨u,hu,r⟩;obtain ⟨a,b,c⟩:=mf u hu
    by_cases hus:u∈st.cV
    ·rcases (hmem u).1 hus with k | k
     ·exact (hlt u k (b k)).elim
     ·exact c (by simpa using k)
    ·exact ((i.SE r a hus).2 hvw).elim
  ·rw [W6 h];exact i.bc x hx1 (fun k=>((hmem x).1 k).elim hxw h)
 ·rw [hway] at hxw;rw [hbk,W6 (hdis x hxw)] at hb;exact i.bw x ((hmem x).2 (.inl hxw)) hb
 ·rw [hway] at hxw;rw [hbk,W6 (hdis x hxw)];exact i.bb x ((hmem x).2 (.inl hxw)) (fun k=>by
   rcases Xq.1 k with k | k
   ·exact dZ (by rw [<- k]; exact hxw)
   ·exact hxg k) hxx
 ·have hns:s∉v::X:=fun k=>hs (hnew s k)
  rw [hnum,hlow,hbo s hns];exact m.old s hs
 ·unfold tT rO at hlt hl;rw [hlow,hnum] at hlt;exact (hl hlt).elim
end
section
variable {own:ZA->Bool} {succ:ZA->List ZA} {names:List ZA}
def Edge (own:ZA->Bool) (succ:ZA->List ZA) (a b:ZA):Prop:=b∈succ a/\own b=true
theorem E1 (hn:names.Nodup) (hown:∀ s,own s=true->s∈names) {f:Nat} (hvis:∀ (v:ZA) (G:List ZA) (st:TS),dA names st->Inv (Edge own succ) G st->v∈names->st.num v=Option.none->Sx.qh names st<=f->(∀ g,g∈G->oZ (Edge own succ) g v)->nH (Edge own succ) G v st (cL own succ f v st))
  {v:ZA} {G:List ZA} {s0:TS} (i0:Inv (Edge own succ) G s0) (h0:s0.num v=Option.none) (hG:∀ g,g∈G->oZ (Edge own succ) g v) :
  ∀ (l P:List ZA) (st:TS),(∀ w,w∈l->w∈succ v)->dA names st->Sx.qh names st<=f->FH (Edge own succ) own G v P s0 st->FH (Edge own succ) own G v (P++l) s0 (l.foldl (eC own (cL own succ f) v) st)
 | [],P,st,hl,g,hu,m=>by simpa using m
 | w::l,P,st,hl,g,hu,m=>by
  rw [XE,show P++w::l=(P++[w])++l from aj];have hok:=Eh hown (rV hn hown succ f) (v:=v) (w:=w) g hu;refine E1 hn hown hvis i0 h0 hG l (P++[w]) _ (fun u hu=>hl u (Xh _ hu)) hok.1 (XV hok.qh hu) ?_;unfold eC;split
  ·rename_i ho;have he:Edge own succ v w:=⟨hl w aj,ho⟩
   obtain ⟨m1,hb⟩:=m.self (w:=w) h0 (fun e=>by rw [e] at he; exact he);have g1:=g.self v w;have hu1:Sx.qh names (fq v w st)<=f:=by unfold Sx.qh; rw [(hQ v w st).1]; exact hu
   exact m1.rest i0 h0 hG he hb (fun hz=>g1.none hz) (fun hw hG2=>hvis w (v::G) _ g1 m1.inv (hown w ho) hw hu1 hG2)
  ·rename_i ho;refine ⟨m.inv,m.old,m.jt,m.new,m.num,m.cV,m.low,fun u hu ho2=>?_⟩;rcases Xl.1 hu with h | h
   ·exact m.mf u h ho2
   ·rw [Xm.1 h] at ho2;exact (ho ho2).elim
theorem Ah (hn:names.Nodup) (hown:∀ s,own s=true->s∈names):∀ (f:Nat) (v:ZA) (G:List ZA) (st:TS),dA names st->Inv (Edge own succ) G st->v∈names->st.num v=Option.none->Sx.qh names st<=f->(∀ g,g∈G->oZ (Edge own succ) g v)->nH (Edge own succ) G v st (cL own succ f v st)
 | 0,v,G,st,g,i,hv,h0,hu,hG=>by
  have:=(g.open hn hv h0).2
  omega
 | f+1,v,G,st,g,i,hv,h0,hu,hG=>by
  obtain ⟨g1,hu1⟩:=g.open hn hv h0;have m:=E1 hn hown (Ah hn hown f) i h0 hG (succ v) [] _ (fun _ h=>h) g1 ad (FH.start i h0);rw [Yr] at m;unfold cL;split
  ·rename_i hl;exact m.Tt (fun a b=>Iff.rfl) i hl
  ·rename_i hl;exact m.TY (fun a b=>Iff.rfl) i h0 hG hl
def VK (E:ZA->ZA->Prop):Inv E [] Bv:=by
 refine ⟨fun s n hs=>(by cases hs),fun x hx=>by simp [Bv] at hx,fun x=>by simp [Bv],fun g hg=>by simp at hg,fun x hx=>(hx rfl).elim,fun x hx=>(hx rfl).elim,fun x hx=>by simp [Bv] at hx,fun x hx=>rfl,fun x hx=>(hx rfl).elim,fun x hx=>by simp [Bv] at hx,fun x hx=>by simp [Bv] at hx⟩
structure TP (own:ZA->Bool) (succ:ZA->List ZA) (names:List ZA) (P:List ZA) (st:TS):Prop where
 B':dA names st
 inv:Inv (Edge own succ) [] st
 cV:st.cV=[]
 mf:∀ s,s∈P->st.num s≠Option.none
def KT (hn:names.Nodup) (hown:∀ s,own s=true->s∈names) {P:List ZA} {st:TS} (t:TP own succ names P st) {v:ZA} (hv:v∈names):TP own succ names (P++[v]) (vN own succ names.length st v):=by
 have hu:Sx.qh names st<=names.length:=Yo _ _;unfold vN;split
 ·rename_i h;have h0:=t.B'.none h;have p:=Ah hn hown names.length v [] st t.B' t.inv hv h0 hu (fun g hg=>by simp at hg);have k:=rV hn hown succ names.length v st t.B' hv h0 hu;refine ⟨k.1,p.inv,?_,fun s hs=>?_⟩
  ·cases hw:(cL own succ names.length v st).cV with
   | nil=>rfl
   | cons x l =>
    obtain ⟨g,hg,_⟩:=p.inv.rg x (by rw [hw]; simp);simp at hg
  ·rcases Xl.1 hs with h | h
   ·rw [(p.old s (t.mf s h)).1]; exact t.mf s h
   ·rw [Xm.1 h];obtain ⟨n,hn⟩:=p.num;rw [hn]; simp
 ·rename_i h;refine ⟨t.B',t.inv,t.cV,fun s hs=>?_⟩;rcases Xl.1 hs with k | k
  ·exact t.mf s k
  ·rw [Xm.1 k];intro e;exact h (by rw [e]; rfl)
def U4 (names:List ZA):TP own succ names [] Bv:=⟨UJ names,VK _,rfl,fun s hs=>by simp at hs⟩
theorem B2 (hn:names.Nodup) (hown:∀ s,own s=true->s∈names):∀ (l P:List ZA) (st:TS),(∀ s,s∈l->s∈names)->TP own succ names P st->TP own succ names (P++l) (l.foldl (vN own succ names.length) st)
 | [],P,st,hl,t=>by simpa using t
 | w::l,P,st,hl,t=>by
  rw [XE,show P++w::l=(P++[w])++l from aj];exact B2 hn hown l _ _ (fun s hs=>hl s (Xh _ hs)) (KT hn hown t (hl w aj))
def j6.QO {v:ZA} (h:j6 (Edge own succ) v):own v=true:=by
 obtain ⟨y,e,r⟩:=h;have key:∀ a b,oZ (Edge own succ) a b->own a=true->own b=true:=by
  intro a b r
  induction r with
  | refl=>exact id
  | head e _ ih=>exact fun _=>ih e.2
 exact key _ _ r e.2
def GK (hn:names.Nodup) (hown:∀ s,own s=true->s∈names) (s:ZA):((FF own succ names).back s).getD false=true↔j6 (Edge own succ) s:=by
 have t:TP own succ names ([]++names) (FF own succ names):=B2 hn hown names [] Bv (fun _ h=>h) (U4 names);rw [Yr] at t
 by_cases h:(FF own succ names).num s=Option.none
 ·rw [t.inv.b0 s h];refine ⟨fun k=>(by cases k),fun k=>?_⟩;exact (t.mf s (hown s k.QO) h).elim
 ·exact t.inv.bc s h (by rw [t.cV]; simp)
end
theorem kS {α:Type} [DecidableEq α]:∀ (l m:List α),l.Nodup->(∀ x,x∈l->x∈m)->l.length<=m.length
 | [],m,_,_=>aj
 | x::l,m,hn,hs=>by
  obtain ⟨h1,h2⟩:=YA.1 hn;have hx:=hs x aj
  have:=kS l (m.erase x) h2 (fun y hy=>(List.mem_erase_of_ne (fun e=>h1 (by rw [<- e]; exact hy))).2 (hs y (Xh _ hy)))
  rw [List.length_erase_of_mem hx] at this;have hp:=List.length_pos_of_mem hx;simp only [List.length_cons];omega
def oX {of og:ZA->Option cm} {x:cm} (h:∀ t,t∈x.ai->of t.1=og t.1):db of x=db og x:=by
 have h1:x.ai.flatMap (qO of)=x.ai.flatMap (qO og):=by
  have:∀ l:da,(∀ t,t∈l->of t.1=og t.1)->l.flatMap (qO of)=l.flatMap (qO og):=by
   intro l
   induction l with
   | nil=>intro _; rfl
   | cons t l ih =>
    intro hl;rw [XJ,XJ,ih (fun u hu=>hl u (Xh _ hu))]
    congr 1
    unfold qO;rw [hl t aj]
  exact this _ h
 have h2:x.ai.foldl (fZ of) x.num=x.ai.foldl (fZ og) x.num:=by
  have:∀ (l:da) (n:Nat),(∀ t,t∈l->of t.1=og t.1)->l.foldl (fZ of) n=l.foldl (fZ og) n:=by
   intro l
   induction l with
   | nil=>intro n _; rfl
   | cons t l ih =>
    intro n hl;rw [XE,XE,ih _ (fun u hu=>hl u (Xh _ hu))]
    congr 1
    unfold fZ;rw [hl t aj]
  exact this _ _ h
 unfold db;rw [h1,h2]
section
variable (own:ZA->Bool) (lin:ZA->cm)
def cJ:ZA->List ZA:=fun v=>(lin v).ai.map (·.1)
def qg:Nat->ZA->cm
 | 0,v=>lin v
 | f+1,v=>db (fun s=>if own s=true then some (qg f s) else none) (lin v)
end
def Hg (E:ZA->ZA->Prop):Nat->ZA->Prop
 | 0,_=>False
 | k+1,v=>∀ y,E v y->Hg E k y
theorem Nr {E:ZA->ZA->Prop} {Q:ZA->Prop} (h:∀ v,(∀ y,E v y->Q y)->Q v):∀ k v,Hg E k v->Q v
 | 0,v,hv=>hv.elim
 | k+1,v,hv=>h v fun y hy=>Nr h k y (hv y hy)
section
variable {own:ZA->Bool} {lin:ZA->cm} {names:List ZA}
def kN {v s:ZA}:s∈cJ lin v↔∃ t,t∈(lin v).ai/\t.1=s:=by simp [cJ]
theorem xH:∀ (f g:Nat) (v:ZA),Hg (Edge own (cJ lin)) f v->f<=g->qg own lin f v=qg own lin g v
 | 0,g,v,h,_=>h.elim
 | f+1,0,v,h,hfg=>ad
 | f+1,g+1,v,h,hfg=>by
  unfold qg;refine oX fun t ht=>?_
  show (if own t.1=true then some (qg own lin f t.1) else none)=if own t.1=true then some (qg own lin g t.1) else none
  by_cases ho:own t.1=true
  ·rw [Xb ho,Xb ho,xH f g t.1 (h t.1 ⟨kN.2 ⟨t,ht,rfl⟩,ho⟩) ad]
  ·rw [W6 ho,W6 ho]
def Ux {E:ZA->ZA->Prop} (hE:∀ a b,E a b->b∈names) (hc:∀ v,¬ j6 E v):∀ (f:Nat) (path:List ZA) (v:ZA),path.Nodup->(∀ p,p∈path->p∈names)->(∀ p,p∈path->∃ y,E p y/\oZ E y v)->v∈names->names.length<=path.length+f->Hg E f v:=by
 have key:∀ (path:List ZA) (v:ZA),(∀ p,p∈path->∃ y,E p y/\oZ E y v)->v∉path:=fun path v h hv=>hc v (h v hv)
 intro f
 induction f with
 | zero =>
  intro path v hn hp hr hv hl;have hvp:=key path v hr
  have:=kS (v::path) names (YA.2 ⟨hvp,hn⟩) (fun x hx=>by
   rcases Xq.1 hx with h | h
   ·rw [h]; exact hv
   ·exact hp x h)
  simp only [List.length_cons] at this;omega
 | succ f ih =>
  intro path v hn hp hr hv hl y hy;have hvp:=key path v hr;refine ih (v::path) y (YA.2 ⟨hvp,hn⟩) (fun x hx=>?_) (fun p hpp=>?_) (hE v y hy) (by simp only [List.length_cons]; omega)
  ·rcases Xq.1 hx with h | h
   ·rw [h]; exact hv
   ·exact hp x h
  ·rcases Xq.1 hpp with h | h
   ·rw [h]; exact ⟨y,hy,.refl y⟩
   ·obtain ⟨z,hz,r⟩:=hr p h;exact ⟨z,hz,r.trans (.one hy)⟩
def HF (own:ZA->Bool) (lin:ZA->cm) (names:List ZA) (v:ZA):cm:=qg own lin names.length v
def IS (own:ZA->Bool) (lin:ZA->cm) (names:List ZA) (s:ZA):Option cm:=if own s=true then some (HF own lin names s) else none
def GS (hown:∀ s,own s=true↔s∈names) (hc:∀ v,¬ j6 (Edge own (cJ lin)) v) {v:ZA} (hv:v∈names):Hg (Edge own (cJ lin)) names.length v :=
 Ux (fun a b e=>(hown b).1 e.2) hc names.length [] v List.nodup_nil (fun p hp=>by simp at hp) (fun p hp=>by simp at hp) hv aj
def G9 (hown:∀ s,own s=true↔s∈names) (hc:∀ v,¬ j6 (Edge own (cJ lin)) v) {v:ZA} (hv:v∈names):HF own lin names v=db (IS own lin names) (lin v):=by
 have hg:=GS hown hc hv;unfold HF;cases hN:names.length with
 | zero=>rw [hN] at hg; exact hg.elim
 | succ n =>
  rw [hN] at hg;unfold qg;refine oX fun t ht=>?_
  unfold IS HF
  by_cases ho:own t.1=true
  ·rw [Xb ho,Xb ho,hN,xH n (n+1) t.1 (hg t.1 ⟨kN.2 ⟨t,ht,rfl⟩,ho⟩) ad]
  ·rw [W6 ho,W6 ho]
def PT (hown:∀ s,own s=true↔s∈names) (hc:∀ v,¬ j6 (Edge own (cJ lin)) v) {Q:ZA->Prop} (h:∀ v,(∀ y,Edge own (cJ lin) v y->Q y)->Q v) {v:ZA} (hv:v∈names):Q v :=
 Nr h names.length v (GS hown hc hv)
end
def Df {l:da} {t:ZA × Nat} (h:t∈Dl l):∃ p,p∈l/\p.1=t.1:=by
 apply YR;intro k;have h0:cf l t.1=0:=yo fun p hp e=>k ⟨p,hp,e⟩
 have h1:=Ac l t.1;rw [h0] at h1;have nf:=zu l;generalize Dl l=m at h h1 nf
 induction m with
 | nil=>simp at h
 | cons p m ih =>
  rcases Xq.1 h with h | h
  ·subst h;rw [nf.mz] at h1
   have:=(nf.2 t aj).1
   omega
  ·have hl:=nf.head t h;rw [eJ,W6 (j7 hl)] at h1;exact ih h ad nf.tail
open Classical in
theorem vK (f:ZA->Nat) (S:List ZA) (hS:S.Nodup):∀ l:da,(∀ p,p∈l->p.1∈S)->gb f l=(S.map fun s=>cf l s*f s).sum
 | [],_=>by
  have:∀ S:List ZA,(S.map fun s=>cf [] s*f s).sum=0:=by
   intro S
   induction S with
   | nil=>rfl
   | cons s S ih=>rw [XH,X1,ih,y5]; omega
  rw [this]; rfl
 | p::l,h=>by
  have ih:=vK f S hS l (fun q hq=>h q (Xh _ hq));have hp:=h p aj;rw [eP,ih];clear ih h;have key:∀ S:List ZA,S.Nodup->(S.map fun s=>cf (p::l) s*f s).sum=(if p.1∈S then p.2*f p.1 else 0)+(S.map fun s=>cf l s*f s).sum:=by
   intro S
   induction S with
   | nil=>intro _; simp
   | cons s S ih =>
    intro hn;obtain ⟨h1,h2⟩:=YA.1 hn;rw [XH,X1,XH,X1,ih h2,eJ]
    by_cases e:p.1=s
    ·subst e;rw [Xb rfl,W6 h1,Xb aj,Ya];omega
    ·have:(p.1∈s::S)↔p.1∈S:=by simp [e]
     rw [W6 e,XK];simp only [this];omega
  rw [key S hS,Xb hp]
def PU {f:ZA->Nat} {l m:da} (h:∀ s,cf l s % 4294967296=cf m s % 4294967296):gb f l % 4294967296=gb f m % 4294967296:=by
 obtain ⟨S,hS,hl⟩:∃ S:List ZA,S.Nodup/\∀ p,p∈l++m->p.1∈S:=by
  generalize l++m=w
  induction w with
  | nil=>exact ⟨[],List.nodup_nil,aj⟩
  | cons p w ih =>
   obtain ⟨S,hS,hw⟩:=ih
   by_cases hp:p.1∈S
   ·refine ⟨S,hS,fun q hq=>?_⟩;rcases Xq.1 hq with h | h
    ·rw [h]; exact hp
    ·exact hw q h
   ·refine ⟨p.1::S,YA.2 ⟨hp,hS⟩,fun q hq=>?_⟩;rcases Xq.1 hq with h | h
    ·rw [h]; simp
    ·exact Xh _ (hw q h)
 rw [vK f S hS l (fun p hp=>hl p (Xy _ hp)),vK f S hS m (fun p hp=>hl p (XF _ hp))];clear hS hl
 induction S with
 | nil=>rfl
 | cons s S ih =>
  rw [XH,X1,XH,X1,YE,ih,Y6,h s,<- Y6,<- YE]
def Md (f:ZA->Nat) (l:da):gb f (Dl l) % 4294967296=gb f l % 4294967296:=PU fun s=>by rw [Ac,Zl]
def jq (f:ZA->Nat) (x:cm):Nat:=(x.num+gb f x.ai) % 4294967296
def D1 (f:ZA->Nat) (l m:da):gb f (l++m)=gb f l+gb f m:=by
 induction l with
 | nil=>simp [gb]
 | cons p l ih=>rw [YK,eP,eP,ih]; omega
def FR (f:ZA->Nat) (n:Nat) (l:da):gb f (l.map fun u=>(u.1,n*u.2 % 4294967296)) % 4294967296=n*gb f l % 4294967296:=by
 induction l with
 | nil=>simp [gb]
 | cons p l ih =>
  rw [XH,eP,eP,YE,ih,mod_mul_r,<- YE,Nat.mul_add,Nat.mul_assoc]
where
 mod_mul_r {a b:Nat}:a % 4294967296*b % 4294967296=a*b % 4294967296:=MB a b
def KW {f g:ZA->Nat} {of:ZA->Option cm} (h:∀ s,g s % 4294967296=(match of s with | none=>f s | some y=>jq f y) % 4294967296) (x:cm):jq f (db of x)=jq g x:=by
 unfold jq db;show ((x.ai.foldl (fZ of) x.num)+gb f (Dl (x.ai.flatMap (qO of)))) % 4294967296=(x.num+gb g x.ai) % 4294967296;rw [YE,Md,<- YE];generalize x.num=n;generalize x.ai=l
 induction l generalizing n with
 | nil=>simp [gb]
 | cons t l ih =>
  rw [XE,XJ,D1,eP];have e1:(l.foldl (fZ of) (fZ of n t)+(gb f (qO of t)+gb f (l.flatMap (qO of)))) % 4294967296=(gb f (qO of t)+(fZ of n t+gb g l)) % 4294967296:=by
   rw [show l.foldl (fZ of) (fZ of n t)+(gb f (qO of t)+gb f (l.flatMap (qO of)))=gb f (qO of t)+(l.foldl (fZ of) (fZ of n t)+gb f (l.flatMap (qO of))) from ad,YE,ih,<- YE]
  rw [e1];have e2:(gb f (qO of t)+fZ of n t) % 4294967296=(n+t.2*g t.1) % 4294967296:=by
   have hg:=h t.1;unfold qO fZ;cases ho:of t.1 with
   | none =>
    rw [ho] at hg;simp only at hg ⊢;rw [eP]
    have:t.2*f t.1 % 4294967296=t.2*g t.1 % 4294967296:=by rw [Y6,<- hg,<- Y6]
    simp only [gb,Nat.add_zero];omega
   | some y =>
    rw [ho] at hg;simp only at hg ⊢;have h1:=FR f t.2 y.ai;have h2:t.2*g t.1 % 4294967296=t.2*(y.num+gb f y.ai) % 4294967296:=by
     unfold jq at hg;rw [Y6,hg,Zl,<- Y6]
    rw [Nat.mul_add] at h2;omega
  omega
def rE {of:ZA->Option cm} {x:cm} {t:ZA × Nat} (h:t∈(db of x).ai):(∃ p,p∈x.ai/\p.1=t.1/\of t.1=none)\/∃ p y u,p∈x.ai/\of p.1=some y/\u∈y.ai/\u.1=t.1:=by
 obtain ⟨p,hp,e⟩:=Df h;obtain ⟨q,hq,hpq⟩:=Y9.1 hp;unfold qO at hpq;cases ho:of q.1 with
 | none =>
  rw [ho] at hpq
  have:p=q:=by simpa using hpq
  subst this;exact .inl ⟨p,hq,e,by rw [<- e]; exact ho⟩
 | some y =>
  rw [ho] at hpq;obtain ⟨u,hu,rfl⟩:=Xd.1 hpq;exact .inr ⟨q,y,u,hq,ho,hu,e⟩
def eM (of:ZA->Option cm) (x:cm):Nf (db of x).ai:=zu _
def D4 {l:da} (h:Nf l):Dl l=l:=(zu l).PL h fun s=>by rw [Ac,Zl]
def lB {of:ZA->Option cm} {x:cm} (hx:x.num<4294967296):(db of x).num<4294967296:=by
 show x.ai.foldl (fZ of) x.num<4294967296;generalize x.num=n at hx;generalize x.ai=l
 induction l generalizing n with
 | nil=>exact hx
 | cons t l ih =>
  rw [XE];refine ih _ ?_;unfold fZ;split
  ·exact hx
  ·exact Zg _ ad
section
variable {own:ZA->Bool} {lin:ZA->cm} {names:List ZA}
def wo (hown:∀ s,own s=true↔s∈names) (hc:∀ v,¬ j6 (Edge own (cJ lin)) v) {v:ZA} (hv:v∈names):∀ t,t∈(HF own lin names v).ai->own t.1=false/\∃ w u,w∈names/\u∈(lin w).ai/\u.1=t.1:=by
 refine PT (Q:=fun v=>v∈names->∀ t,t∈(HF own lin names v).ai->own t.1=false/\∃ w u,w∈names/\u∈(lin w).ai/\u.1=t.1) hown hc ?_ hv hv;intro v ih hv t ht;rw [G9 hown hc hv] at ht;rcases rE ht with ⟨p,hp,e,ho⟩ | ⟨p,y,u,hp,ho,hu,e⟩
 ·refine ⟨?_,v,p,hv,hp,e⟩;unfold IS at ho;cases hb:own t.1 with
  | false=>rfl
  | true=>rw [hb] at ho; simp at ho
 ·unfold IS at ho
  by_cases hb:own p.1=true
  ·rw [Xb hb] at ho;have ho:=Xo ho;subst ho;obtain ⟨a,b⟩:=ih p.1 ⟨kN.2 ⟨p,hp,rfl⟩,hb⟩ ((hown _).1 hb) u hu;rw [<- e];exact ⟨a,b⟩
  ·rw [W6 hb] at ho; cases ho
def Tr (hown:∀ s,own s=true↔s∈names) (hc:∀ v,¬ j6 (Edge own (cJ lin)) v) {v:ZA} (hv:v∈names):Nf (HF own lin names v).ai:=by
 rw [G9 hown hc hv]; exact eM _ _
end
def add_zero' (a:Zx):a.add 0=a:=by unfold Addr.add; rw [Xb rfl]
def Ud (a b:ZA):(ByteArray.toList a==ByteArray.toList b)=decide (a=b):=by
 rw [ByteArray.toList_eq,ByteArray.toList_eq]
 by_cases h:a=b
 ·subst h; simp
 ·rw [Xa h];exact beq_eq_false_iff_ne.2 fun e=>h (xw e)
def SL.take {h:Hp} {b:Nat} {e:TypeId} {sz:Nat} {p:ZC} {l c:Nat} {xs:List (List ZB)} (s:SL h b e sz p l c xs) {k:Nat} (hk:k<=l):SL h b e sz p k c (xs.take k):=by
 refine ⟨by rw [Xr,<- s.1]; omega,fun x hx=>s.2.1 x (X9 hx),?_⟩;cases p with
 | none =>
  obtain ⟨h1,h2⟩:=s.2.2;subst h2;exact ⟨h1,aj⟩
 | some a =>
  obtain ⟨g,pre,rest,rfl,hbg,hlc,hbox,hr⟩:=s.2.2;have hsplit:xs.flatten=(xs.take k).flatten++(xs.drop k).flatten:=by rw [<- List.flatten_append,XN]
  refine ⟨g,pre,(xs.drop k).flatten++rest,rfl,hbg,ad,?_,?_⟩
  ·rw [hsplit] at hbox;simpa [List.append_assoc] using hbox
  ·rw [W8,eR _ (fun x hx=>s.2.1 x (List.mem_of_mem_drop hx)),X3,hr,<- s.1,<- Ya]
   congr 1; omega
abbrev VA (x:ZA):List ZB:=[.string x]
def Vj:Tryz.prog.underlying 45=some (.slice 9):=az
def Vk:(Tryz.prog.info? 9).map (fun i=>(i.zero,i.size,i.bytes))=some (some (.string ⟨#[]⟩),1,16):=az
def yM {h:Hp} {b:Nat} {p:ZC} {l c:Nat} {xs:List ZA} (s:SL h b 9 1 p l c (xs.map VA)) (v:ZA) (hv:v∈xs) (hl:l<=2^40) :
  vz Tryz.prog 91 [.slice p l c,.string v] h (.int .i64 ((xs.findIdx fun x=>decide (v=x):Nat):Int)):=by
 refine et mixed Tryz.func91 az (gT p l c v) ?_;unfold eG bf bh bG aQ aR;have hll:l=xs.length:=by rw [s.1,W3]
 refine aU (cs:=[(false,[.int .i64]),(false,[.int .i64])]) (fun x w h'=>h'=h/\∃ i:Nat,x.2.1=(i:Int)/\i<=xs.length/\w=xs.length-i/\∀ j,j<i->∀ hj:j<xs.length,v≠xs[j]) ((0:Int),(0:Int),()) xs.length rfl ⟨rfl,0,rfl,ad,ad,fun j hj=>ad⟩ ?_;rintro ⟨n2,n3,⟨⟩⟩ w h2 ⟨rfl,i,hi,hile,rfl,hno⟩;simp only at hi;subst hi;refine ao ?_;refine ak (fun g1=>?_) (fun g1=>?_)
 ·have g1:=W2 g1;have hilt:i<xs.length:=ad
  refine ay ⟨ad,ad⟩ ?_;obtain ⟨a,rfl,hc⟩:=s.cells (i:=i) (by simpa using hilt);rw [Xc] at hc;refine ax rfl ?_;rw [show Int.toNat (i:Int)=i from ad];refine aC (xs[i],()) hc (ao ?_);rw [Ud];refine ak (fun g2=>?_) (fun g2=>?_)
  ·have g2:=W2 g2
   have:xs.findIdx (fun x=>decide (v=x))=i:=by
    rw [List.findIdx_eq hilt];exact ⟨by simpa using g2,fun j hj=>by simpa using hno j hj ad⟩
   exact ⟨by rw [this],rfl⟩
  ·have g2:=W4 g2;have hw:IntKind.wrap .i64 ((i:Int)+1)=((i+1:Nat):Int):=by rw [wrap_i64 ad ad]; omega
   refine aI (cs:=[(false,[.int .i64]),(false,[.int .i64])]) (n2,((i+1:Nat):Int),()) (xs.length-(i+1)) rfl ad (by rw [hw]; rfl) ⟨rfl,i+1,rfl,ad,rfl,fun j hj hjl=>?_⟩
   by_cases e:j=i
   ·subst e; exact g2
   ·exact hno j ad hjl
 ·have g1:=W4 g1;have hi:i=xs.length:=ad
  subst hi;obtain ⟨j,hj,e⟩:=Xw hv;exact (hno j hj hj e.symm).elim
def de (es:List cI) (s:ZA):cm:=(((j8 es s).bind fun k=>es[k]?).map (·.x)).getD tD
def ct (es:List cI) (s:ZA):Bool:=(j8 es s).isSome
def aZ (es:List cI):List ZA:=es.map (·.name)
def ec (es:List cI) (s:ZA):ct es s=true↔s∈aZ es:=by
 unfold ct j8 aZ;rw [List.findIdx?_isSome,Yt]
 simp
def nU {es:List cI} {s:ZA} {k:Nat} (h:j8 es s=some k):∃ hk:k<es.length,es[k].name=s/\de es s=es[k].x:=by
 have h':=h;unfold j8 at h';rw [Xt] at h';obtain ⟨hk,h1,h2⟩:=h';refine ⟨hk,W2 h1,?_⟩;unfold de;rw [h,Yl,W5 hk] <;> rfl
def De {es:List cI} {s:ZA} (h:s∈aZ es):∃ k,j8 es s=some k:=by
 have:=(ec es s).2 h
 unfold ct at this;exact X0.1 this
structure TF where
 E:Nat
 gA:Nat
 A:Nat
 gB:Nat
 B:Nat
 gN:Nat
 gL:Nat
 N:Nat
 L:Nat
 W:Nat
 gO:Nat
 O:Nat
 V:Nat
def TF.ord (r:TF):Prop:=r.E<r.gA/\r.gA<r.A/\r.A<r.gB/\r.gB<r.B/\r.B<r.gN/\r.gN<r.gL/\r.gL<r.N/\r.N<r.L/\r.L<r.W/\r.W<r.gO/\r.gO<r.O/\r.O<r.V
abbrev bx (g:Nat):Zx:=⟨g,0,none⟩
def TF.sV (r:TF):List ZB:=[.pointer (some (bx r.N)),.pointer (some (bx r.L)),.pointer (some (bx r.W)),.pointer (some (bx r.O)),.pointer (some (bx r.E)),.pointer (some (bx r.A)),.pointer (some (bx r.B)),.pointer (some (bx r.V))]
structure Oa (r:TF) (h:Hp) (es:List cI) (p0:ZC) (l0 c0:Nat):Prop where
 bE:bH h r.E 44 [.slice p0 l0 c0]
 bA:bH h r.A 89 [.map (some r.gA)]
 mA:∃ n,dP eI h r.gA (j8 es) n
 bV:bH h r.V 181 [.func (.func 90) #[] r.sV.toArray]
 bN:bH h r.N 89 [.map (some r.gN)]
 bL:bH h r.L 89 [.map (some r.gL)]
 bO:bH h r.O 58 [.map (some r.gO)]
 bB:bH h r.B 58 [.map (some r.gB)]
 vw:tk h p0 l0 es
structure II (r:TF) (es:List cI) (p0:ZC):Prop where
 ord:r.ord
 l0:∀ i,i∈aP p0->i<r.E
 li:∀ e,e∈es->e.x.ai≠[]->∀ i,i∈aP e.p->i<r.E
def gK.Vt {ws:List Nat} {h h':Hp} {p:ZC} {l:Nat} {us:da} (v:gK h p l us) (k:Ch ws h h') (hw:us≠[]->∀ i,i∈aP p->i∉ws):gK h' p l us:=by
 by_cases hn:us=[]
 ·subst hn;exact ⟨v.len,fun i hi=>by simp at hi⟩
 ·exact v.an k (hw hn)
def tk.mv {ws:List Nat} {h h':Hp} {p:ZC} {l:Nat} {es:List cI} (v:tk h p l es) (k:Ch ws h h') (hp:∀ i,i∈aP p->i∉ws) (hi:∀ e,e∈es->e.x.ai≠[]->∀ i,i∈aP e.p->i∉ws):tk h' p l es :=
 ⟨v.len,fun i hi=>by
  obtain ⟨a,ha,hc⟩:=v.cells i hi;exact ⟨a,ha,aX k (by rw [gU]; exact hp _ (by rw [ha]; simp [aP])) _ _ hc⟩,fun e he=>(v.fm e he).Vt k (hi e he)⟩
def Wa (r:TF) (p:ZC):List Nat:=r.gN::r.gL::r.gO::r.gB::r.W::aP p
structure mE (r:TF) (h:Hp) (st:TS) (p:ZC) (l c:Nat):Prop where
 mN:dP eI h r.gN st.num st.jt
 mL:∃ n,dP eI h r.gL st.low n
 mO:∃ n,dP eB h r.gO st.on n
 mB:∃ n,dP eB h r.gB st.back n
 bW:bH h r.W 45 [.slice p l c]
 w:SL h (r.V+1) 9 1 p l c (st.cV.map VA)
def Oa.mv {r:TF} {h h':Hp} {es:List cI} {p0:ZC} {l0 c0:Nat} {ws:List Nat} (m:Oa r h es p0 l0 c0) (lo:II r es p0) (k:Ch ws h h') (hw:∀ i,i∈ws->i=r.gN\/i=r.gL\/i=r.gO\/i=r.gB\/i=r.W\/r.V<i):Oa r h' es p0 l0 c0:=by
 have o:=lo.ord;unfold TF.ord at o;have nin:∀ i,i≠r.gN->i≠r.gL->i≠r.gO->i≠r.gB->i≠r.W->i<=r.V->i∉ws:=by
  intro i h1 h2 h3 h4 h5 h6 hi
  have:=hw i hi
  omega
 obtain ⟨n,mA⟩:=m.mA;exact ⟨m.bE.an k (nin _ ad ad ad ad ad ad),m.bA.an k (nin _ ad ad ad ad ad ad),⟨n,mA.an k (nin _ ad ad ad ad ad ad)⟩,
  m.bV.an k (nin _ ad ad ad ad ad ad),m.bN.an k (nin _ ad ad ad ad ad ad),m.bL.an k (nin _ ad ad ad ad ad ad),
  m.bO.an k (nin _ ad ad ad ad ad ad),m.bB.an k (nin _ ad ad ad ad ad ad),
  m.vw.mv k (fun i hi=>nin _ (by have:=lo.l0 i hi; omega) (by have:=lo.l0 i hi; omega) (by have:=lo.l0 i hi; omega) (by have:=lo.l0 i hi; omega) (by have:=lo.l0 i hi; omega) (by have:=lo.l0 i hi; omega))
   (fun e he hne i hi=>nin _ (by have:=lo.li e he hne i hi; omega) (by have:=lo.li e he hne i hi; omega) (by have:=lo.li e he hne i hi; omega) (by have:=lo.li e he hne i hi; omega) (by have:=lo.li e he hne i hi; omega) (by have:=lo.li e he hne i hi; omega))⟩
def mE.an {r:TF} {h h':Hp} {st:TS} {p:ZC} {l c:Nat} (m:mE r h st p l c) (k:Ext h h'):mE r h' st p l c:=by
 obtain ⟨n1,mL⟩:=m.mL;obtain ⟨n2,mO⟩:=m.mO;obtain ⟨n3,mB⟩:=m.mB;exact ⟨m.mN.an k aj,⟨n1,mL.an k aj⟩,⟨n2,mO.an k aj⟩,⟨n3,mB.an k aj⟩,m.bW.an k aj,m.w.an k aj⟩
structure pM (r:TF) (p:ZC) (h:Hp) (p':ZC) (h':Hp):Prop where
 ch:Ch (Wa r p) h h'
 cj:∀ i,i∈aP p'->i∈aP p\/h.size<=i
def pM.refl (r:TF) (p:ZC) (h:Hp):pM r p h p h:=⟨Ch.refl _ _,fun i hi=>.inl hi⟩
def oW {r:TF} {p:ZC} {i:Nat}:i∈Wa r p↔i=r.gN\/i=r.gL\/i=r.gO\/i=r.gB\/i=r.W\/i∈aP p:=by
 unfold Wa; simp
def pM.trans {r:TF} {p q s:ZC} {a b c:Hp} (x:pM r p a q b) (y:pM r q b s c):pM r p a s c:=by
 have hz:=x.ch.size;refine ⟨Ch.trans x.ch y.ch fun i hi hl=>?_,fun i hi=>?_⟩
 ·rw [oW] at hi ⊢;rcases hi with h | h | h | h | h | h
  ·exact .inl h
  ·exact .inr (.inl h)
  ·exact .inr (.inr (.inl h))
  ·exact .inr (.inr (.inr (.inl h)))
  ·exact .inr (.inr (.inr (.inr (.inl h))))
  ·rcases x.cj i h with h | h
   ·exact .inr (.inr (.inr (.inr (.inr h))))
   ·omega
 ·rcases y.cj i hi with h | h
  ·exact x.cj i h
  ·exact .inr ad
def pM.ext {r:TF} {p:ZC} {h h':Hp} (k:Ext h h'):pM r p h p h':=⟨k.mono aj,fun i hi=>.inl hi⟩
def pM.of {r:TF} {p:ZC} {h h':Hp} {g:Nat} (k:Ch [g] h h') (hg:g=r.gN\/g=r.gL\/g=r.gO\/g=r.gB\/g=r.W):pM r p h p h' :=
 ⟨k.mono fun i hi hl=>by simp at hi; subst hi; rw [oW]; rcases hg with h | h | h | h | h <;> simp [h],fun i hi=>.inl hi⟩
def pM.co {r:TF} {p p':ZC} {l c:Nat} {h h':Hp} {st:TS} {es:List cI} {p0:ZC} {l0 c0:Nat} (x:pM r p h p' h') (lo:II r es p0) (m:mE r h st p l c) (co:Oa r h es p0 l0 c0):Oa r h' es p0 l0 c0:=by
 refine co.mv lo x.ch fun i hi=>?_
 rw [oW] at hi;rcases hi with h | h | h | h | h | h
 ·exact .inl h
 ·exact .inr (.inl h)
 ·exact .inr (.inr (.inl h))
 ·exact .inr (.inr (.inr (.inl h)))
 ·exact .inr (.inr (.inr (.inr (.inl h))))
 ·exact .inr (.inr (.inr (.inr (.inr (by have:=(m.w.cj h).1; omega)))))
def pM.box {r:TF} {p p':ZC} {l c:Nat} {h h':Hp} {st:TS} {g:Nat} {e:TypeId} {xs:List ZB} (x:pM r p h p' h') (o:r.ord) (hg:r.V<g) (hp:g∉aP p) (b:bH h g e xs):bH h' g e xs:=by
 unfold TF.ord at o;refine b.an x.ch fun hi=>?_
 rw [oW] at hi;rcases hi with h | h | h | h | h | h <;> first | omega | exact hp h
section
variable {L:Lp} {K:ZB->Hp->Prop} {h:Hp} {r:TF} {st:TS} {p:ZC} {l c:Nat}
def mE.NS (m:mE r h st p l c) {i:Nat} (hi:i∈aP p):r.V<i:=by have:=(m.w.cj hi).1; omega
def mE.uf (m:mE r h st p l c) (o:r.ord) {s:ZA} (hs:s.size<=maxLen) {v:Int} {w:Nat} (hv:v=(w:Int)) {k:T} (hk:∀ h',mE r h' { st with num:=dC st.num s w,jt:=if (st.num s).isSome then st.jt else st.jt+1 } p l c->pM r p h p h'->h'.size=h.size->k L K h') :
  T.ei Tryz.prog (Instr.mapUpdate 89 (.map (some r.gN)) (.string s) (.int .i64 v)) k L K h:=by
 unfold TF.ord at o;obtain ⟨n1,mL⟩:=m.mL;obtain ⟨n2,mO⟩:=m.mO;obtain ⟨n3,mB⟩:=m.mB;refine qn m.mN hs hv ?_;intro h' m' c' z';exact hk h' ⟨m',⟨n1,mL.an c' (by simp; omega)⟩,⟨n2,mO.an c' (by simp; omega)⟩,⟨n3,mB.an c' (by simp; omega)⟩,m.bW.an c' (by simp; omega),m.w.bM c' (fun i hi=>by have:=m.NS hi; simp; omega)⟩ (pM.of c' (.inl rfl)) z'
def mE.r7 (m:mE r h st p l c) (o:r.ord) {s:ZA} (hs:s.size<=maxLen) {v:Int} {w:Nat} (hv:v=(w:Int)) {k:T} (hk:∀ h',mE r h' { st with low:=dC st.low s w } p l c->pM r p h p h'->h'.size=h.size->k L K h') :
  T.ei Tryz.prog (Instr.mapUpdate 89 (.map (some r.gL)) (.string s) (.int .i64 v)) k L K h:=by
 unfold TF.ord at o;obtain ⟨n1,mL⟩:=m.mL;obtain ⟨n2,mO⟩:=m.mO;obtain ⟨n3,mB⟩:=m.mB;refine qn mL hs hv ?_;intro h' m' c' z';exact hk h' ⟨m.mN.an c' (by simp; omega),⟨_,m'⟩,⟨n2,mO.an c' (by simp; omega)⟩,⟨n3,mB.an c' (by simp; omega)⟩,m.bW.an c' (by simp; omega),m.w.bM c' (fun i hi=>by have:=m.NS hi; simp; omega)⟩ (pM.of c' (.inr (.inl rfl))) z'
def mE.Uf (m:mE r h st p l c) (o:r.ord) {s:ZA} (hs:s.size<=maxLen) {b:Bool} {k:T} (hk:∀ h',mE r h' { st with on:=dC st.on s b } p l c->pM r p h p h'->h'.size=h.size->k L K h') :
  T.ei Tryz.prog (Instr.mapUpdate 58 (.map (some r.gO)) (.string s) (.bool b)) k L K h:=by
 unfold TF.ord at o;obtain ⟨n1,mL⟩:=m.mL;obtain ⟨n2,mO⟩:=m.mO;obtain ⟨n3,mB⟩:=m.mB;refine T2 mO hs ?_;intro h' m' c' z';exact hk h' ⟨m.mN.an c' (by simp; omega),⟨n1,mL.an c' (by simp; omega)⟩,⟨_,m'⟩,⟨n3,mB.an c' (by simp; omega)⟩,m.bW.an c' (by simp; omega),m.w.bM c' (fun i hi=>by have:=m.NS hi; simp; omega)⟩ (pM.of c' (.inr (.inr (.inl rfl)))) z'
def mE.Tq (m:mE r h st p l c) (o:r.ord) {s:ZA} (hs:s.size<=maxLen) {b:Bool} {k:T} (hk:∀ h',mE r h' { st with back:=dC st.back s b } p l c->pM r p h p h'->h'.size=h.size->k L K h') :
  T.ei Tryz.prog (Instr.mapUpdate 58 (.map (some r.gB)) (.string s) (.bool b)) k L K h:=by
 unfold TF.ord at o;obtain ⟨n1,mL⟩:=m.mL;obtain ⟨n2,mO⟩:=m.mO;obtain ⟨n3,mB⟩:=m.mB;refine T2 mB hs ?_;intro h' m' c' z';exact hk h' ⟨m.mN.an c' (by simp; omega),⟨n1,mL.an c' (by simp; omega)⟩,⟨n2,mO.an c' (by simp; omega)⟩,⟨_,m'⟩,m.bW.an c' (by simp; omega),m.w.bM c' (fun i hi=>by have:=m.NS hi; simp; omega)⟩ (pM.of c' (.inr (.inr (.inr (.inl rfl))))) z'
def mE.DO (m:mE r h st p l c) (s:ZA) {k:Int->T} (hk:k (((st.num s).getD 0:Nat):Int) L K h):T.ek Tryz.prog (Instr.lookup 89 (.map (some r.gN)) (.string s) false) false [(false,[.int .i64])] k L K h:=HS m.mN s hk
def mE.Ab (m:mE r h st p l c) (s:ZA) {k:Int->T} (hk:k (((st.low s).getD 0:Nat):Int) L K h):T.ek Tryz.prog (Instr.lookup 89 (.map (some r.gL)) (.string s) false) false [(false,[.int .i64])] k L K h:=by
 obtain ⟨n1,mL⟩:=m.mL;exact HS mL s hk
def mE.UX (m:mE r h st p l c) (s:ZA) {k:Bool->T} (hk:k ((st.on s).getD false) L K h):T.ek Tryz.prog (Instr.lookup 58 (.map (some r.gO)) (.string s) false) false [(false,[.bool])] k L K h:=by
 obtain ⟨n1,mL⟩:=m.mO;exact L7 mL s hk
def mE.ey (m:mE r h st p l c) (s:ZA) {k:Bool->T} (hk:k ((st.back s).getD false) L K h):T.ek Tryz.prog (Instr.lookup 58 (.map (some r.gB)) (.string s) false) false [(false,[.bool])] k L K h:=by
 obtain ⟨n1,mL⟩:=m.mB;exact L7 mL s hk
end
def Rb (aN aL aO aV a30:Zx) (s:ZA) (n26:Int):T :=
 T.ah aN [.map 9 3] <| fun (r36:Option Nat) =>
 T.ah a30 [.string] <| fun (s37:ZA) =>
 bR (Instr.lookup 89 (.map r36) (.string s37) false) false [aR] <| fun (n38:Int) =>
 cond (n38==(0:Int))
  (T.ah aV [.func #[9] #[] false] <| fun (v39:ZB) =>
  T.ah a30 [.string] <| fun (s40:ZA) =>
  T.sI Tryz.prog v39 [.string s40] true [] <| T.ah aL [.map 9 3] <| fun (r41:Option Nat) =>
  T.ah aL [.map 9 3] <| fun (r42:Option Nat) =>
  bR (Instr.lookup 89 (.map r42) (.string s) false) false [aR] <| fun (n43:Int) =>
  T.ah aL [.map 9 3] <| fun (r44:Option Nat) =>
  T.ah a30 [.string] <| fun (s45:ZA) =>
  bR (Instr.lookup 89 (.map r44) (.string s45) false) false [aR] <| fun (n46:Int) =>
  bR (Builtin.min_ #[3,3] 3 #[.int .i64 n43,.int .i64 n46]) false [aR] <| fun (n47:Int) =>
  T.ei Tryz.prog (Instr.mapUpdate 89 (.map r41) (.string s) (.int .i64 n47)) <|
  T.again 0 [.int .i64 (bt (n26+(1:Int)))])
  (T.ah aO [.map 9 4] <| fun (r39:Option Nat) =>
  T.ah a30 [.string] <| fun (s40:ZA) =>
  bR (Instr.lookup 58 (.map r39) (.string s40) false) false [cg] <| fun (b41:Bool) =>
  cond b41
  (T.ah aL [.map 9 3] <| fun (r42:Option Nat) =>
  T.ah aL [.map 9 3] <| fun (r43:Option Nat) =>
  bR (Instr.lookup 89 (.map r43) (.string s) false) false [aR] <| fun (n44:Int) =>
  T.ah aN [.map 9 3] <| fun (r45:Option Nat) =>
  T.ah a30 [.string] <| fun (s46:ZA) =>
  bR (Instr.lookup 89 (.map r45) (.string s46) false) false [aR] <| fun (n47:Int) =>
  bR (Builtin.min_ #[3,3] 3 #[.int .i64 n44,.int .i64 n47]) false [aR] <| fun (n48:Int) =>
  T.ei Tryz.prog (Instr.mapUpdate 89 (.map r42) (.string s) (.int .i64 n48)) <|
  T.again 0 [.int .i64 (bt (n26+(1:Int)))])
  (T.again 0 [.int .i64 (bt (n26+(1:Int)))]))
def oB (names:List ZA) (st:TS):Prop:=∀ s,st.num s≠none->s∈names
def Iv (es:List cI) (r:TF) (p0:ZC) (l0 c0 f:Nat):Prop :=
 ∀ (v:ZA) (st:TS) (h:Hp) (p:ZC) (l c:Nat),mE r h st p l c->Oa r h es p0 l0 c0->dA (aZ es) st->v∈aZ es->st.num v=none->qh (aZ es) st<=f->oB (aZ es) st ->
  HC Tryz.prog 90 (.string v::r.sV).toArray h fun w h'=>w=.tuple #[]/\∃ p' l' c',mE r h' (cL (ct es) (cJ (de es)) f v st) p' l' c'/\pM r p h p' h'
def Vo:fF Tryz.prog 90=true:=az
section
variable {L:Lp} {K:ZB->Hp->Prop} {h:Hp} {r:TF} {st:TS} {p:ZC} {l c:Nat} {es:List cI} {p0:ZC} {l0 c0:Nat}
def Iz {f:Nat} (hvis:Iv es r p0 l0 c0 f) (lo:II r es p0) (hs:∀ s,s∈aZ es->s.size<=maxLen) (m:mE r h st p l c) (co:Oa r h es p0 l0 c0) (g:dA (aZ es) st) (hu:qh (aZ es) st<=f) (hi:oB (aZ es) st) {v w:ZA} (hv:v∈aZ es) (hw:w∈aZ es) {a:Nat} {q:Nat} (ha:r.V<a) (hap:a∉aP p) (b:bH h a 117 [.string w,.int .u32 (q:Int)]) (n26:Int)
  (hk:∀ h' p' l' c',mE r h' (sF (cL (ct es) (cJ (de es)) f) v w st) p' l' c'->pM r p h p' h'->T.again 0 [.int .i64 (IntKind.wrap .i64 (n26+(1:Int)))] L K h') :
  Rb (bx r.N) (bx r.L) (bx r.O) (bx r.V) (bx a) v n26 L K h:=by
 unfold Rb bR bt aR cg;refine af co.bN (some r.gN,()) rfl (ao ?_);refine af b (w,()) rfl (ao ?_);refine m.DO w ?_;unfold sF at hk;have hsv:=hs v hv;refine ak (fun g1=>?_) (fun g1=>?_)
 ·have g1:(st.num w).getD 0=0:=by have:=W2 g1; omega
  rw [Xb g1] at hk;refine af co.bV (.func (.func 90) #[] r.sV.toArray,()) rfl (ao ?_);refine af b (w,()) rfl (ao ?_);refine qL (cap:=r.sV) Vo rfl (hvis w st h p l c m co g hw (g.none g1) hu hi) ?_;rintro _ h2 ⟨rfl,p2,l2,c2,m2,s2⟩;refine ⟨(),rfl,ao ?_⟩;have co2:=s2.co lo m co;have b2:=s2.box (st:=st) (l:=l) (c:=c) lo.ord ha hap b;generalize cL (ct es) (cJ (de es)) f w st=st2 at m2 hk;refine af co2.bL (some r.gL,()) rfl (ao ?_);refine af co2.bL (some r.gL,()) rfl (ao ?_);refine m2.Ab v ?_;refine af co2.bL (some r.gL,()) rfl (ao ?_);refine af b2 (w,()) rfl (ao ?_);refine m2.Ab w ?_;refine T7 ?_;refine m2.r7 lo.ord hsv rfl ?_;intro h3 m3 s3 z3;exact hk h3 p2 l2 c2 m3 (s2.trans s3)
 ·have g1:¬ (st.num w).getD 0=0:=by
   intro e;rw [e] at g1;simp at g1
  rw [W6 g1] at hk;refine af co.bO (some r.gO,()) rfl (ao ?_);refine af b (w,()) rfl (ao ?_);refine m.UX w ?_;refine ak (fun g2=>?_) (fun g2=>?_)
  ·rw [Xb g2] at hk;refine af co.bL (some r.gL,()) rfl (ao ?_);refine af co.bL (some r.gL,()) rfl (ao ?_);refine m.Ab v ?_;refine af co.bN (some r.gN,()) rfl (ao ?_);refine af b (w,()) rfl (ao ?_);refine m.DO w ?_;refine T7 ?_;refine m.r7 lo.ord hsv rfl ?_;intro h3 m3 s3 z3;exact hk h3 p l c m3 s3
  ·rw [W6 (by simp [g2])] at hk;exact hk h p l c m (pM.refl _ _ _)
end
end Go.Sx
