/- Contracts over heaps, part 2. Condition: as each statement says. -/
import Derived.Test.YthbffkdafjboiaaGreatDoorP1
import Derived.Test.YthbffkdafjboiaaGreatDoorBtD
import Derived.Test.YthbffkdafjboiaaGreatDoorCobjShelf
import Derived.Test.YthbffkdafjboiaaGreatDoorCShelfB
import Derived.Test.YthbffkdafjboiaaGreatDoorBtE
import Derived.LaidEql
import Derived.Stop.Asserts
import Derived.RowKitTokens
import Derived.Lib.ItoaLen
import Derived.Lib.ItoaMem
set_option linter.all false
set_option maxRecDepth 100000
set_option maxHeartbeats 4000000
namespace Go.Sx.Ob
open Go.Proofs
structure uH (h:Hp) (p:Xac) (l:Nat) (us:List bX):Prop where
 len:l=us.length
 many:us.length<=2^60
 cells:∀ i,(hi:i<us.length)->∃ a sa sb sc sd,p=some a/\aI h (a.add (i*4)) 0 [cz.v sa,cz.v sb,cz.v sc,cz.v sd]/\oB h sa sb sc sd us[i]
def uH.ak {h h':Hp} {p:Xac} {l:Nat} {us:List bX} (v:uH h p l us) (k:Ext h h'):uH h' p l us :=
 ⟨v.len,v.many,fun i hi=>by
  obtain ⟨a,sa,sb,sc,sd,j,hc,hv⟩:=v.cells i hi;exact ⟨a,sa,sb,sc,sd,j,aT k aj _ _ hc,hv.ak k⟩⟩
def Be (u:bX):Bool:=decide (600<u.text.length) || decide (300<u.data.length) || decide (100<u.bh.length)
def Fj (u:bX):Nat:=u.text.length+u.data.length+u.bh.length
def fP (us:List bX):Nat:=(us.map Fj).sum
def mS (us:List bX):Bool:=(us.take 65).any Be || decide (900<fP (us.take 65))
def Lh {α:Type} (f:α->Bool) (l:List α) {i n:Nat} (hi:i<l.length) (hn:i<n) (h:f l[i]=true):(l.take n).any f=true:=by
 rw [as9];exact ⟨l[i],List.mem_take_iff_getElem.2 ⟨i,ad,rfl⟩,h⟩
def Gn (us:List bX) {i:Nat} (hi:i<us.length):fP (us.take (i+1))=fP (us.take i)+Fj us[i]:=by
 unfold fP;rw [Y3 hi,Ze,cp9]
 simp
def Ln {h:Hp} {p:Xac} {l c:Nat} {us:List bX} (v:uH h p l us):we Tryz.prog 25 [.slice p l c] h (.bool (mS us)):=by
 refine eC mixed Tryz.func25 ax (oD p l c) ?_;unfold jX bf bk bH aP bt dP aR cn;have hl:=v.len;have hm:=v.many;refine aX (cs:=[(false,[.bool]),(false,[.int .i64]),(false,[.int .i64])]) (fun y m h'=>∃ i:Nat,y.1=false/\y.2.1=((fP (us.take i):Nat):Int)/\y.2.2.1=(i:Int)/\m=l-i/\i<=l/\i<=65/\h'=h/\(us.take i).any Be=false/\fP (us.take i)<=i*1000) (false,(0:Int),(0:Int),()) l rfl
  ⟨0,rfl,rfl,rfl,rfl,ad,ad,rfl,rfl,by simp [fP]⟩ ?_
 rintro ⟨b1,n2,n3,⟨⟩⟩ m h1 ⟨i,u,G,J,rfl,hi,X,rfl,hb,hs⟩;simp only at u G J;subst u G J;refine an ?_;have fin:(l<=i\/65<=i)->(T.ret (.bool (decide (((fP (us.take i):Nat):Int)>(900:Int))))) [Jl (cs:=[(false,[.bool]),(false,[.int .i64]),(false,[.int .i64])]) (fun y m h'=>∃ i:Nat,y.1=false/\y.2.1=((fP (us.take i):Nat):Int)/\y.2.2.1=(i:Int)/\m=l-i/\i<=l/\i<=65/\h'=h1/\(us.take i).any Be=false/\fP (us.take i)<=i*1000) (l-i)] (fun v' h'=>v'=.bool (mS us)/\h'=h1) h1:=by
  intro hh
  have:us.take i=us.take 65:=by
   by_cases O:i=65
   ·rw [O]
   ·rw [Zy ad,Zy ad]
  refine ⟨?_,rfl⟩;unfold mS;rw [<- this,hb,bl9]
  congr 1
  by_cases g:900<fP (us.take i)
  ·rw [Y6 g,Y6 ad]
  ·rw [Y7 g,Y7 ad]
 refine IW (fun r=>?_) (fun r=>?_)
 ·have r:=Zc r;exact fin ad
 have r:=Y5 r;refine IW (fun w=>?_) (fun w=>?_)
 ·have w:=Zc w;exact fin ad
 have w:=Y5 w;clear fin;have j:i<us.length:=ad
 obtain ⟨a,sa,sb,sc,sd,rfl,hc,hv⟩:=v.cells i j;have na:=hv.text.len;have nb:=hv.data.len;have nc:=hv.bh.len;have ca:aI h1 (a.add (i*4)) 0 [cz.v sa]:=⟨hc.1,trivial⟩
 have Y:aI h1 ((a.add (i*4)).add 1) 0 [cz.v sb]:=rK _ 1 0 ⟨hc.2.1,trivial⟩;have cc:aI h1 ((a.add (i*4)).add 2) 0 [cz.v sc]:=rK _ 2 0 ⟨hc.2.2.1,trivial⟩;have pT:Be us[i]=true->(T.ret (.bool true)) [Jl (cs:=[(false,[.bool]),(false,[.int .i64]),(false,[.int .i64])]) (fun y m h'=>∃ i:Nat,y.1=false/\y.2.1=((fP (us.take i):Nat):Int)/\y.2.2.1=(i:Int)/\m=l-i/\i<=l/\i<=65/\h'=h1/\(us.take i).any Be=false/\fP (us.take i)<=i*1000) (l-i)] (fun v' h'=>v'=.bool (mS us)/\h'=h1) h1:=by
  intro hg;refine ⟨?_,rfl⟩;unfold mS;rw [Lh Be us j ad hg] <;> rfl
 refine ay ⟨ad,ad⟩ (aw rfl ?_);refine az ((sa.p,sa.l,sa.c),()) ca (an ?_);refine av (fun g=>?_) (fun g1=>?_)
 ·have g:=Y5 g;refine pT ?_;unfold Be;rw [Y6 ad] <;> rfl
 have g1:=Zc g1;refine ay ⟨ad,ad⟩ (aw rfl ?_);refine az ((sb.p,sb.l,sb.c),()) Y (an ?_);refine av (fun g=>?_) (fun g2=>?_)
 ·have g:=Y5 g;refine pT ?_;unfold Be;rw [Y6 (show 300<us[i].data.length from ad)]
  simp
 have g2:=Zc g2;refine ay ⟨ad,ad⟩ (aw rfl ?_);refine az ((sc.p,sc.l,sc.c),()) cc (an ?_);refine av (fun g=>?_) (fun Z=>?_)
 ·have g:=Y5 g;refine pT ?_;unfold Be;rw [Y6 (show 100<us[i].bh.length from ad)]
  simp
 have Z:=Zc Z;refine ay ⟨ad,ad⟩ (aw rfl ?_);refine az ((sa.p,sa.l,sa.c),()) ca (an ?_);refine ay ⟨ad,ad⟩ (aw rfl ?_);refine az ((sb.p,sb.l,sb.c),()) Y (an ?_);refine ay ⟨ad,ad⟩ (aw rfl ?_);refine az ((sc.p,sc.l,sc.c),()) cc (an ?_);rw [wrap_i64 (x:=((fP (us.take i):Nat):Int)+(sa.l:Int)) ad ad,wrap_i64 (x:=((fP (us.take i):Nat):Int)+(sa.l:Int)+(sb.l:Int)) ad ad,wrap_i64 (x:=((fP (us.take i):Nat):Int)+(sa.l:Int)+(sb.l:Int)+(sc.l:Int)) ad ad,wrap_i64 (x:=(i:Int)+1) ad ad];have U:=Gn us j;have V:Fj us[i]=sa.l+sb.l+sc.l:=by unfold Fj; omega
 refine aH (cs:=[(false,[.bool]),(false,[.int .i64]),(false,[.int .i64])]) (false,((fP (us.take (i+1)):Nat):Int),((i+1:Nat):Int),()) (l-(i+1)) rfl ad ?_ ?_
 ·show [Value.bool false,Value.int .i64 (((fP (us.take i):Nat):Int)+(sa.l:Int)+(sb.l:Int)+(sc.l:Int)),Value.int .i64 ((i:Int)+1)]=[Value.bool false,Value.int .i64 ((fP (us.take (i+1)):Nat):Int),Value.int .i64 ((i+1:Nat):Int)];rw [U,V]
  congr 3
  omega
 ·refine ⟨i+1,rfl,rfl,rfl,rfl,ad,ad,rfl,?_,ad⟩;rw [Y3 j,cq9,hb,bl9];unfold Be;simp only [List.any_cons,List.any_nil,Bool.or_false,Bool.or_eq_false_iff,decide_eq_false_iff_not];omega
def RN:Array (Nat × Xab):=#[(0,.agg #[.string ⟨#[110,111,112]⟩,.int .u8 (0:Int),.int .i64 (1:Int)]),(1,.agg #[.string ⟨#[104,97,108,116]⟩,.int .u8 (1:Int),.int .i64 (1:Int)]),(2,.agg #[.string ⟨#[114,101,116]⟩,.int .u8 (2:Int),.int .i64 (1:Int)]),(3,.agg #[.string ⟨#[112,114,105,110,116]⟩,.int .u8 (3:Int),.int .i64 (2:Int)]),(4,.agg #[.string ⟨#[105,110]⟩,.int .u8 (4:Int),.int .i64 (2:Int)]),(5,.agg #[.string ⟨#[112,117,115,104]⟩,.int .u8 (5:Int),.int .i64 (2:Int)]),(6,.agg #[.string ⟨#[112,111,112]⟩,.int .u8 (6:Int),.int .i64 (2:Int)]),(7,.agg #[.string ⟨#[106,114]⟩,.int .u8 (7:Int),.int .i64 (2:Int)]),(8,.agg #[.string ⟨#[110,101,103]⟩,.int .u8 (8:Int),.int .i64 (2:Int)]),(9,.agg #[.string ⟨#[110,111,116]⟩,.int .u8 (9:Int),.int .i64 (2:Int)]),(10,.agg #[.string ⟨#[122,116,117,114,110]⟩,.int .u8 (10:Int),.int .i64 (3:Int)]),(11,.agg #[.string ⟨#[122,99,111,110,106]⟩,.int .u8 (11:Int),.int .i64 (3:Int)]),(12,.agg #[.string ⟨#[109,111,118]⟩,.int .u8 (16:Int),.int .i64 (4:Int)]),(13,.agg #[.string ⟨#[97,100,100]⟩,.int .u8 (17:Int),.int .i64 (4:Int)]),(14,.agg #[.string ⟨#[115,117,98]⟩,.int .u8 (18:Int),.int .i64 (4:Int)]),(15,.agg #[.string ⟨#[109,117,108]⟩,.int .u8 (19:Int),.int .i64 (4:Int)]),(16,.agg #[.string ⟨#[100,105,118]⟩,.int .u8 (20:Int),.int .i64 (4:Int)]),(17,.agg #[.string ⟨#[97,110,100]⟩,.int .u8 (21:Int),.int .i64 (4:Int)]),(18,.agg #[.string ⟨#[111,114]⟩,.int .u8 (22:Int),.int .i64 (4:Int)]),(19,.agg #[.string ⟨#[120,111,114]⟩,.int .u8 (23:Int),.int .i64 (4:Int)]),(20,.agg #[.string ⟨#[115,104,108]⟩,.int .u8 (24:Int),.int .i64 (4:Int)]),(21,.agg #[.string ⟨#[115,104,114]⟩,.int .u8 (25:Int),.int .i64 (4:Int)]),(22,.agg #[.string ⟨#[108,116]⟩,.int .u8 (26:Int),.int .i64 (4:Int)]),(23,.agg #[.string ⟨#[101,113]⟩,.int .u8 (27:Int),.int .i64 (4:Int)]),(24,.agg #[.string ⟨#[108,100,98]⟩,.int .u8 (28:Int),.int .i64 (4:Int)]),(25,.agg #[.string ⟨#[108,100,119]⟩,.int .u8 (29:Int),.int .i64 (4:Int)]),(26,.agg #[.string ⟨#[108,100,109]⟩,.int .u8 (30:Int),.int .i64 (4:Int)]),(27,.agg #[.string ⟨#[115,116,109]⟩,.int .u8 (31:Int),.int .i64 (4:Int)]),(28,.agg #[.string ⟨#[122,109,111,118]⟩,.int .u8 (32:Int),.int .i64 (5:Int)]),(29,.agg #[.string ⟨#[122,97,100,100]⟩,.int .u8 (33:Int),.int .i64 (5:Int)]),(30,.agg #[.string ⟨#[122,115,117,98]⟩,.int .u8 (34:Int),.int .i64 (5:Int)]),(31,.agg #[.string ⟨#[122,109,117,108]⟩,.int .u8 (35:Int),.int .i64 (5:Int)]),(32,.agg #[.string ⟨#[122,114,101]⟩,.int .u8 (36:Int),.int .i64 (6:Int)]),(33,.agg #[.string ⟨#[122,105,109]⟩,.int .u8 (37:Int),.int .i64 (6:Int)]),(34,.agg #[.string ⟨#[122,115,101,116]⟩,.int .u8 (38:Int),.int .i64 (7:Int)]),(35,.agg #[.string ⟨#[108,105,115]⟩,.int .u8 (48:Int),.int .i64 (8:Int)]),(36,.agg #[.string ⟨#[116,114,97,112]⟩,.int .u8 (49:Int),.int .i64 (9:Int)]),(37,.agg #[.string ⟨#[108,105]⟩,.int .u8 (50:Int),.int .i64 (10:Int)]),(38,.agg #[.string ⟨#[108,100,112]⟩,.int .u8 (51:Int),.int .i64 (11:Int)]),(39,.agg #[.string ⟨#[106,109,112]⟩,.int .u8 (64:Int),.int .i64 (12:Int)]),(40,.agg #[.string ⟨#[99,97,108,108]⟩,.int .u8 (67:Int),.int .i64 (12:Int)]),(41,.agg #[.string ⟨#[106,122]⟩,.int .u8 (70:Int),.int .i64 (13:Int)]),(42,.agg #[.string ⟨#[106,110,122]⟩,.int .u8 (73:Int),.int .i64 (13:Int)])]
def kT (k:Nat):Xaa:=match RN[k]? with | some (_,.agg #[.string s,_,_])=>s | _=>⟨#[]⟩
def uh (k:Nat):Int:=match RN[k]? with | some (_,.agg #[_,.int _ b,_])=>b | _=>0
def XA:Tryz.prog.underlying 163=some (.slice 162):=ax
def YK:(Tryz.prog.info? 162).map (fun i=>(i.zero,i.size,i.bytes))=some (some (.agg #[.string ⟨#[]⟩,.int .u8 0,.int .i64 0]),3,32):=ax
def Re:Instr.fill (fun j=>some (j*3,3)) ((Array.range (43*3)).map ((Value.agg #[.string ⟨#[]⟩,.int .u8 0,.int .i64 0]).cells[· % (Value.agg #[.string ⟨#[]⟩,.int .u8 0,.int .i64 0]).cells.size]!)) RN.toList=some (jc kT uh).toArray:=ax
def T2 (h:Hp):HC Tryz.prog 79 #[] h fun v h'=>v=.slice (some ⟨h.size,0,none⟩) 43 43/\bF h' h.size 162 (jc kT uh)/\Ext h h':=by
 refine bd (args:=[]) mixed Tryz.func79 ax qn ?_;show (T.eh Tryz.prog (Instr.buildSlice 163 43 RN) false [(false,[.slice 0])] <| fun (p0:Xac) (j:Nat) (u:Nat)=>T.ret (.slice p0 j u)) [] _ h;refine km XA YK ad ad Re ?_;intro h1 b1 e1 z1;exact ⟨rfl,b1,e1⟩
def KQ {nm:Nat->Xaa} {by_:Nat->Int} {k:Nat} (hk:k<43):(jc nm by_)[k*3+2]?=some (.int .i64 (jS.getD k 0:Nat)):=by
 unfold jc;rw [rz _ 3 aj _ _ _ ad];simp [hk]
def qP (h:Hp) (op:Int) (G:Sm op):HC Tryz.prog 78 #[.int .i64 op] h fun w h'=>w=.int .i64 (cS op:Nat)/\Ext h h':=by
 refine bd (args:=[.int .i64 op]) mixed Tryz.func78 ax (nZ op) ?_;unfold j0 bK bt;refine aJ (T2 h) ?_;rintro _ h1 ⟨rfl,b1,e1⟩;refine ⟨((some ⟨h.size,0,none⟩,43,43),()),rfl,an ?_⟩;have z0:op<1\/43<op->cS op=0:=by
  intro J
  by_cases h0:cS op=0
  ·exact h0
  ·have:=Da op h0
   omega
 refine av (fun q=>?_) (fun q=>?_)
 ·have q:=Y5 q;rw [z0 (.inl q)];exact ⟨rfl,e1⟩
 have q:=Zc q;refine av (fun r=>?_) (fun r=>?_)
 ·have r:op>((43:Nat):Int):=Y5 r;rw [z0 (.inr ad)];exact ⟨rfl,e1⟩
 have r:¬ op>((43:Nat):Int):=Zc r;obtain ⟨k,hk⟩:∃ k:Nat,op=(k:Int)+1:=⟨(op-1).toNat,ad⟩
 rw [wrap_i64 ad ad,show op-1=(k:Int) from ad];have j:k<43:=ad
 refine ay ⟨ad,ad⟩ ?_;refine aw rfl ?_;rw [show Int.toNat (k:Int)=k from rfl,aE,aE];have hs:cS op=jS.getD k 0:=by
  unfold cS;rw [Y2 ad,show (op-1).toNat=k from ad]
 refine af b1 (((jS.getD k 0:Nat):Int),()) ?_ ?_
 ·show List.take 1 (List.drop (0+k*3+2) (jc kT uh))=[.int .i64 ((jS.getD k 0:Nat):Int)]
  have:=KQ (nm:=kT) (by_:=uh) j
  rw [ZJ];obtain ⟨u,hv⟩:=Zj.1 this;rw [Zg u,List.take_succ_cons,List.take_zero,hv]
 ·rw [hs];exact ⟨rfl,e1⟩
def Cd (h:Hp) (op:Int) (j:Sm op):HC Tryz.prog 123 #[.int .i64 op] h fun w h'=>w=.bool (oJ op)/\Ext h h':=by
 refine bd (args:=[.int .i64 op]) mixed Tryz.func123 ax (oc op) ?_;unfold jV cH dP;have hc:=ik op;refine aJ (qP h op j) ?_;rintro _ h1 ⟨rfl,e1⟩;refine ⟨(((cS op:Nat):Int),()),rfl,an ?_⟩;refine av (fun q=>?_) (fun q=>?_)
 ·have q:cS op=12:=Fh q;exact ⟨by unfold oJ; rw [q]; rfl,e1⟩
 have q:¬ cS op=12:=Fz q;refine aJ (qP h1 op j) ?_;rintro _ h2 ⟨rfl,e2⟩;refine ⟨(((cS op:Nat):Int),()),rfl,?_⟩;refine ⟨?_,e1.trans e2⟩
 congr 1
 unfold oJ
 by_cases g:cS op=13
 ·rw [g]; rfl
 ·rw [Y7 ad];exact Yt (c:=13) g
def Jc (h:Hp) (op:Int) (J:Sm op):HC Tryz.prog 125 #[.int .i64 op] h fun w h'=>w=.bool (F' op)/\Ext h h':=by
 refine bd (args:=[.int .i64 op]) mixed Tryz.func125 ax (pD op) ?_;unfold kC cH dP;have hc:=ik op;refine aJ (qP h op J) ?_;rintro _ h1 ⟨rfl,e1⟩;refine ⟨(((cS op:Nat):Int),()),rfl,an ?_⟩;refine av (fun q=>?_) (fun j=>?_)
 ·have q:cS op=10:=Fh q;exact ⟨by unfold F'; rw [q]; rfl,e1⟩
 have j:¬ cS op=10:=Fz j;refine av (fun q=>?_) (fun u=>?_)
 ·have q:cS op=11:=Fh q;exact ⟨by unfold F'; rw [q]; rfl,e1⟩
 have u:¬ cS op=11:=Fz u;refine av (fun q=>?_) (fun G=>?_)
 ·have q:cS op=12:=Fh q;exact ⟨by unfold F'; rw [q]; rfl,e1⟩
 have G:¬ cS op=12:=Fz G;refine ⟨?_,e1⟩
 congr 1
 unfold F'
 by_cases g:cS op=13
 ·rw [g]; rfl
 ·rw [Y7 ad];exact Yt (c:=13) g
def Qr (h:Hp) (n w:Int):we Tryz.prog 147 [.int .i32 n,.int .i64 w] h (.bool ((decide (w=1) || decide (w=2) || decide (w=4)) && me n w)):=by
 refine eC mixed Tryz.func147 ax (oV n w) ?_;unfold kP me bI dP;refine av (fun q=>?_) (fun j=>?_)
 ·have q:w=1:=by simpa using q
  rw [Y8 q,q];refine av (fun r=>⟨?_,rfl⟩) (fun r=>⟨?_,rfl⟩)
  ·have r:=Y5 r;rw [Y6 (show -128<=n from r)]
   simp
  ·have r:=Zc r;rw [Y7 (show ¬ -128<=n from r)]
   simp
 have j:¬ w=1:=by simpa using j
 rw [Y2 j];refine av (fun q=>?_) (fun u=>?_)
 ·have q:w=2:=by simpa using q
  rw [Y8 q,q];refine av (fun r=>⟨?_,rfl⟩) (fun r=>⟨?_,rfl⟩)
  ·have r:=Y5 r;rw [Y6 (show -32768<=n from r)]
   simp
  ·have r:=Zc r;rw [Y7 (show ¬ -32768<=n from r)]
   simp
 have u:¬ w=2:=by simpa using u
 rw [Y2 u];refine av (fun q=>?_) (fun G=>?_)
 ·have q:w=4:=by simpa using q
  rw [q];exact ⟨rfl,rfl⟩
 ·have G:¬ w=4:=by simpa using G
  rw [Y7 j,Y7 u,Y7 G];exact ⟨rfl,rfl⟩
def aA (s:Nat):Nat:=if s=2\/s=8\/s=10\/s=11\/s=13\/s=4\/s=6 then 8 else if s=3\/s=5\/s=7 then 4 else 0
def bB (s:Nat):Nat:=if s=4\/s=7 then 8 else if s=5\/s=6 then 4 else 0
def Nz {s:Nat} (hs:1<=s/\s<=13) (a b n:Int):cJ s a b n=true↔(0<=a/\0<=b/\(a<(aA s:Int)\/(aA s=0/\a=0))/\(b<(bB s:Int)\/(bB s=0/\b=0))/\(s=7->0<=n/\n<=7)):=by
 have:s=1\/s=2\/s=3\/s=4\/s=5\/s=6\/s=7\/s=8\/s=9\/s=10\/s=11\/s=12\/s=13:=ad
 unfold cJ wg aA bB;rcases this with rfl | rfl | rfl | rfl | rfl | rfl | rfl | rfl | rfl | rfl | rfl | rfl | rfl <;> simp <;> omega
def Kr (h:Hp) (op a b n form:Int) (J:Sm op) (hs:cS op≠0):HC Tryz.prog 146 #[dm op a b n form] h fun w h'=>w=.bool (cJ (cS op) a b n)/\Ext h h':=by
 refine bd (args:=[dm op a b n form]) mixed Tryz.func146 ax (kV op a b n form) ?_;unfold gH cH bI dP aR;have hc:1<=cS op/\cS op<=13:=by have:=ik op; omega
 refine bm ?_;intro h1 b1 e1 z1;refine af b1 (op,()) rfl (an ?_);refine aJ (qP h1 op J) ?_;rintro _ h2 ⟨rfl,e2⟩;refine ⟨(((cS op:Nat):Int),()),rfl,an ?_⟩;have u:=b1.ak e2 aj;have G:=e1.trans e2;have j:=Nz hc a b n;generalize cS op=s at *;generalize cJ s a b n=R at *;refine iF (cs:=[(false,[.int .i64]),(false,[.int .i64])]) (fun y h'=>y=(((aA s:Nat):Int),((bB s:Nat):Int),())/\h2=h') ?_ ?_
 ·have:s=1\/s=2\/s=3\/s=4\/s=5\/s=6\/s=7\/s=8\/s=9\/s=10\/s=11\/s=12\/s=13:=ad
  rcases this with rfl | rfl | rfl | rfl | rfl | rfl | rfl | rfl | rfl | rfl | rfl | rfl | rfl
  all_goals (repeat (first | refine bC rfl ?_ | refine bP rfl ?_))
  all_goals exact dM (cs:=[(false,[.int .i64]),(false,[.int .i64])]) (((aA _:Nat):Int),((bB _:Nat):Int),()) rfl rfl ⟨rfl,rfl⟩
 rintro ⟨A,B,⟨⟩⟩ _ ⟨hy,rfl⟩;cases hy;refine an ?_;simp only [aE];have fin:∀ b:Bool,(b=true↔R=true)->(T.ret (.bool b)) [] (fun w h'=>w=.bool R/\Ext h h') h2:=by
  intro b hb;refine ⟨?_,G⟩;cases b <;> cases R <;> simp_all
 repeat' (first
  | (refine af u (a,()) rfl ?_; refine an ?_)
  | (refine af u (b,()) rfl ?_; refine an ?_)
  | (refine af u (n,()) rfl ?_; refine an ?_)
  | refine fin _ ?_
  | refine av (fun q=>?_) (fun q=>?_))
 all_goals (rw [j]; simp only [decide_eq_true_eq,decide_eq_false_iff_not,bne_iff_ne,ne_eq,bne_eq_false_iff_eq,Bool.false_eq_true,false_iff,true_iff] at *; omega)
def vR (n w:Int):Bool:=(decide (w=1) || decide (w=2) || decide (w=4)) && me n w
def Ec (n w:Int):Prop:=(w=1/\-128<=n/\n<=127)\/(w=2/\-32768<=n/\n<=32767)\/w=4
def H3 (n w:Int):vR n w=true↔Ec n w:=by
 unfold vR me Ec
 by_cases h1:w=1
 ·subst h1; simp
 ·by_cases h2:w=2
  ·subst h2; simp
  ·by_cases h4:w=4
   ·subst h4; simp
   ·simp [h1,h2,h4]
def TT (n w:Int):vR n w=false↔¬ Ec n w:=by
 rw [<- H3]
 simp
def bq {i:Ins} (h0:cS i.op≠0) (G:cJ (cS i.op) i.a i.b i.n=true) (P:Prop) (J:P↔((cS i.op=12\/cS i.op=13->Ec i.n i.form)/\(cS i.op≠12/\cS i.op≠13->i.form=0)/\(cS i.op=8->-128<=i.n/\i.n<=127)/\(cS i.op=9->0<=i.n/\i.n<=255)/\(cS i.op=11->0<=i.n/\i.n<=4095) /\
  (cS i.op<7->i.n=0))):(P->gI i=0)/\(¬ P->gI i=13):=by
 obtain ⟨op,a,b,n,form⟩:=i;simp only at *;have hc:=ik op;have key:(!oJ op && decide (form≠0) || !nR (cS op) n form)=true↔¬ P:=by
  rw [J];unfold oJ nR me Ec
  have:cS op=1\/cS op=2\/cS op=3\/cS op=4\/cS op=5\/cS op=6\/cS op=7\/cS op=8\/cS op=9\/cS op=10\/cS op=11\/cS op=12\/cS op=13:=ad
  rcases this with h | h | h | h | h | h | h | h | h | h | h | h | h <;> rw [h]
  all_goals (
   by_cases f1:form=1
   ·subst f1; simp; try omega
   ·by_cases f2:form=2
    ·subst f2; simp; try omega
    ·by_cases f4:form=4
     ·subst f4; simp; try omega
     ·by_cases u:form=0
      ·subst u; simp; try omega
      ·simp [f1,f2,f4,u])
 unfold gI;simp only;rw [Y2 h0,G,Y2 aj];refine ⟨fun j=>?_,fun j=>?_⟩
 ·rw [Y2 (fun e=>key.1 e j)]
 ·rw [Y8 (key.2 j)]
def Ks (h:Hp) (op a b n form:Int) (V:Sm op):HC Tryz.prog 124 #[dm op a b n form] h fun w h'=>w=.int .i64 (gI ⟨op,a,b,n,form⟩)/\Ext h h':=by
 refine bd (args:=[dm op a b n form]) mixed Tryz.func124 ax (nC op a b n form) ?_;unfold j3 aY cH;refine bm ?_;intro h1 b1 e1 z1;refine af b1 (op,()) rfl (an ?_);refine aJ (qP h1 op V) ?_;rintro _ h2 ⟨rfl,e2⟩;refine ⟨(((cS op:Nat):Int),()),rfl,an ?_⟩;have X:=b1.ak e2 aj;have G:=e1.trans e2;refine av (fun q=>?_) (fun q=>?_)
 ·have q:cS op=0:=Fh q;exact ⟨by unfold gI; simp only; rw [Y8 q],G⟩
 have q:¬ cS op=0:=Fz q;refine af X (op,a,b,n,form,()) rfl (an ?_);refine gY (Kr h2 op a b n form V q) ?_;intro h3 Y;have Z:=X.ak Y aj;have j:=G.trans Y;refine av (fun r=>?_) (fun r=>?_)
 ·have r:cJ (cS op) a b n=false:=by simpa using r
  exact ⟨by unfold gI; simp only; rw [Y2 q,r,Y8 rfl],j⟩
 have r:cJ (cS op) a b n=true:=by simpa using r
 have hc:=ik op;obtain ⟨O,u⟩:=bq (i:=⟨op,a,b,n,form⟩) q r _ Iff.rfl;simp only at O u;generalize gI ⟨op,a,b,n,form⟩=C at *;generalize cS op=s at *;clear r;have f0:((s=12\/s=13->Ec n form)/\(s≠12/\s≠13->form=0)/\(s=8->-128<=n/\n<=127)/\(s=9->0<=n/\n<=255)/\(s=11->0<=n/\n<=4095)/\(s<7->n=0))->(T.ret (.int .i64 (0:Int))) [] (fun w h'=>w=.int .i64 C/\Ext h h') h3:=fun U=>⟨by rw [O U],j⟩
 have J:¬ ((s=12\/s=13->Ec n form)/\(s≠12/\s≠13->form=0)/\(s=8->-128<=n/\n<=127)/\(s=9->0<=n/\n<=255)/\(s=11->0<=n/\n<=4095)/\(s<7->n=0))->(T.ret (.int .i64 (13:Int))) [] (fun w h'=>w=.int .i64 C/\Ext h h') h3:=fun U=>⟨by rw [u U],j⟩
 clear O u;simp only [aE]
 repeat' (first
  | (refine af Z (n,()) rfl ?_; refine an ?_)
  | (refine af Z (form,()) rfl ?_; refine an ?_)
  | refine f0 ?_
  | refine J ?_
  | refine aK (b:=vR n form) (Qr h3 n form) ?_
  | refine av (fun q=>?_) (fun q=>?_))
 all_goals (
  clear f0 J;simp only [decide_eq_true_eq,decide_eq_false_iff_not,bne_iff_ne,ne_eq,bne_eq_false_iff_eq,beq_iff_eq,beq_eq_false_iff_ne,Bool.not_eq_true',Bool.not_eq_false',H3,TT,Ec] at *;omega)
def nG (x:cE) (b1 j u G:Bool):Bool:=(!b1 || z1 x) && ((!j || z2 x) && ((!u || z3 x) && (!G || z4 x)))
def Ul (s:Xaa):(ByteArray.toList s==([]:List UInt8))=decide (s=dH):=by
 have:=qv s dH
 rw [show ByteArray.toList dH=[] by rw [ByteArray.toList_eq]; rfl] at this;exact this
def PH (n:Nat) (m:Nat) (i:Ins) (h:Hp) (K:Xab->Hp->Prop) (hk:K (.bool (decide (i=Rs))) h) :
  aS Tryz.prog (Sx.jv (BinOp.eql) 65 (Operand.tmp n) (Operand.tmp m) (.agg #[.int .i64 i.op,.int .i64 i.a,.int .i64 i.b,.int .i32 i.n,.int .i64 i.form]) (.agg #[.int .i64 (0:Int),.int .i64 (0:Int),.int .i64 (0:Int),.int .i32 (0:Int),.int .i64 (0:Int)])) h K :=
 Qd _ _ i Rs h K hk
def P6 {h:Hp} {x:cE} {p:Xac} {l c:Nat} (v:gW h p l x.e.ai) (b1 j u G:Bool) :
  HC Tryz.prog 122 #[vB p l c x,.bool b1,.bool j,.bool u,.bool G] h fun w h'=>w=.bool (nG x b1 j u G)/\Ext h h':=by
 refine bd (args:=[vB p l c x,.bool b1,.bool j,.bool u,.bool G]) mixed Tryz.func122 ax (pA x.kind x.name x.inst.op x.inst.a x.inst.b x.inst.n x.inst.form p l c x.e.num x.n b1 j u G) ?_;unfold kK dN aG bI dP;have hl:=v.len;have J:O3 x.e=(decide (l=0) && decide (x.e.num=0)):=by
  unfold O3
  congr 1
  rw [hl]
  simp
 refine bm ?_;intro h1 bx e1 O;have bx:bF h1 h.size 71 (encI p l c x):=bx;simp only [aE];unfold nG z1 z2 z3 z4;rw [J]
 repeat' (first
  | (refine af bx (x.n,()) rfl ?_; refine an ?_)
  | (refine af bx (x.name,()) rfl ?_; refine an ?_)
  | (refine af bx ((p,l,c),()) rfl ?_; refine an ?_)
  | (refine af bx ((x.e.num:Int),()) rfl ?_; refine an ?_)
  | (refine af bx (x.inst.op,x.inst.a,x.inst.b,x.inst.n,x.inst.form,()) rfl ?_; refine an ?_)
  | refine nX (fun K' U=>PH _ _ x.inst h1 K' U) ?_
  | refine ⟨Zl Value.bool ?_,e1⟩
  | refine av (fun q=>?_) (fun q=>?_))
 all_goals (
  try simp only [Ul] at *
  simp_all [db])
 all_goals omega
def RS (g:Nat) (b1 X Y Z:Bool) (k:Bool->T):T :=
 T.ah ⟨g,0,none⟩ [.int .i64,.string,.int .i64,.int .i64,.int .i64,.int .i32,.int .i64,.slice 117,.int .u32,.int .i64] <| fun (n5:Int) (s6:Xaa) (n7:Int) (n8:Int) (n9:Int) (j:Int) (u:Int) (G:Xac) (J:Nat) (O:Nat) (U:Int) (V:Int) =>
  bK 122 [.agg #[.int .i64 n5,.string s6,.int .i64 n7,.int .i64 n8,.int .i64 n9,.int .i32 j,.int .i64 u,.slice G J O,aG U,.int .i64 V],.bool b1,.bool X,.bool Y,.bool Z] false [cn] k
def gT {L:Lp} {K:Xab->Hp->Prop} {h:Hp} {g:Nat} {x:cE} {p:Xac} {l c:Nat} {b1 j u G:Bool} {k:Bool->T} (bx:bF h g 71 (encI p l c x)) (v:gW h p l x.e.ai) (hk:∀ h',Ext h h'->k (nG x b1 j u G) L K h'):RS g b1 j u G k L K h:=by
 unfold RS bK aG cn;refine af bx (x.kind,x.name,x.inst.op,x.inst.a,x.inst.b,x.inst.n,x.inst.form,(p,l,c),(x.e.num:Int),x.n,()) rfl (an ?_);exact gY (P6 v b1 j u G) hk
def Cj (h:Hp) (n:Int):we Tryz.prog 126 [.int .i64 n] h (.bool (um n)):=by
 refine eC mixed Tryz.func126 ax (oC n) ?_;unfold j2 bt bI dP aR cn;refine aX (cs:=[(false,[.bool]),(false,[.int .i64])]) (fun y m h'=>∃ k:Nat,y=(false,((2^k:Nat):Int),())/\m=9-k/\k<=9/\h'=h/\(∀ j,j<k->¬ n=((2^j:Nat):Int))) (false,(1:Int),()) 9 rfl
  ⟨0,rfl,rfl,ad,rfl,fun j u=>ad⟩ ?_
 rintro ⟨b1,n2,⟨⟩⟩ m h1 ⟨k,hy,hm,hk,rfl,u⟩;cases hy;refine an ?_;refine aQ (fun q=>?_) (fun q=>?_)
 ·have G:k<=8:=by
   by_cases g:k=9
   ·subst g;exact absurd q bZ
   ·omega
  refine av (fun r=>?_) (fun r=>?_)
  ·have r:n=((2^k:Nat):Int):=by simpa using r
   refine ⟨?_,rfl⟩
   have:k=0\/k=1\/k=2\/k=3\/k=4\/k=5\/k=6\/k=7\/k=8:=ad
   rcases this with rfl | rfl | rfl | rfl | rfl | rfl | rfl | rfl | rfl <;> (rw [r]; rfl)
  ·have r:¬ n=((2^k:Nat):Int):=by simpa using r
   have O:2^k<=2^8:=Nat.pow_le_pow_right ad G;have U:((2^k:Nat):Int)<=256:=by exact_mod_cast O
   have V:(0:Int)<=((2^k:Nat):Int):=Int.natCast_nonneg _;rw [wrap_i64 ad ad];have h2:(2:Int)*((2^k:Nat):Int)=((2^(k+1):Nat):Int):=by rw [Nat.pow_succ]; omega
   rw [h2];refine aH (cs:=[(false,[.bool]),(false,[.int .i64])]) (false,((2^(k+1):Nat):Int),()) (9-(k+1)) rfl ad rfl ⟨k+1,rfl,rfl,ad,rfl,fun j X=>?_⟩
   by_cases g:j=k
   ·subst g; exact r
   ·exact u j ad
 ·have J:k=9:=by
   by_cases g:k=9
   ·exact g
   ·have O:2^k<=2^8:=Nat.pow_le_pow_right ad ad;omega
  subst J;refine ⟨?_,rfl⟩;have a0:=u 0 ad;have Y:=u 1 ad;have a2:=u 2 ad;have a3:=u 3 ad;have a4:=u 4 ad;have a5:=u 5 ad;have Z:=u 6 ad;have a7:=u 7 ad;have a8:=u 8 ad;unfold um;simp only [Nat.reducePow] at a0 Y a2 a3 a4 a5 Z a7 a8;rw [Y7 ad,Y7 ad,Y7 ad,Y7 ad,Y7 ad,Y7 ad,Y7 ad,Y7 ad,Y7 ad] <;> rfl
def Lj {h:Hp} {x:cE} {p:Xac} {l c:Nat} (v:iT h p l x):HC Tryz.prog 96 #[vB p l c x,.int .i64 (0:Int)] h fun w h'=>w=Dy (cB x 0)/\Ext h h':=by
 refine bd (args:=[vB p l c x,.int .i64 (0:Int)]) mixed Tryz.func96 ax (lX x.kind x.name x.inst.op x.inst.a x.inst.b x.inst.n x.inst.form p l c x.e.num x.n) ?_;unfold iq aY cH aG cn;have hml:maxLen=9223372036854775807:=rfl;refine bm ?_;intro h1 b1 e1 z1';have b1:bF h1 h.size 71 (encI p l c x):=b1;have v1:=v.ak e1;simp only [aE];refine iF (cs:=[(false,[.bool])]) (fun y h'=>y.1=cB x 0/\Ext h h') ?_ ?_
 rotate_left
 ·rintro ⟨b2,⟨⟩⟩ h' ⟨hy,e'⟩;simp only at hy;subst hy;refine an ?_;cases hr:cB x 0
  ·exact ⟨rfl,e'⟩
  ·exact ⟨rfl,e'⟩
 have fin:∀ (b:Bool) (h':Hp),b=cB x 0->Ext h h'->T.again 0 [.bool b] [fun vs h'=>∃ y:qt (flat [(false,[.bool])]),vs=parts [(false,[.bool])] (ef _ y)/\(y.1=cB x 0/\Ext h h')] (fun w h'=>w=Dy (cB x 0)/\Ext h h') h':=by
  rintro b h' rfl e';exact dM (cs:=[(false,[.bool])]) (J:=fun y h'=>y.1=cB x 0/\Ext h h') (cB x 0,()) rfl rfl ⟨rfl,e'⟩
 refine af b1 (x.kind,()) rfl (an ?_)
 by_cases O:x.kind=1
 ·refine bC (by rw [O]; rfl) ?_;have hit:cB x 0=(cX x.name.data.toList && z2 x && z3 x && z4 x):=by unfold cB; rw [Y8 O]
  refine af b1 (x.name,()) rfl (an ?_);refine aK (r6 x.name h1 (by have:=v.name; omega)) ?_;refine av (fun q=>?_) (fun q=>fin _ _ (by rw [hit,q]; rfl) e1);refine gT b1 v1.lin.vw ?_;intro h2 e2;exact fin _ _ (by rw [hit,q]; unfold nG; simp [Bool.and_assoc]) (e1.trans e2)
 refine bP (by simpa using O) ?_
 by_cases V:x.kind=2
 ·refine bC (by rw [V]; rfl) ?_;have hit:cB x 0=(zi x.inst x.e && z1 x && z4 x):=by unfold cB; rw [Y2 O,Y8 V]; simp
  refine af b1 (x.inst.op,x.inst.a,x.inst.b,x.inst.n,x.inst.form,()) rfl (an ?_);refine bm ?_;intro h2 b2 e2 z2';refine ar b2 rfl aj ?_;intro h3 b3 U z3';have b3:bF h3 h1.size 65 (ot x.inst):=b3;have X:Ext h1 h3:=e2.st U (Zh _);have b13:=b1.ak X aj;rw [aE];refine af b3 (x.inst.form,()) rfl (an ?_);refine iF (cs:=[]) (fun _ h'=>bF h' h1.size 65 (ot { x.inst with form:=if oJ x.inst.op then 1 else x.inst.form })/\Ext h1 h') ?_ ?_
  ·refine af b3 (x.inst.op,()) rfl (an ?_);refine gY (Cd h3 x.inst.op v.op) ?_;intro h4 e4;have b4:=b3.ak e4 aj;refine av (fun q=>?_) (fun q=>?_)
   ·refine ar b4 rfl (by simp [ot]) ?_;intro h5 b5 Z z5;exact dM (cs:=[]) () rfl rfl ⟨by rw [Y8 q]; exact b5,(X.trans e4).st Z (by have:=X.size; omega)⟩
   ·exact dM (cs:=[]) () rfl rfl ⟨by rw [Y2 (by rw [q]; decide)]; exact b4,X.trans e4⟩
  rintro _ h5 ⟨b5,e5⟩;refine an ?_;have b15:=b1.ak e5 aj;have v5:=v1.ak e5;refine iF (cs:=[(false,[.bool])]) (fun y h'=>y.1=(decide (x.inst.form=0) && decide (gI { x.inst with form:=if oJ x.inst.op then 1 else x.inst.form }=0) && (z1 x && z4 x))/\Ext h5 h') ?_ ?_
  ·refine av (fun q=>?_) (fun q=>?_)
   ·have q:x.inst.form=0:=by simpa using q
    refine af b5 (x.inst.op,x.inst.a,x.inst.b,x.inst.n,((if oJ x.inst.op then (1:Int) else x.inst.form):Int),()) rfl (an ?_);refine aJ (Ks h5 x.inst.op x.inst.a x.inst.b x.inst.n (if oJ x.inst.op then 1 else x.inst.form) v.op) ?_;rintro _ h6 ⟨rfl,Y⟩;refine ⟨(gI { x.inst with form:=if oJ x.inst.op then 1 else x.inst.form },()),rfl,an ?_⟩;refine av (fun r=>?_) (fun r=>?_)
    ·have r:gI { x.inst with form:=if oJ x.inst.op then 1 else x.inst.form }=0:=by simpa using r
     refine gT (b15.ak Y aj) (v5.ak Y).lin.vw ?_;intro h7 e7;exact dM (cs:=[(false,[.bool])]) (nG x true false false true,()) rfl rfl ⟨by rw [Y6 q,Y6 r]; rfl,Y.trans e7⟩
    ·have r:¬ gI { x.inst with form:=if oJ x.inst.op then 1 else x.inst.form }=0:=by simpa using r
     exact dM (cs:=[(false,[.bool])]) (false,()) rfl rfl ⟨by rw [Y6 q,Y7 r]; rfl,Y⟩
   ·have q:¬ x.inst.form=0:=by simpa using q
    exact dM (cs:=[(false,[.bool])]) (false,()) rfl rfl ⟨by rw [Y7 q]; rfl,Ch.refl _ _⟩
  rintro ⟨b10,⟨⟩⟩ h6 ⟨hy,Y⟩;simp only at hy;subst hy;refine an ?_;have b6:=b5.ak Y aj;have b16:=b15.ak Y aj;have v6:=v5.ak Y;refine af b6 (x.inst.op,()) rfl (an ?_);refine gY (Jc h6 x.inst.op v.op) ?_;intro h7 e7;have b7:=b6.ak e7 aj;have b17:=b16.ak e7 aj;have v7:=v6.ak e7;have u:=((e1.trans e5).trans Y).trans e7;have j:F' x.inst.op=true->(decide (x.inst.form=0) && decide (gI { x.inst with form:=if oJ x.inst.op then 1 else x.inst.form }=0) && (z1 x && z4 x) && (decide (x.inst.n=0) && nz none x.e.ai))=cB x 0:=by
   intro hw;rw [hit];unfold zi;rw [Y8 hw]
   by_cases f0:x.inst.form=0
   ·rw [Y6 f0,f0]
    by_cases c0:gI { x.inst with form:=if oJ x.inst.op then 1 else 0 }=0
    ·have hs:=(Ef c0).1;simp only at hs;rw [Y6 c0,Y6 hs];simp only [Bool.true_and]
     ac_rfl
    ·rw [Y7 c0]
     simp
   ·rw [Y7 f0]
    simp
  have hchk2:F' x.inst.op=false->(decide (x.inst.form=0) && decide (gI { x.inst with form:=if oJ x.inst.op then 1 else x.inst.form }=0) && (z1 x && z4 x) && z3 x)=cB x 0:=by
   intro hw;rw [hit];unfold zi;rw [Y2 (show ¬ (F' x.inst.op=true) by rw [hw]; decide)];have hsp:oJ x.inst.op=false:=by
    unfold F' at hw;unfold oJ;rw [decide_eq_false_iff_not] at hw ⊢;omega
   rw [Y2 (show ¬ (oJ x.inst.op=true) by rw [hsp]; decide)]
   by_cases f0:x.inst.form=0
   ·rw [Y6 f0];have hi:({ x.inst with form:=x.inst.form }:Ins)=x.inst:=rfl;rw [hi]
    by_cases c0:gI x.inst=0
    ·have hs:=(Ef c0).1;rw [Y6 c0,Y6 hs];unfold z3;simp only [Bool.true_and]
     ac_rfl
    ·rw [Y7 c0]
     simp
   ·rw [Y7 f0]
    simp
  generalize (decide (x.inst.form=0) && decide (gI { x.inst with form:=if oJ x.inst.op then 1 else x.inst.form }=0) && (z1 x && z4 x))=G at *;refine av (fun hw=>?_) (fun hw=>?_)
  ·have j:=j hw;refine av (fun g=>?_) (fun g=>fin _ _ (by rw [<- j,g]; rfl) u);refine af b7 (x.inst.n,()) rfl (an ?_);refine av (fun r=>?_) (fun r=>?_)
   ·have r:x.inst.n=0:=by simpa using r
    refine af b17 ((p,l,c),(x.e.num:Int),()) rfl (an ?_);refine aJ (tG (c:=c) v7.lin.vw (by have:=v.lin.many; omega) v.lin.names) ?_;rintro _ h8 ⟨rfl,e8⟩;refine ⟨(nz none x.e.ai,()),rfl,?_⟩;exact fin _ _ (by rw [<- j,g,Y6 r]; simp) (u.trans e8)
   ·have r:¬ x.inst.n=0:=by simpa using r
    exact fin _ _ (by rw [<- j,Y7 r]; simp) u
  ·have j:=hchk2 hw;refine av (fun g=>?_) (fun g=>fin _ _ (by rw [<- j,g]; rfl) u);refine gT b17 v7.lin.vw ?_;intro h8 e8;exact fin _ _ (by rw [<- j,g]; unfold nG; simp) (u.trans e8)
 refine bP (by simpa using V) ?_
 by_cases U:x.kind=3
 ·refine bC (by rw [U]; rfl) ?_;have hit:cB x 0=(um x.n && z1 x && z2 x && z3 x):=by unfold cB; rw [Y2 O,Y2 V,Y8 U]
  refine af b1 (x.n,()) rfl (an ?_);refine aK (Cj h1 x.n) ?_;refine av (fun q=>?_) (fun q=>fin _ _ (by rw [hit,q]; rfl) e1);refine gT b1 v1.lin.vw ?_;intro h2 e2;exact fin _ _ (by rw [hit,q]; unfold nG; simp [Bool.and_assoc]) (e1.trans e2)
 refine bP (by simpa using U) ?_
 by_cases k4:x.kind=4
 ·refine bC (by rw [k4]; rfl) ?_;have hit:cB x 0=(z1 x && z2 x && z3 x && z4 x):=by unfold cB; rw [Y2 O,Y2 V,Y2 U,Y8 k4]; simp
  refine gT b1 v1.lin.vw ?_;intro h2 e2;exact fin _ _ (by rw [hit]; unfold nG; simp [Bool.and_assoc]) (e1.trans e2)
 refine bP (by simpa using k4) ?_
 by_cases Z:x.kind=5
 ·refine bC (by rw [Z]; rfl) ?_;exact fin _ _ (by unfold cB; rw [Y2 O,Y2 V,Y2 U,Y2 k4,Y8 Z]; simp) e1
 refine bP (by simpa using Z) ?_
 by_cases k6:x.kind=6
 ·refine bC (by rw [k6]; rfl) ?_;exact fin _ _ (by unfold cB; rw [Y2 O,Y2 V,Y2 U,Y2 k4,Y2 Z,Y8 k6]; simp) e1
 refine bP (by simpa using k6) ?_
 by_cases k7:x.kind=7
 ·refine bC (by rw [k7]; rfl) ?_;exact fin _ _ (by unfold cB; rw [Y2 O,Y2 V,Y2 U,Y2 k4,Y2 Z,Y2 k6,Y8 k7]; simp) e1
 refine bP (by simpa using k7) ?_;exact fin _ _ (by unfold cB; rw [Y2 O,Y2 V,Y2 U,Y2 k4,Y2 Z,Y2 k6,Y2 k7]) e1
def ND {h:Hp} {x:cE} {p:Xac} {l c:Nat} (v:iT h p l x):HC Tryz.prog 96 #[vB p l c x,.int .i64 (1:Int)] h fun w h'=>w=Dy (cB x 1)/\Ext h h':=by
 refine bd (args:=[vB p l c x,.int .i64 (1:Int)]) mixed Tryz.func96 ax (ln x.kind x.name x.inst.op x.inst.a x.inst.b x.inst.n x.inst.form p l c x.e.num x.n) ?_;unfold ir aY aG cn;have hml:maxLen=9223372036854775807:=rfl;refine bm ?_;intro h1 b1 e1 z1';have b1:bF h1 h.size 71 (encI p l c x):=b1;have V:=v.ak e1;simp only [aE];refine iF (cs:=[(false,[.bool])]) (fun y h'=>y.1=cB x 1/\Ext h h') ?_ ?_
 rotate_left
 ·rintro ⟨b2,⟨⟩⟩ h' ⟨hy,e'⟩;simp only at hy;subst hy;refine an ?_;cases hr:cB x 1
  ·exact ⟨rfl,e'⟩
  ·exact ⟨rfl,e'⟩
 have fin:∀ (b:Bool) (h':Hp),b=cB x 1->Ext h h'->T.again 0 [.bool b] [fun vs h'=>∃ y:qt (flat [(false,[.bool])]),vs=parts [(false,[.bool])] (ef _ y)/\(y.1=cB x 1/\Ext h h')] (fun w h'=>w=Dy (cB x 1)/\Ext h h') h':=by
  rintro b h' rfl e';exact dM (cs:=[(false,[.bool])]) (J:=fun y h'=>y.1=cB x 1/\Ext h h') (cB x 1,()) rfl rfl ⟨rfl,e'⟩
 refine af b1 (x.kind,()) rfl (an ?_)
 by_cases j:x.kind=1
 ·refine bC (by rw [j]; rfl) ?_;have hit:cB x 1=(cX x.name.data.toList && z2 x && z3 x && z4 x):=by unfold cB; rw [Y8 j]
  refine af b1 (x.name,()) rfl (an ?_);refine aK (r6 x.name h1 (by have:=v.name; omega)) ?_;refine av (fun q=>?_) (fun q=>fin _ _ (by rw [hit,q]; rfl) e1);refine gT b1 V.lin.vw ?_;intro h2 e2;exact fin _ _ (by rw [hit,q]; unfold nG; simp [Bool.and_assoc]) (e1.trans e2)
 refine bP (by simpa using j) ?_
 by_cases G:x.kind=2
 ·refine bC (by rw [G]; rfl) ?_;have hit:cB x 1=(false):=by unfold cB; rw [Y2 j,Y8 G]; simp
  refine af b1 (x.inst.op,x.inst.a,x.inst.b,x.inst.n,x.inst.form,()) rfl (an ?_);refine bm ?_;intro h2 b2 e2 z2';refine ar b2 rfl aj ?_;intro h3 Y u z3';have Y:bF h3 h1.size 65 (ot x.inst):=Y;have O:Ext h1 h3:=e2.st u (Zh _);have b13:=b1.ak O aj;rw [aE];refine af Y (x.inst.form,()) rfl (an ?_);refine iF (cs:=[]) (fun _ h'=>bF h' h1.size 65 (ot { x.inst with form:=if oJ x.inst.op then 1 else x.inst.form })/\Ext h1 h') ?_ ?_
  ·refine af Y (x.inst.op,()) rfl (an ?_);refine gY (Cd h3 x.inst.op v.op) ?_;intro h4 e4;have b4:=Y.ak e4 aj;refine av (fun q=>?_) (fun q=>?_)
   ·refine ar b4 rfl (by simp [ot]) ?_;intro h5 b5 U z5;exact dM (cs:=[]) () rfl rfl ⟨by rw [Y8 q]; exact b5,(O.trans e4).st U (by have:=O.size; omega)⟩
   ·exact dM (cs:=[]) () rfl rfl ⟨by rw [Y2 (by rw [q]; decide)]; exact b4,O.trans e4⟩
  rintro _ h5 ⟨b5,e5⟩;refine an ?_;have b15:=b1.ak e5 aj;have v5:=V.ak e5;refine iF (cs:=[(false,[.bool])]) (fun y h'=>y.1=false/\Ext h5 h') (dM (cs:=[(false,[.bool])]) (false,()) rfl rfl ⟨rfl,Ch.refl _ _⟩) ?_;rintro ⟨b10,⟨⟩⟩ h6 ⟨hy,e6⟩;simp only at hy;subst hy;refine an ?_;have b6:=b5.ak e6 aj;have b16:=b15.ak e6 aj;have v6:=v5.ak e6;refine af b6 (x.inst.op,()) rfl (an ?_);refine gY (Jc h6 x.inst.op v.op) ?_;intro h7 e7;have b7:=b6.ak e7 aj;have b17:=b16.ak e7 aj;have v7:=v6.ak e7;have Z:=((e1.trans e5).trans e6).trans e7;refine av (fun hw=>?_) (fun hw=>?_)
  ·exact bP rfl (fin _ _ (by rw [hit]) Z)
  ·exact bP rfl (fin _ _ (by rw [hit]) Z)
 refine bP (by simpa using G) ?_
 by_cases u:x.kind=3
 ·refine bC (by rw [u]; rfl) ?_;have hit:cB x 1=(um x.n && z1 x && z2 x && z3 x):=by unfold cB; rw [Y2 j,Y2 G,Y8 u]
  refine af b1 (x.n,()) rfl (an ?_);refine aK (Cj h1 x.n) ?_;refine av (fun q=>?_) (fun q=>fin _ _ (by rw [hit,q]; rfl) e1);refine gT b1 V.lin.vw ?_;intro h2 e2;exact fin _ _ (by rw [hit,q]; unfold nG; simp [Bool.and_assoc]) (e1.trans e2)
 refine bP (by simpa using u) ?_
 by_cases X:x.kind=4
 ·refine bC (by rw [X]; rfl) ?_;exact fin _ _ (by unfold cB; rw [Y2 j,Y2 G,Y2 u,Y8 X]; simp) e1
 refine bP (by simpa using X) ?_
 by_cases U:x.kind=5
 ·refine bC (by rw [U]; rfl) ?_;have hit:cB x 1=(decide (-128<=x.n) && decide (x.n<=255) && z1 x && z2 x && z3 x):=by unfold cB; rw [Y2 j,Y2 G,Y2 u,Y2 X,Y8 U]; simp
  refine af b1 (x.n,()) rfl (an ?_);refine av (fun q=>?_) (fun q=>fin _ _ (by rw [hit,show decide (-128<=x.n)=false from q]; rfl) e1);refine af b1 (x.n,()) rfl (an ?_);refine av (fun r=>?_) (fun r=>fin _ _ (by rw [hit,r]; simp) e1);refine gT b1 V.lin.vw ?_;intro h2 e2;exact fin _ _ (by rw [hit,r,show decide (-128<=x.n)=true from q]; unfold nG; simp [Bool.and_assoc]) (e1.trans e2)
 refine bP (by simpa using U) ?_
 by_cases k6:x.kind=6
 ·refine bC (by rw [k6]; rfl) ?_;have hit:cB x 1=(nz none x.e.ai && z1 x && z2 x && z4 x):=by unfold cB; rw [Y2 j,Y2 G,Y2 u,Y2 X,Y2 U,Y8 k6]; simp
  refine af b1 ((p,l,c),(x.e.num:Int),()) rfl (an ?_);refine aJ (tG (c:=c) V.lin.vw (by have:=v.lin.many; omega) v.lin.names) ?_;rintro _ h2 ⟨rfl,e2⟩;refine ⟨(nz none x.e.ai,()),rfl,an ?_⟩;refine av (fun q=>?_) (fun q=>fin _ _ (by rw [hit,q]; rfl) (e1.trans e2));refine gT (b1.ak e2 aj) (V.ak e2).lin.vw ?_;intro h3 e3;exact fin _ _ (by rw [hit,q]; unfold nG; simp [Bool.and_assoc]) ((e1.trans e2).trans e3)
 refine bP (by simpa using k6) ?_
 by_cases k7:x.kind=7
 ·refine bC (by rw [k7]; rfl) ?_;have hit:cB x 1=(decide (0<=x.n) && decide (x.n<=1048576) && z1 x && z2 x && z3 x):=by unfold cB; rw [Y2 j,Y2 G,Y2 u,Y2 X,Y2 U,Y2 k6,Y8 k7]; simp
  refine af b1 (x.n,()) rfl (an ?_);refine av (fun q=>?_) (fun q=>fin _ _ (by rw [hit,show decide (0<=x.n)=false from q]; rfl) e1);refine af b1 (x.n,()) rfl (an ?_);refine av (fun r=>?_) (fun r=>fin _ _ (by rw [hit,r]; simp) e1);refine gT b1 V.lin.vw ?_;intro h2 e2;exact fin _ _ (by rw [hit,r,show decide (0<=x.n)=true from q]; unfold nG; simp [Bool.and_assoc]) (e1.trans e2)
 refine bP (by simpa using k7) ?_;exact fin _ _ (by unfold cB; rw [Y2 j,Y2 G,Y2 u,Y2 X,Y2 U,Y2 k6,Y2 k7]) e1
def B2 {h:Hp} {x:cE} {p:Xac} {l c k:Nat} (v:iT h p l x) (hk:k<2):HC Tryz.prog 96 #[vB p l c x,.int .i64 (k:Int)] h fun w h'=>w=Dy (cB x k)/\Ext h h':=by
 have:k=0\/k=1:=ad
 rcases this with rfl | rfl
 ·exact Lj v
 ·exact ND v
def Vy (s:Xaa):List Xab:=[.string s]
abbrev SN (h:Hp) (b:Nat) (p:Xac) (l c:Nat) (xs:List Xaa):Prop:=SL h b 9 1 p l c (xs.map Vy)
def SN.len {h:Hp} {b:Nat} {p:Xac} {l c:Nat} {xs:List Xaa} (s:SN h b p l c xs):l=xs.length:=by
 have:=s.1
 rwa [Y0] at this
def SN.cell {h:Hp} {b:Nat} {p:Xac} {l c:Nat} {xs:List Xaa} (s:SN h b p l c xs) {i:Nat} (hi:i<xs.length):∃ a,p=some a/\aI h (a.add (i*1)) 0 [.string xs[i]]:=by
 obtain ⟨a,j,hc⟩:=SL.cells s (i:=i) (by rw [Y0]; exact hi);refine ⟨a,j,?_⟩;rw [Zb] at hc;exact hc
def WL (D:List Xaa) (s:Xaa) (i:Nat) (hi:i<D.length):fZ (D.take (i+1)) s=(fZ (D.take i) s || decide (D[i]=s)):=by
 unfold fZ;rw [Y3 hi,cq9]
 simp
def CY {h:Hp} {b:Nat} {p:Xac} {l c:Nat} {xs:List Xaa} (v:SN h b p l c xs) (hl:xs.length<=2^61) (s:Xaa):we Tryz.prog 57 [.slice p l c,.string s] h (.bool (fZ xs s)):=by
 refine eC mixed Tryz.func57 ax (jl p l c s) ?_;unfold gZ bf bk bH aP bI dP aR cn;have n:=SN.len v;refine aX (cs:=[(false,[.bool]),(false,[.int .i64])]) (fun y m h'=>∃ i:Nat,y.2.1=(i:Int)/\m=xs.length-i/\i<=xs.length/\h'=h/\fZ (xs.take i) s=false) (false,(0:Int),()) xs.length rfl
  ⟨0,rfl,rfl,ad,rfl,rfl⟩ ?_
 rintro ⟨u,O,⟨⟩⟩ m h' ⟨i,hi,rfl,G,rfl,hn⟩;simp only at hi;subst hi;refine an ?_;refine aQ (fun q=>?_) (fun q=>?_)
 ·have j:i<xs.length:=ad
  obtain ⟨a,J,hc⟩:=SN.cell v j;refine ay ⟨ad,ad⟩ (aw J ?_);rw [show Int.toNat (i:Int)=i from ad];refine az (xs[i],()) hc (an ?_);have hs:=WL xs s i j;rw [qv];refine av (fun r=>?_) (fun r=>?_)
  ·have r:=Y5 r;refine ⟨Zl Value.bool ?_,rfl⟩;unfold fZ;exact (as9.2 ⟨_,Y9 j,Y6 r⟩).symm
  ·rw [hn,r] at hs;refine aH (cs:=[(false,[.bool]),(false,[.int .i64])]) (u,((i+1:Nat):Int),()) (xs.length-(i+1)) rfl ad (by rw [wrap_i64 ad ad]; rfl) ?_;exact ⟨i+1,rfl,rfl,ad,rfl,hs⟩
 ·have:i=xs.length:=ad
  subst this;rw [ZA] at hn;exact ⟨by rw [hn],rfl⟩
def dX (l:List cE):List Xaa:=(l.filter fun x=>decide (x.kind=1)).map (·.name)
def wA (l:List cE) (i:Nat) (hi:i<l.length):dX (l.take (i+1))=dX (l.take i)++if l[i].kind=1 then [l[i].name] else []:=by
 unfold dX;rw [Y3 hi,List.filter_append,Ze]
 congr 1
 by_cases hk:l[i].kind=1 <;> simp [hk]
def SN.push {L:Lp} {K:Xab->Hp->Prop} {h:Hp} {b:Nat} {p:Xac} {l c:Nat} {xs:List Xaa} (v:SN h b p l c xs) (x:Xaa) (hl:xs.length<=2^40) (hb:b<=h.size) {k:Xac->Nat->Nat->T}
  (hk:∀ p' c' h',SN h' b p' (l+1) c' (xs++[x])->Ch (aM p) h h'->k p' (l+1) c' L K h') :
  T.eh Tryz.prog (Instr.buildSlice 45 1 #[(0,.string x)]) false [(false,[.slice 0])] (fun q m cc=>T.eh Tryz.prog (Builtin.append_ #[45,45] 45 #[.slice p l c,.slice q m cc]) false [(false,[.slice 0])] k) L K h:=by
 have n:=SN.len v;refine mz (vs:=[.string x]) H5 Vr rfl ad ad ax rfl rfl v hb ad ad ?_;intro p' c' h' s' ch _;refine hk p' c' h' ?_ ch;unfold SN;rw [Ze];exact s'
def SN.ext {h a b':Hp} {b:Nat} {p:Xac} {l c:Nat} {xs:List Xaa} (e:Ext h a) (v:SN a b p l c xs) (hb:h.size<=b) (k:Ch (aM p) a b'):Ext h b' :=
 Ch.trans e k (fun i hi hl=>by have:=(Ob.SL.cr v i hi).1; omega)
def sA {h:Hp} {p:Xac} {l c:Nat} {us:List cE} (v:Dr h p l us) (hm:us.length<=2^20) :
  HC Tryz.prog 127 #[.slice p l c] h fun w h'=>∃ p' l' c',w=.slice p' l' c'/\SN h' h.size p' l' c' (dX us)/\Ext h h':=by
 refine bd (args:=[.slice p l c]) mixed Tryz.func127 ax (mV p l c) ?_;unfold js bf bk bH aP br bj aR dh;have n:=v.len;refine aX (cs:=[(false,[.slice 0]),(false,[.int .i64])]) (fun y m h'=>∃ i:Nat,y.2.1=(i:Int)/\m=us.length-i/\i<=us.length/\Ext h h'/\(dX (us.take i)).length<=i/\SN h' h.size y.1.1 y.1.2.1 y.1.2.2 (dX (us.take i))) ((none,0,0),(0:Int),()) us.length rfl
  ⟨0,rfl,rfl,ad,Ch.refl _ _,by simp [dX],SL.nil _ _ _ _⟩ ?_
 rintro ⟨⟨p1,G,J⟩,Z,⟨⟩⟩ m h1 ⟨i,hi,rfl,O,e1,U,s⟩;simp only at hi s;subst hi;refine an ?_;have hz:=e1.size;refine aQ (fun q=>?_) (fun q=>?_)
 ·have u:i<us.length:=ad
  obtain ⟨aa,pp,ll,cc,rfl',hc,V⟩:=(v.ak e1).cells i u;have j:=wA us i u;generalize us[i]=x at hc V j;refine ay ⟨ad,ad⟩ (aw rfl' ?_);rw [show Int.toNat (i:Int)=i from ad];refine az (x.kind,()) ⟨hc.1,trivial⟩ (an ?_);refine av (fun r=>?_) (fun r=>?_)
  ·have r:x.kind=1:=by simpa using r
   rw [Y8 r] at j;refine ay ⟨ad,ad⟩ (aw rfl' ?_);refine az (x.name,()) ⟨by rw [add_add]; exact hc.2.1,trivial⟩ ?_;refine an ?_;refine SN.push s x.name ad ad ?_;intro p' c' h2 X Y;refine aH (cs:=[(false,[.slice 0]),(false,[.int .i64])]) ((p',G+1,c'),((i+1:Nat):Int),()) (us.length-(i+1)) rfl ad (by rw [wrap_i64 ad ad]; rfl) ?_;exact ⟨i+1,rfl,rfl,ad,SN.ext e1 s (Zh _) Y,by rw [j,Y4]; simp; omega,by rw [j]; exact X⟩
  ·have r:¬ x.kind=1:=by simpa using r
   rw [Y2 r,ZQ] at j;refine aH (cs:=[(false,[.slice 0]),(false,[.int .i64])]) ((p1,G,J),((i+1:Nat):Int),()) (us.length-(i+1)) rfl ad (by rw [wrap_i64 ad ad]; rfl) ?_;exact ⟨i+1,rfl,rfl,ad,e1,by rw [j]; omega,by rw [j]; exact s⟩
 ·have:i=us.length:=ad
  subst this;rw [ZA] at s;exact ⟨p1,G,J,rfl,s,e1⟩
def Qt {L:Lp} {K:Xab->Hp->Prop} {h:Hp} {k:Xac->Nat->Nat->T} {b b':Nat} {p:Xac} {l c:Nat} {xs:List Xaa} (s:SN h b p l c xs) {q:Xac} {m d:Nat} {us:List Xaa} (v:SN h b' q m d us)
  (hl:l+m<=2^40) (hb:b<=h.size)
  (hk:∀ p' c' h',SN h' b p' (l+m) c' (xs++us)->Ch (aM p) h h'->k p' (l+m) c' L K h') :
  T.eh Tryz.prog (Builtin.append_ #[45,45] 45 #[.slice p l c,.slice q m d]) false [(false,[.slice 0])] k L K h:=by
 obtain ⟨i,hi,hz,j,O⟩:=oK Vr;refine dz ?_;cases q with
 | none =>
  have h1:us=[]:=by
   have:=v.2.2.2
   simpa using this
  have h0:m=0:=by have:=SN.len v; rw [h1] at this; exact this
  have hd:d=0:=v.2.2.1;subst h0 h1 hd;have U:l<=c:=by
   cases p with
   | none =>
    have h2:=s.2.2.2;have h3:=s.1;rw [h2] at h3;simp at h3;omega
   | some a =>
    obtain ⟨g,V,rest,rfl,X,G,_⟩:=s.2.2;exact G.1
  simp [Builtin.append_,ao,aF H5,cd hi,cI hi,Builtin.lenOf,Builtin.firstCells,U];have u:∃ p' l' c',Value.slice p l c=.slice p' l' c'/\k p' l' c' L K h:=⟨p,l,c,rfl,by simpa using hk p c h (by simpa using s) (Ch.refl _ _)⟩
  cases p with
  | none=>exact u
  | some a=>exact u
 | some a =>
  have hc:aI h a 0 (us.map Vy).flatten:=by
   obtain ⟨g,V,rest,rfl,X,G,J,hr⟩:=v.2.2;refine J.cells _ ?_;rw [bq9,bw9]
  have Y:(us.map Vy).flatten.all cO=true:=by
   rw [Zx];intro x hx;obtain ⟨y,hy,Z⟩:=by9.1 hx;obtain ⟨z,_,rfl⟩:=Za.1 hy;rw [Zi.1 Z] <;> rfl
  refine ox H5 hi hz (by rw [j]; rfl) (by rw [j]; exact s) (ys:=us.map Vy) (by rw [Y0]; exact SN.len v) (fun y hy=>?_) hc Y (by rw [O]; omega) ad hb ?_
  ·obtain ⟨t,_,rfl⟩:=Za.1 hy;rw [j] <;> rfl
  ·intro p' c' h' s' k' hp';rw [j,<- Ze] at s';exact ⟨_,_,_,rfl,hk p' c' h' s' k'⟩
def eN (u:bX):List Xaa:=dX u.text++dX u.data++u.bh.map (·.1)
def uK (l:List cE):(dX l).length<=l.length:=by
 unfold dX;rw [Y0];exact Z8 _ _
def M4 {h:Hp} {a b c d:cz} {u:bX} (v:oB h a b c d u) (h1:u.text.length<=2^20) (h2:u.data.length<=2^20) (h3:u.bh.length<=2^20) :
  HC Tryz.prog 98 #[CP a b c d] h fun w h'=>∃ p' l' c',w=.slice p' l' c'/\SN h' h.size p' l' c' (eN u)/\Ext h h':=by
 refine bd (args:=[CP a b c d]) mixed Tryz.func98 ax (qm a.p a.l a.c b.p b.l b.c c.p c.l c.c d.p d.l d.c) ?_;unfold lr bf bk bH aP bK br aR dh;refine bm ?_;intro g1 b1 e1 z1;have b1:bF g1 h.size 47 [a.v,b.v,c.v,d.v]:=b1;simp only [aE];refine af b1 ((a.p,a.l,a.c),()) rfl (an ?_);refine af b1 ((b.p,b.l,b.c),()) rfl (an ?_);refine aJ (sA (c:=a.c) (v.text.ak e1) h1) ?_;rintro _ g2 ⟨p8,V,l10,rfl,s8,e2⟩;refine ⟨((p8,V,l10),()),rfl,an ?_⟩;have b2:=b1.ak e2 aj;refine ⟨⟨b2.cells _ rfl,trivial⟩,?_⟩;refine aJ (sA (c:=b.c) (v.data.ak (e1.trans e2)) h2) ?_;rintro _ g3 ⟨X,l12,Y,rfl,J,O⟩;refine ⟨((X,l12,Y),()),rfl,an ?_⟩;have b3:=b2.ak O aj;have q1:=e1.size;have q2:=e2.size;have q3:=O.size;refine ⟨⟨b3.cells _ rfl,trivial⟩,?_⟩;have j:SN g3 g1.size p8 V l10 (dX u.text):=s8.ak O aj;have n8:=SN.len s8;have n11:=SN.len J;have k8:=uK u.text;have k11:=uK u.data;have Z:=(e1.trans e2).trans O;refine Qt j J ad ad ?_;intro p14 c14 g4 s14 k4;have e4:=SN.ext Z j ad k4;have nb:h.size∉aM p8:=fun hi=>by have:=(Ob.SL.cr j _ hi).1; omega
 have b4:=b3.ak k4 nb;refine ⟨⟨b4.cells _ rfl,b4.cells _ rfl,trivial⟩,?_⟩;have nc:=v.bh.len;have hu:∀ i,i<u.bh.length->dX u.text++dX u.data++(u.bh.take (i+1)).map (·.1)=(dX u.text++dX u.data++(u.bh.take i).map (·.1))++[(u.bh.getD i (dH,E6)).1]:=by
  intro i hi;rw [Y3 hi,Ze,<- Zr,ZV,Y1 hi] <;> rfl
 refine aX (cs:=[(false,[.slice 0]),(false,[.int .i64])]) (fun y m h'=>∃ i:Nat,y.2.1=(i:Int)/\m=u.bh.length-i/\i<=u.bh.length/\(Ext h h'/\g1.size<=h'.size)/\bF h' h.size 47 [a.v,b.v,c.v,d.v]/\SN h' g1.size y.1.1 y.1.2.1 y.1.2.2 (dX u.text++dX u.data++(u.bh.take i).map (·.1))) ((p14,V+l12,c14),(0:Int),()) u.bh.length rfl
  ⟨0,rfl,rfl,ad,⟨e4,by have:=k4.size; omega⟩,b4,by simpa using s14⟩ ?_
 rintro ⟨⟨p1,l2,l3⟩,n4,⟨⟩⟩ m g5 ⟨i,hi,rfl,hle,⟨U,z5⟩,b5,s⟩;simp only at hi s;subst hi;refine an ?_;have hz:=U.size;refine af b5 ((c.p,c.l,c.c),()) rfl (an ?_);refine aQ (fun q=>?_) (fun q=>?_)
 ·have G:i<u.bh.length:=ad
  refine af b5 ((c.p,c.l,c.c),()) rfl (an ?_);obtain ⟨aa,pp,ll,cc,rfl',hc,va,vn⟩:=(v.bh.ak U).cells i G;refine ay ⟨ad,ad⟩ (aw rfl' ?_);rw [show Int.toNat (i:Int)=i from ad];refine az (u.bh[i].1,()) ⟨hc.1,trivial⟩ (an ?_);have ns:=SN.len s;have hg:(u.bh.getD i (dH,E6)).1=u.bh[i].1:=by
   rw [ZV,Y1 G] <;> rfl
  refine SN.push s _ (by simp only [List.length_append,List.length_map,List.length_take]; omega) z5 ?_;intro p' c' h2 s2 k2;have nb2:h.size∉aM p1:=fun hi=>by have:=(Ob.SL.cr s _ hi).1; omega
  refine aH (cs:=[(false,[.slice 0]),(false,[.int .i64])]) ((p',l2+1,c'),((i+1:Nat):Int),()) (u.bh.length-(i+1)) rfl ad (by rw [wrap_i64 ad ad]; rfl) ?_;exact ⟨i+1,rfl,rfl,ad,⟨SN.ext U s ad k2,by have:=k2.size; omega⟩,b5.ak k2 nb2,by rw [hu i G,hg]; exact s2⟩
 ·have:i=u.bh.length:=ad
  subst this;rw [ZA] at s;exact ⟨p1,l2,l3,rfl,Sx.SL.mono s ad,U⟩
def SL.flat {h:Hp} {b:Nat} {e:TypeId} {sz:Nat} {a:Xax} {l c:Nat} {xs:List (List Xab)} (s:SL h b e sz (some a) l c xs):aI h a 0 xs.flatten:=by
 obtain ⟨g,u,rest,rfl,G,J,j,O⟩:=s.2.2;refine j.cells _ ?_;rw [bq9,bw9]
def fU (h:Hp):Prop:=∃ e f,h[1]?=some (.cells (Lib.pow10Tab.map fun z=>Value.int .u64 z).toArray e f)
def fU.ak {ws:List Nat} {h h':Hp} (p:fU h) (k:Ch ws h h') (hw:1∉ws):fU h':=by
 obtain ⟨e,f,j⟩:=p;exact ⟨e,f,k.get j hw⟩
def HQ {W:World} {name:String} (j:Tryz.prog.globalNamed name=some 1) (p:fU W.heap):Lib.TabIs Tryz.prog W name .u64 Lib.pow10Tab:=by
 obtain ⟨e,f,u⟩:=p;unfold Lib.TabIs World.var?;rw [j];show (match W.heap[1]? with | some (.cells cs _ _)=>some cs | _=>none)=_;rw [u]
def OW:Tryz.prog.underlying 194=some (.slice 5):=ax
def V8:Tryz.prog.underlying 5=some (.int .u8):=ax
def VO:Tryz.prog.underlying 9=some .string:=ax
def M2 {L:Lp} {K:Xab->Hp->Prop} {h:Hp} {b:Nat} {p:Xac} {l c:Nat} {j:List UInt8} {k:Xaa->T} (s:SL h b 5 1 p l c (NT j)) (h0:j≠[]) (hk:k ⟨j.toArray⟩ L K h) :
  T.eh Tryz.prog (convert 194 9 (.slice p l c)) false [(false,[.string])] k L K h:=by
 show aS Tryz.prog (convert 194 9 (.slice p l c)) h _;unfold convert;rw [ao,aF OW,ao,aF VO];show aS Tryz.prog (do match <- underlying 5 with
  | .int .u8=>Conv.bytesToString (.slice p l c)
  | .int .i32=>Conv.runesToString (.slice p l c)
  | _ => stuck "Convert: a slice of what to string?") h _
 rw [ao,aF V8];cases p with
 | none =>
  have h1:NT j=[]:=s.2.2.2
  have:j=[]:=by simpa [NT] using h1
  exact absurd this h0
 | some a =>
  have hl:l=j.length:=by rw [s.1,G1]
  subst hl;have u:=SL.flat s;rw [NF] at u;exact JG a j c _ u ⟨(⟨j.toArray⟩,()),rfl,hk⟩
def Uj (n:Nat):IntKind.wrap .u8 (IntKind.wrap .i64 ((48:Int)+(Int.tmod (n:Int) (10:Int))))=((UInt8.ofNat (48+n % 10)).toNat:Int):=by
 have e:Int.tmod (n:Int) 10=((n % 10:Nat):Int):=by
  rw [Int.tmod_eq_emod_of_nonneg ad] <;> rfl
 rw [e,wrap_i64 ad ad,wrap_u8 ad ad]
 simp
 omega
end Go.Sx.Ob
namespace Go.Sx.BB
open Go.Sx Go.Sx.Ob
open Go.Proofs
def R3 (b:UInt8):List Xab:=[.int .u8 (b.toNat:Int)]
end Go.Sx.BB
namespace Go.Sx.Ob
open Go.Proofs
def uV {h:Hp} {b b':Nat} {e e':TypeId} {sz u:Nat} {p q:Xac} {l c l' c':Nat} {xs ys:List (List Xab)} (s:SL h b e sz p l c xs) (t:SL h b' e' u q l' c' ys) (G:e≠e'):∀ i,i∈aM p->i∉aM q:=fun i h1 h2=>by
 obtain ⟨J,b1⟩:=SL.AZ s i h1;obtain ⟨O,j⟩:=SL.AZ t i h2;unfold bF at b1 j;rw [b1] at j;simp only [Option.some.injEq,Obj.cells.injEq] at j;exact G j.2.1
def SN.put {L:Lp} {K:Xab->Hp->Prop} {h:Hp} {b:Nat} {p:Xac} {l c:Nat} {xs:List Xaa} (v:SN h b p l c xs) {i:Nat} (hi:i<xs.length) (x:Xaa) {a:Xax} (j:p=some a) {k:T}
  (hk:∀ h',SN h' b p l c (xs.set i x)->Ch (aM p) h h'->h'.size=h.size->k L K h'):T.aC (a.add (i*1)) [.string x] k L K h:=by
 refine SL.store (P:=Tryz.prog) v (i:=i) (vs:=Vy x) (by rw [Y0]; exact hi) rfl rfl j ?_;intro h' s' ch z;refine hk h' ?_ ch z;unfold SN;rw [ca9];exact s'
def F1 (zs:List Xaa) (j:Nat) (u:0<j) (hl:j<zs.length):(zs.set j (zs[j-1]'ad)).eraseIdx (j-1)=zs.eraseIdx j:=by
 apply ae9;intro k;rw [List.getElem?_eraseIdx,List.getElem?_eraseIdx]
 by_cases h1:k<j-1
 ·rw [Y8 h1,Y8 ad,ap9 ad]
 ·rw [Y2 h1]
  by_cases h2:k<j
  ·have:k=j-1:=ad
   subst this;rw [Y8 h2,show j-1+1=j from ad,bj9 hl,Y1 ad]
  ·rw [Y2 h2,ap9 ad]
def QP (zs:List Xaa) (j:Nat) (hl:j<zs.length) (x s:Xaa):fZ (zs.set j x) s=(fZ (zs.eraseIdx j) s || decide (x=s)):=by
 unfold fZ;rw [List.set_eq_take_append_cons_drop,Y8 hl,List.eraseIdx_eq_take_drop_succ];simp only [List.any_append,List.any_cons]
 all_goals (cases List.any (zs.take j) (fun t=>decide (t=s)) <;> cases List.any (zs.drop (j+1)) (fun t=>decide (t=s)) <;> cases decide (x=s) <;> rfl)
def pa {D:List Xaa} {s:Xaa}:fZ D s=true↔s∈D:=by
 unfold fZ;rw [as9];constructor
 ·rintro ⟨t,j,e⟩;rw [<- Y5 e];exact j
 ·intro hs;exact ⟨s,hs,Y6 rfl⟩
def zf (l:List Xaa) (x:Xaa):(l++[x]).Nodup↔l.Nodup/\x∉l:=by
 rw [ZX];constructor
 ·rintro ⟨a,_,c⟩;exact ⟨a,fun hx=>c x hx x aj rfl⟩
 ·rintro ⟨a,b⟩;refine ⟨a,aj,fun y hy z j e=>?_⟩;rw [Zi.1 j] at e;exact b (e▸hy)
def sE {h : Hp} {b : Nat} {p : Xac} {l c : Nat} {xs : List Xaa} (v : SN h b p l c xs) (hm : xs.length <= 2 ^ 30) :
    HC Tryz.prog 58 #[.slice p l c] h fun w h' => ∃ p' c' ys, w = .slice p' (ys : List Xaa).length c' /\ ys.length <= xs.length /\ (ys.length = xs.length ↔ xs.Nodup) /\ Ext h h' := by
  refine bd (args := [.slice p l c]) mixed Tryz.func58 ax (np p l c) ?_;unfold jr bf bk bH aP aY br bt bj aR dh;have n := SN.len v
  refine aX (cs := [(false, [.slice 0]), (false, [.int .i64])]) (fun y m h' => ∃ (i : Nat) (ys : List Xaa), y.2.1 = (i : Int) /\ m = xs.length - i /\ i <= xs.length /\ Ext h h' /\ SN h' h.size y.1.1 y.1.2.1 y.1.2.2 ys /\ ys.length <= i /\ (∀ s, fZ ys s = fZ (xs.take i) s) /\ (ys.length = i ↔ (xs.take i).Nodup)) ((none, 0, 0), (0 : Int), ()) xs.length rfl
    ⟨0, [], rfl, rfl, ad, Ch.refl _ _, SL.nil _ _ _ _, aj, fun s => rfl, aj⟩ ?_
  rintro ⟨⟨p1, U, l3⟩, n4, ⟨⟩⟩ m h1 ⟨i, ys, hi, rfl, hle, e1, s, hyl, V, X⟩;simp only at hi s;subst hi;refine an ?_;have hz := e1.size;have ny := SN.len s;refine aQ (fun q => ?_) (fun q => ?_)
  · have Z : i < xs.length :=ad
    have hx : ∀ {g}, Ext h g -> ∃ a, p = some a /\ aI g (a.add (i * 1)) 0 [.string xs[i]] := by
      intro g e;obtain ⟨a, J, hc⟩ := SN.cell v Z;exact ⟨a, J, aT e aj _ _ hc⟩
    have u : xs.take (i + 1) = xs.take i ++ [xs[i]] := Y3 Z;generalize hxv : xs[i] = x at hx u;obtain ⟨a, J, hc⟩ := hx e1;refine ay ⟨ad, ad⟩ (aw J ?_);rw [show Int.toNat (i : Int) = i from ad];refine az (x, ()) hc (an ?_);refine aK (CY s ad x) ?_;rw [V];have O : fZ (xs.take i) x = true ↔ x ∈ xs.take i := pa;refine av (fun r => ?_) (fun r => ?_)
    · have r2 := O.1 r
      refine aH (cs := [(false, [.slice 0]), (false, [.int .i64])]) ((p1, U, l3), ((i + 1 : Nat) : Int), ()) (xs.length - (i + 1)) rfl ad (by rw [wrap_i64 ad ad]; rfl) ?_;refine ⟨i + 1, ys, rfl, rfl, ad, e1, s, ad, fun t => ?_, ?_⟩
      · rw [V, u]
        by_cases e : x = t
        · subst e
          rw [r];exact (pa.2 (Zk.2 (.inl r2))).symm
        · unfold fZ
          rw [cq9];simp [e]
      · rw [u, zf]
        exact ⟨fun k => ad, fun k => absurd r2 k.2⟩
    · have r2 : x ∉ xs.take i := fun k => by rw [O.2 k] at r; cases r
      refine ay ⟨ad, ad⟩ (aw J ?_);refine az (x, ()) hc (an ?_);refine SN.push s x ad hz ?_;intro p' c' h2 s2 k2;have e2 := SN.ext e1 s (Zh _) k2
      refine aX (cs := [(false, [.int .i64])]) (fun y m h' => ∃ (j : Nat) (zs : List Xaa), y.1 = (j : Int) /\ m = j /\ j <= ys.length /\ zs.length = ys.length + 1 /\ zs.eraseIdx j = ys /\ Ext h h' /\ SN h' h.size p' (U + 1) c' zs) ((U : Int), ()) ys.length rfl
        ⟨ys.length, ys ++ [x], by rw [ny], rfl, ad, aj, by rw [List.eraseIdx_append_of_length_le ad]; simp, e2, s2⟩ ?_
      rintro ⟨n16, ⟨⟩⟩ m h3 ⟨j, zs, hj, rfl, hjl, hzl, hze, e3, Y⟩;simp only at hj;subst hj;refine an ?_
      have hpl : ∃ a2, p' = some a2 := by
        obtain ⟨a2, h2, _⟩ := SN.cell Y (i := 0) ad;exact ⟨a2, h2⟩
      obtain ⟨a2, G⟩ := hpl
      have last : (T.need (((0 : Int) <= (i : Int)) /\ ((i : Int) < (l : Int))) <|
         T.bG p fun (a21 : Xax) =>
         T.ah (a21.add ((Int.toNat (i : Int)) * 1)) [.string] <| fun (s22 : Xaa) =>
         T.need (((0 : Int) <= (m : Int)) /\ ((m : Int) < ((U + 1 : Nat) : Int))) <|
         T.bG p' fun (a23 : Xax) =>
         T.aC (a23.add ((Int.toNat (m : Int)) * 1)) [.string s22] <|
         T.again 0 [.slice p' (U + 1) c', .int .i64 (IntKind.wrap .i64 ((i : Int) + (1 : Int)))])
         ([] ++ [Jl (cs := [(false, [.slice 0]), (false, [.int .i64])]) (fun y m h' => ∃ (i : Nat) (ys : List Xaa), y.2.1 = (i : Int) /\ m = xs.length - i /\ i <= xs.length /\ Ext h h' /\ SN h' h.size y.1.1 y.1.2.1 y.1.2.2 ys /\ ys.length <= i /\ (∀ s, fZ ys s = fZ (xs.take i) s) /\ (ys.length = i ↔ (xs.take i).Nodup)) (xs.length - i)] ++
          [Jl (cs := [(false, [.int .i64])]) (fun y m h' => ∃ (j : Nat) (zs : List Xaa), y.1 = (j : Int) /\ m = j /\ j <= ys.length /\ zs.length = ys.length + 1 /\ zs.eraseIdx j = ys /\ Ext h h' /\ SN h' h.size p' (U + 1) c' zs) m])
         (fun w h' => ∃ p' c' ys, w = .slice p' (ys : List Xaa).length c' /\ ys.length <= xs.length /\ (ys.length = xs.length ↔ xs.Nodup) /\ Ext h h') h3 := by
        obtain ⟨a, J, hc⟩ := hx e3;refine ay ⟨ad, ad⟩ (aw J ?_);rw [show Int.toNat (i : Int) = i from ad];refine az (x, ()) hc (an ?_);refine ay ⟨ad, ad⟩ (aw G ?_);rw [show Int.toNat (m : Int) = m from ad];refine SN.put Y ad x G ?_;intro h4 s4 k4 z4;refine aH (cs := [(false, [.slice 0]), (false, [.int .i64])]) ((p', U + 1, c'), ((i + 1 : Nat) : Int), ()) (xs.length - (i + 1)) rfl ad (by rw [wrap_i64 ad ad]; rfl) ?_;refine ⟨i + 1, zs.set m x, rfl, rfl, ad, SN.ext e3 Y (Zh _) k4, s4, by rw [Z5]; omega, fun t => ?_, ?_⟩
        · rw [QP zs m ad, hze, V, u]
          unfold fZ;rw [cq9]
          simp
        · rw [Z5, u, zf, <- X, hzl]
          exact ⟨fun k => ⟨ad, r2⟩, fun k => ad⟩
      refine av (fun q2 => ?_) (fun q2 => last);have q2 := Y5 q2;rw [wrap_i64 ad ad];obtain ⟨a3, ha3, hc3⟩ := SN.cell Y (i := m - 1) ad;refine ay ⟨ad, ad⟩ (aw ha3 ?_);rw [show Int.toNat ((m : Int) - 1) = m - 1 from ad];refine az (zs[m - 1]'ad, ()) hc3 (an ?_);obtain ⟨a, J, hc⟩ := hx e3;refine ay ⟨ad, ad⟩ (aw J ?_);refine az (x, ()) hc (an ?_);refine av (fun q3 => ?_) (fun q3 => ?_)
      · refine ay ⟨ad, ad⟩ (aw ha3 ?_)
        refine az (zs[m - 1]'ad, ()) hc3 (an ?_);refine ay ⟨ad, ad⟩ (aw G ?_);rw [show Int.toNat (m : Int) = m from ad];refine SN.put Y ad _ G ?_;intro h4 s4 k4 z4;refine aH (cs := [(false, [.int .i64])]) (((m - 1 : Nat) : Int), ()) (m - 1) rfl ad (by rw [show (m : Int) - 1 = ((m - 1 : Nat) : Int) from ad]; rfl) ?_;exact ⟨m - 1, _, rfl, rfl, ad, by rw [Z5]; exact hzl, by rw [F1 zs m ad ad]; exact hze, SN.ext e3 Y (Zh _) k4, s4⟩
      · have := last
        rw [show Int.toNat (i : Int) = i from ad] at this;exact this
  · have : i = xs.length :=ad
    subst this;rw [ZA] at X;exact ⟨p1, l3, ys, by rw [ny], hyl, X, e1⟩
def FH (e:ry):Bool:=cX e.1.data.toList && nz none e.2.ai
def xh (u:bX):Bool:=u.text.all (fun x=>cB x 0) && (u.data.all (fun x=>cB x 1) && (u.bh.all FH && (decide (eN u).Nodup && cV (eN u) dH u.aU)))
def sF (x:cE) (l:List cE):dX (x::l)=(if x.kind=1 then [x.name] else [])++dX l:=by
 unfold dX
 by_cases h:x.kind=1 <;> simp [h]
def EX (D:List Xaa) (x:cE) (s:Xaa):s∈tM D x↔s∈D\/s∈(if x.kind=1 then [x.name] else []):=by
 unfold tM;split <;> simp [or_comm]
theorem qL (sec:Nat):∀ (l:List cE) (D:List Xaa),eW sec D l=true↔(∀ x,x∈l->cB x sec=true)/\(∀ s,s∈dX l->s∉D)/\(dX l).Nodup
 | [],D=>by simp [eW,dX]
 | x::l,D=>by
  rw [eW,Zz,qL sec l,sF];unfold xM;rw [Zz,ZX]
  by_cases h:x.kind=1
  ·simp only [h,decide_true,Bool.true_and,if_true,Bool.not_eq_true',List.mem_cons,List.mem_append,List.mem_singleton,List.not_mem_nil,or_false];have j:fZ D x.name=false↔x.name∉D:=by
    rw [<- Bool.not_eq_true,pa]
   rw [j];have u:∀ s,s∈tM D x↔s=x.name\/s∈D:=fun s=>by
    rw [EX,Y8 h];simp [or_comm]
   simp only [u];constructor
   ·rintro ⟨⟨a,b⟩,c,d,e⟩;refine ⟨?_,?_,?_,e,?_⟩
    ·rintro y (rfl | hy)
     ·exact a
     ·exact c y hy
    ·rintro s (rfl | hs)
     ·exact b
     ·exact fun k=>d s hs (.inr k)
    ·simp
    ·intro y hy z J G;exact d z J (.inl (G▸hy))
   ·rintro ⟨a,b,c,d,e⟩;refine ⟨⟨a x (.inl rfl),b _ (.inl rfl)⟩,fun y hy=>a y (.inr hy),fun s hs k=>?_,d⟩;rcases k with rfl | k
    ·exact e _ rfl _ hs rfl
    ·exact b s (.inr hs) k
  ·have u:tM D x=D:=by unfold tM; rw [Y2 h]
   simp only [h,decide_false,Bool.false_and,if_false,Bool.not_false,and_true,List.mem_cons,List.nil_append,u];constructor
   ·rintro ⟨a,c,d,e⟩;refine ⟨?_,d,aj,e,aj⟩;rintro y (rfl | hy)
    ·exact a
    ·exact c y hy
   ·rintro ⟨a,b,_,d,_⟩;exact ⟨a x (.inl rfl),fun y hy=>a y (.inr hy),b,d⟩
theorem Az:∀ (l:List ry) (D:List Xaa),gy D l=true↔(∀ x,x∈l->FH x=true)/\(∀ s,s∈l.map (·.1)->s∉D)/\(l.map (·.1)).Nodup
 | [],D=>by simp [gy]
 | x::l,D=>by
  rw [gy,Zz,Az l,ZF,az9];have j:Cp D x=true↔x.1∉D/\FH x=true:=by
   unfold Cp FH;rw [Zz,Zz,Zz,Bool.not_eq_true',<- Bool.not_eq_true,pa,and_assoc]
  rw [j];simp only [List.mem_cons];constructor
  ·rintro ⟨⟨a,b⟩,c,d,e⟩;refine ⟨?_,?_,?_,e⟩
   ·rintro y (rfl | hy)
    ·exact b
    ·exact c y hy
   ·rintro s (rfl | hs)
    ·exact a
    ·exact fun k=>d s hs (.inr k)
   ·exact fun hs=>d _ hs (.inl rfl)
  ·rintro ⟨a,b,c,d⟩;refine ⟨⟨b _ (.inl rfl),a x (.inl rfl)⟩,fun y hy=>a y (.inr hy),fun s hs k=>?_,d⟩;rcases k with rfl | k
   ·exact c hs
   ·exact b s (.inr hs) k
theorem lF:∀ (l:List cE) (D:List Xaa) (s:Xaa),s∈cR D l↔s∈D\/s∈dX l
 | [],D,s=>by simp [cR,dX]
 | x::l,D,s=>by
  show s∈cR (tM D x) l↔_;rw [lF l,EX,sF,Zk,or_assoc]
theorem AK:∀ (l:List ry) (D:List Xaa) (s:Xaa),s∈aZ D l↔s∈D\/s∈l.map (·.1)
 | [],D,s=>by simp [aZ]
 | x::l,D,s=>by
  show s∈aZ (x.1::D) l↔_;rw [AK l,ZF,Zo,Zo,<- or_assoc,or_comm (a:=s=x.1)]
def KF {D E:List Xaa} (h:∀ s,s∈D↔s∈E) (s:Xaa):fZ D s=fZ E s:=by
 have:fZ D s=true↔fZ E s=true:=by rw [pa,pa]; exact h s
 exact cb9.2 this
theorem sY {D E:List Xaa} (h:∀ s,s∈D↔s∈E):∀ (l:List Xaa) (o:Xaa),cV D o l=cV E o l
 | [],o=>rfl
 | x::l,o=>by
  rw [cV,cV,sY h l,Rg,Rg,KF h]
def xk (u:bX):tA u=xh u:=by
 have O:cV u.names dH u.aU=cV (eN u) dH u.aU:=by
  refine sY (fun s=>?_) _ _;unfold bX.names eN;rw [AK,lF,lF];simp [or_assoc]
 rw [cb9];unfold tA xh;rw [Zz,Zz,Zz,Zz,Zz,Zz,Zz,qL,qL,Az,O,Zx,Zx,Zx,decide_eq_true_iff];unfold eN;rw [ZX,ZX];have e1:∀ s,s∈cR [] u.text↔s∈dX u.text:=fun s=>by rw [lF]; simp
 have e2:∀ s,s∈cR (cR [] u.text) u.data↔s∈dX u.text\/s∈dX u.data:=fun s=>by rw [lF,e1]
 simp only [e1,e2,List.mem_append];constructor
 ·rintro ⟨⟨⟨⟨j,a2,a3⟩,b1,U,G⟩,J,V,c3⟩,g⟩;refine ⟨j,b1,J,⟨⟨a3,G,fun x hx y hy e=>U y hy (e▸hx)⟩,c3,fun x hx y hy e=>V y hy (e▸hx)⟩,g⟩
 ·rintro ⟨j,b1,J,⟨⟨a3,G,d⟩,c3,f⟩,g⟩;exact ⟨⟨⟨⟨j,fun s _=>aj,a3⟩,b1,fun s hs k=>d s k s hs rfl,G⟩,J,fun s hs k=>f s k s hs rfl,c3⟩,g⟩
def qT {α:Type} (f:α->Bool) (l:List α) {i:Nat} (hi:i<l.length):(l.drop i).all f=(f l[i] && (l.drop (i+1)).all f):=by
 rw [Zg hi,cn9]
def X' {h:Hp} {p:Xac} {l:Nat} {x:ct} (v:ru h p l x):gW h p l x.ai/\x.ai.length<=9223372036854775807/\∀ t,t∈x.ai->t.1.size<=maxLen:=⟨v.vw,by have:=v.many; omega,v.names⟩
def zm (D:List Xaa):Prop:=∀ g,g∈D->cX g.data.toList=true
def zm.snoc {D E:List Xaa} (h:zm D) (k:zm E):zm (D++E):=fun g j=>(Zk.1 j).elim (h g) (k g)
def zm.item {x:cE} {sec:Nat} (r:cB x sec=true):zm (if x.kind=1 then [x.name] else []):=by
 intro g j;split at j
 ·rename_i u;rw [Zi.1 j];rw [Dh u,Zz] at r;exact r.1
 ·simp at j
def JV {h:Hp} {a b c d:cz} {u:bX} (v:oB h a b c d u):HC Tryz.prog 71 #[CP a b c d] h fun w h'=>w=.int .i64 (dL u:Nat)/\Ext h h':=by
 refine bd (args:=[CP a b c d]) mixed Tryz.func71 ax (nJ a.p a.l a.c b.p b.l b.c c.p c.l c.c d.p d.l d.c) ?_;unfold jR bf bk bH aP aY cH bK bt aG aR;refine bm ?_;intro g1 b1 e1 z1;have b1:bF g1 h.size 47 [a.v,b.v,c.v,d.v]:=b1;have m1:=v.text.many;have m2:=v.data.many;have m3:=v.bh.many;have m4:=v.aU.many;have n1:=v.text.len;have n2:=v.data.len;have n3:=v.bh.len;have n4:=v.aU.len;simp only [aE];refine af b1 ((a.p,a.l,a.c),()) rfl (an ?_);refine af b1 ((b.p,b.l,b.c),()) rfl (an ?_);rw [wrap_i64 ad ad];unfold dL vj;refine av (fun q=>?_) (fun q=>?_)
 ·have q:=Y5 q;exact ⟨by rw [Y6 (show 8192<u.text.length+u.data.length from ad)]; rfl,e1⟩
 have q:=Zc q;rw [Y7 (show ¬ 8192<u.text.length+u.data.length from ad),bl9];refine af b1 ((c.p,c.l,c.c),()) rfl (an ?_);refine av (fun q=>?_) (fun q=>?_)
 ·have q:=Y5 q;exact ⟨by rw [Y6 (show 8192<u.bh.length from ad)]; rfl,e1⟩
 have q:=Zc q;rw [Y7 (show ¬ 8192<u.bh.length from ad),Y2 aj,xk];generalize hU:xh u=U;unfold xh at hU;refine aX (cs:=[(false,[.int .i64]),(false,[.int .i64])]) (fun y w h'=>∃ i:Nat,y.2.1=(i:Int)/\w=u.text.length-i/\i<=u.text.length/\Ext h h'/\bF h' h.size 47 [a.v,b.v,c.v,d.v]/\zm (dX (u.text.take i))/\((u.text.drop i).all (fun x=>cB x 0) && (u.data.all (fun x=>cB x 1) && (u.bh.all FH && (decide (eN u).Nodup && cV (eN u) dH u.aU))))=U) ((0:Int),(0:Int),()) u.text.length rfl
  ⟨0,rfl,rfl,ad,e1,b1,fun g X=>by simp [dX] at X,hU⟩ ?_
 clear hU;rintro ⟨n21,n22,⟨⟩⟩ w h2 ⟨i,hi,rfl,V,e2,G,hg1,hu⟩;simp only at hi;subst hi;refine an ?_;refine af G ((a.p,a.l,a.c),()) rfl (an ?_);refine av ?_ ?_
 case _ =>
  intro q;have q:=Y5 q;have j:i<u.text.length:=ad
  refine af G ((a.p,a.l,a.c),()) rfl (an ?_);obtain ⟨aa,pp,ll,cc,rfl',hc,Z⟩:=(v.text.ak e2).cells i j;rw [qT _ _ j] at hu;have ht:=wA u.text i j;generalize u.text[i]=x at hc Z hu ht;refine ay ⟨ad,ad⟩ (aw rfl' ?_);rw [show Int.toNat (i:Int)=i from ad];refine az (x.kind,x.name,x.inst.op,x.inst.a,x.inst.b,x.inst.n,x.inst.form,(pp,ll,cc),(x.e.num:Int),x.n,()) hc (an ?_);refine aJ (B2 (c:=cc) (k:=0) Z ad) ?_;rintro _ h3 ⟨rfl,Y⟩;refine ⟨((if cB x 0 then 0 else 31:Int),()),rfl,an ?_⟩;cases J:cB x 0 with
  | false =>
   refine bC aj ?_;refine ⟨by rw [<- hu,J]; rfl,e2.trans Y⟩
  | true =>
   refine bP aj ?_;rw [J,Zt] at hu;refine aH (cs:=[(false,[.int .i64]),(false,[.int .i64])]) (n21,((i+1:Nat):Int),()) (u.text.length-(i+1)) rfl ad (by rw [wrap_i64 ad ad]; rfl) ?_;exact ⟨i+1,rfl,rfl,ad,e2.trans Y,G.ak Y aj,by rw [ht]; exact hg1.snoc (zm.item J),hu⟩
 intro q;have q:=Zc q
 have:i=u.text.length:=ad
 subst this;rw [al9,List.all_nil,Zt] at hu;rw [ZA] at hg1;clear e1 b1;refine aX (cs:=[(false,[.int .i64]),(false,[.int .i64])]) (fun y w h'=>∃ i:Nat,y.2.1=(i:Int)/\w=u.data.length-i/\i<=u.data.length/\Ext h h'/\bF h' h.size 47 [a.v,b.v,c.v,d.v]/\zm (dX (u.data.take i))/\((u.data.drop i).all (fun x=>cB x 1) && (u.bh.all FH && (decide (eN u).Nodup && cV (eN u) dH u.aU)))=U) (n21,(0:Int),()) u.data.length rfl
  ⟨0,rfl,rfl,ad,e2,G,fun g X=>by simp [dX] at X,hu⟩ ?_
 clear hu e2 G;rintro ⟨n31,n32,⟨⟩⟩ w h4 ⟨i,hi,rfl,V,e2,G,hg2,hu⟩;simp only at hi;subst hi;refine an ?_;refine af G ((b.p,b.l,b.c),()) rfl (an ?_);refine av ?_ ?_
 case _ =>
  intro q;have q:=Y5 q;have j:i<u.data.length:=ad
  refine af G ((b.p,b.l,b.c),()) rfl (an ?_);obtain ⟨aa,pp,ll,cc,rfl',hc,Z⟩:=(v.data.ak e2).cells i j;rw [qT _ _ j] at hu;have ht:=wA u.data i j;generalize u.data[i]=x at hc Z hu ht;refine ay ⟨ad,ad⟩ (aw rfl' ?_);rw [show Int.toNat (i:Int)=i from ad];refine az (x.kind,x.name,x.inst.op,x.inst.a,x.inst.b,x.inst.n,x.inst.form,(pp,ll,cc),(x.e.num:Int),x.n,()) hc (an ?_);refine aJ (B2 (c:=cc) (k:=1) Z ad) ?_;rintro _ h3 ⟨rfl,Y⟩;refine ⟨((if cB x 1 then 0 else 31:Int),()),rfl,an ?_⟩;cases J:cB x 1 with
  | false =>
   refine bC aj ?_;refine ⟨by rw [<- hu,J]; rfl,e2.trans Y⟩
  | true =>
   refine bP aj ?_;rw [J,Zt] at hu;refine aH (cs:=[(false,[.int .i64]),(false,[.int .i64])]) (n31,((i+1:Nat):Int),()) (u.data.length-(i+1)) rfl ad (by rw [wrap_i64 ad ad]; rfl) ?_;exact ⟨i+1,rfl,rfl,ad,e2.trans Y,G.ak Y aj,by rw [ht]; exact hg2.snoc (zm.item J),hu⟩
 intro q;have q:=Zc q
 have:i=u.data.length:=ad
 subst this;rw [al9,List.all_nil,Zt] at hu;rw [ZA] at hg2;refine aX (cs:=[(false,[.int .i64]),(false,[.int .i64])]) (fun y w h'=>∃ i:Nat,y.2.1=(i:Int)/\w=u.bh.length-i/\i<=u.bh.length/\Ext h h'/\bF h' h.size 47 [a.v,b.v,c.v,d.v]/\zm ((u.bh.take i).map (·.1))/\((u.bh.drop i).all FH && (decide (eN u).Nodup && cV (eN u) dH u.aU))=U) (n31,(0:Int),()) u.bh.length rfl
  ⟨0,rfl,rfl,ad,e2,G,fun g X=>by simp at X,hu⟩ ?_
 clear hu e2 G;rintro ⟨n41,n42,⟨⟩⟩ w h4 ⟨i,hi,rfl,V,e2,G,hg3,hu⟩;simp only at hi;subst hi;refine an ?_;refine af G ((c.p,c.l,c.c),()) rfl (an ?_);refine av ?_ ?_
 case _ =>
  intro q;have q:=Y5 q;have j:i<u.bh.length:=ad
  refine af G ((c.p,c.l,c.c),()) rfl (an ?_);obtain ⟨aa,pp,ll,cc,rfl',hc,Z,vn⟩:=(v.bh.ak e2).cells i j;rw [qT _ _ j] at hu;have ht:(u.bh.take (i+1)).map (·.1)=(u.bh.take i).map (·.1)++[u.bh[i].1]:=by rw [Y3 j,Ze]; rfl
  generalize u.bh[i]=x at hc Z vn hu ht;unfold FH at hu;refine ay ⟨ad,ad⟩ (aw rfl' ?_);rw [show Int.toNat (i:Int)=i from ad];refine az (x.1,()) ⟨hc.1,trivial⟩ (an ?_);refine aK (r6 x.1 _ (by have:maxLen=9223372036854775807:=rfl; omega)) ?_;cases V:cX x.1.data.toList with
  | false =>
   refine bC aj ?_;refine ⟨by rw [<- hu,V]; rfl,e2⟩
  | true =>
   refine bP aj ?_;rw [V,Zt] at hu;refine af G ((c.p,c.l,c.c),()) rfl (an ?_);refine ay ⟨ad,ad⟩ (aw rfl' ?_);refine az ((pp,ll,cc),(x.2.num:Int),()) ⟨by rw [add_add]; exact hc.2.1,by rw [add_add]; exact hc.2.2.1,trivial⟩ ?_;refine an ?_;obtain ⟨w1,w2,w3⟩:=X' Z;refine gY (tG w1 w2 w3) ?_;intro h3 Y;cases J:nz none x.2.ai with
   | false =>
    refine bC aj ?_;refine ⟨by rw [<- hu,J]; rfl,e2.trans Y⟩
   | true =>
    refine bP aj ?_;rw [J,Zt] at hu;refine aH (cs:=[(false,[.int .i64]),(false,[.int .i64])]) (n41,((i+1:Nat):Int),()) (u.bh.length-(i+1)) rfl ad (by rw [wrap_i64 ad ad]; rfl) ?_;exact ⟨i+1,rfl,rfl,ad,e2.trans Y,G.ak Y aj,by rw [ht]; exact hg3.snoc (fun g X=>by rw [Zi.1 X]; exact V),hu⟩
 intro q;have q:=Zc q
 have:i=u.bh.length:=ad
 subst this;rw [al9,List.all_nil,Zt] at hu;rw [ZA] at hg3;refine af G ((a.p,a.l,a.c),(b.p,b.l,b.c),(c.p,c.l,c.c),(d.p,d.l,d.c),()) rfl (an ?_);refine aJ (M4 (v.ak e2) ad ad ad) ?_;rintro _ h5 ⟨p38,l39,l40,rfl,s5,e5⟩;refine ⟨((p38,l39,l40),()),rfl,an ?_⟩;have hA:(eN u).length<=2^20:=by
  unfold eN
  have:=uK u.text
  have:=uK u.data
  simp only [List.length_append,List.length_map];omega
 have n5:=SN.len s5;refine aJ (sE s5 ad) ?_;rintro _ h6 ⟨p41,l43,ys,rfl,hy1,hy2,e6⟩;refine ⟨((p41,ys.length,l43),()),rfl,an ?_⟩;have e56:=e5.trans e6;have O:=e2.trans e56
 by_cases hnd:(eN u).Nodup
 case neg =>
  rw [Y7 hnd] at hu;refine bC ?_ ⟨by rw [<- hu]; rfl,O⟩
  have:¬ ys.length=(eN u).length:=fun k=>hnd (hy2.1 k)
  rw [n5];simp only [bne_iff_ne,ne_eq];omega
 rw [Y6 hnd,Zt] at hu;have hy:=hy2.2 hnd;refine bP (by rw [n5,hy]; simp) ?_;have s6:SN h6 h4.size p38 l39 l40 (eN u):=s5.ak e6 aj;have b6:=G.ak e56 aj;have hleg:∀ g,g∈eN u->hZ dH g:=fun g X=>Em (((hg1.snoc hg2).snoc hg3) g X)
 generalize eN u=E at hu s6 hA hleg;refine aX (cs:=[(false,[.int .i64]),(false,[.int .i64])]) (fun y w h'=>∃ i:Nat,y.2.1=(i:Int)/\w=u.aU.length-i/\i<=u.aU.length/\h'=h6/\cV E (nO u.aU i) (u.aU.drop i)=U) (n41,(0:Int),()) u.aU.length rfl
  ⟨0,rfl,rfl,ad,rfl,hu⟩ ?_
 clear hu;rintro ⟨n51,n52,⟨⟩⟩ w h7 ⟨i,hi,rfl,hile,rfl,hu⟩;simp only at hi;subst hi;refine an ?_;refine af b6 ((d.p,d.l,d.c),()) rfl (an ?_);refine aQ (fun q=>?_) (fun q=>?_)
 ·have j:i<u.aU.length:=ad
  obtain ⟨aa,rfl',hc,Z⟩:=(v.aU.ak O).cells i j;rw [vv _ _ j] at hu;unfold Rg at hu;refine aQ (fun r2=>?_) (fun r2=>?_)
  ·refine af b6 ((d.p,d.l,d.c),()) rfl (an ?_);refine ay ⟨ad,ad⟩ (aw rfl' ?_);rw [show Int.toNat (i:Int)=i from ad,wrap_i64 (x:=(i:Int)-1) ad ad];refine az (u.aU[i],()) hc (an ?_);refine af b6 ((d.p,d.l,d.c),()) rfl (an ?_);obtain ⟨ab,rfl'',hc',va'⟩:=(v.aU.ak O).cells (i-1) ad;refine ay ⟨ad,ad⟩ (aw rfl'' ?_);rw [show Int.toNat ((i:Int)-1)=i-1 from ad];refine az (u.aU[i-1],()) hc' (an ?_);have hla:nO u.aU i=u.aU[i-1]:=by
    unfold nO;rw [Y2 ad,ZV,Y1 ad] <;> rfl
   rw [leB];rw [hla] at hu;refine av (fun r3=>?_) (fun r3=>?_)
   ·have r3:decide (hZ u.aU[i-1] u.aU[i])=false:=by simpa using r3
    exact ⟨by rw [<- hu,r3,bz9]; rfl,O⟩
   ·have r3:decide (hZ u.aU[i-1] u.aU[i])=true:=by simpa using r3
    rw [r3,af9] at hu;refine af b6 ((d.p,d.l,d.c),()) rfl (an ?_);refine ay ⟨ad,ad⟩ (aw rfl' ?_);refine az (u.aU[i],()) hc (an ?_);refine aK (CY s6 ad _) ?_;refine ⟨⟨b6.cells _ rfl,hc',b6.cells _ rfl,hc,b6.cells _ rfl,trivial⟩,?_⟩;cases J:fZ E u.aU[i] with
    | false =>
     refine bC aj ?_;exact ⟨by rw [<- hu,J]; rfl,O⟩
    | true =>
     refine bP aj ?_;rw [J,Zt] at hu;exact aH (cs:=[(false,[.int .i64]),(false,[.int .i64])]) (n51,((i+1:Nat):Int),()) (u.aU.length-(i+1)) rfl ad (by rw [wrap_i64 ad ad]; rfl) ⟨i+1,rfl,rfl,ad,rfl,hu⟩
  ·have hi0:i=0:=ad
   subst hi0;refine af b6 ((d.p,d.l,d.c),()) rfl (an ?_);refine ay ⟨ad,ad⟩ (aw rfl' ?_);refine az (u.aU[0],()) hc (an ?_);refine aK (CY s6 ad _) ?_;refine ⟨⟨b6.cells _ rfl,trivial⟩,?_⟩;cases J:fZ E u.aU[0] with
   | false =>
    refine bC aj ?_;exact ⟨by rw [<- hu,J]; rfl,O⟩
   | true =>
    refine bP aj ?_;have X:decide (hZ (nO u.aU 0) u.aU[0])=true:=Y6 (hleg _ (pa.1 J));rw [J,X,Zt,Zt] at hu;exact aH (cs:=[(false,[.int .i64]),(false,[.int .i64])]) (n51,((0+1:Nat):Int),()) (u.aU.length-(0+1)) rfl ad (by rw [wrap_i64 ad ad]; rfl) ⟨0+1,rfl,rfl,ad,rfl,hu⟩
 ·have:i=u.aU.length:=ad
  subst this;rw [al9] at hu;exact ⟨by rw [<- hu]; rfl,O⟩
end Go.Sx.Ob
namespace Go.Sx
open Go.Proofs
section any
variable {P:Program} {h:Hp}
end any
def fU (h:Hp):Prop:=∃ e f,h[1]?=some (.cells (Lib.pow10Tab.map fun z=>Value.int .u64 z).toArray e f)
def fU.ak {ws:List Nat} {h h':Hp} (p:fU h) (k:Ch ws h h') (hw:∀ i,i∈ws->1<i):fU h':=by
 obtain ⟨e,f,j⟩:=p;exact ⟨e,f,k.get j (fun hm=>by have:=hw _ hm; omega)⟩
def HQ {W:World} {name:String} (j:Tryz.prog.globalNamed name=some 1) (p:fU W.heap):Lib.TabIs Tryz.prog W name .u64 Lib.pow10Tab:=by
 obtain ⟨e,f,u⟩:=p;unfold Lib.TabIs World.var?;rw [j];show (match W.heap[1]? with | some (.cells cs _ _)=>some cs | _=>none)=_;rw [u]
def xc {h:Hp} (p:fU h) (u:Nat) (h1:1<=u) (h2:u<18446744073709551616):we Tryz.prog 119 [.int .u64 u] h (.int .i64 (Lib.nDigits u)):=by
 intro W j;refine ((Any.internal_strconv_numDigits Tryz.M' u h1 h2 W (HQ ax (by rw [j]; exact p))).mono ?_);rintro e w' ⟨G,hw⟩;exact ⟨_,G,by rw [hw]; exact dI.refl W,rfl,by rw [hw]; exact j⟩
def fX (n:Nat):Xaa:=⟨(Lib.decDigits n).toArray⟩
def gi (f:Xaa->Nat):dc->Nat
 | []=>0
 | p::l=>p.2*f p.1+gi f l
def eZ (f:Xaa->Nat) (p:Xaa × Nat) (l:dc):gi f (p::l)=p.2*f p.1+gi f l:=rfl
def Nr (a b:Nat):a % 4294967296*b % 4294967296=a*b % 4294967296:=by rw [ch9,cy9,<- ch9]
section
variable {α:Type}
def vE (en:α->Xab) (D:List (Xaa × α)):List (Xaa × Xab):=D.map fun p=>(p.1,en p.2)
def gE (D:List (Xaa × α)) (s:Xaa):Option α:=(D.find? fun p=>decide (s=p.1)).map (·.2)
def pE (D:List (Xaa × α)) (s:Xaa) (v:α):List (Xaa × α):=if (gE D s).isSome then D.map fun p=>if s=p.1 then (p.1,v) else p else D++[(s,v)]
def mF (en:α->Xab) (D:List (Xaa × α)) (s:Xaa):look (vE en D) s=(gE D s).map en:=by
 unfold look gE vE
 induction D with
 | nil=>rfl
 | cons p D j =>
  by_cases h:s=p.1
  ·simp [h]
  ·simp only [List.map_cons,List.find?_cons,decide_eq_false h];exact j
def G5 (en:α->Xab) (D:List (Xaa × α)) (s:Xaa) (v:α):jn (vE en D) s (en v)=vE en (pE D s v):=by
 unfold jn pE;rw [mF];cases h:gE D s with
 | none=>simp [vE]
 | some q =>
  simp only [Option.map_some,Option.isSome_some,if_true,vE,List.map_map];refine ZM fun p j=>?_
  simp only [Function.comp];split <;> simp_all
def wY (D:List (Xaa × α)) (s:Xaa) (v:α):(pE D s v).length=if (gE D s).isSome then D.length else D.length+1:=by
 unfold pE;split <;> simp
def w7 (D:List (Xaa × α)) (s t:Xaa) (v:α):gE (D++[(s,v)]) t=(gE D t).or (if t=s then some v else none):=by
 unfold gE;rw [bh9];cases h:D.find? (fun p=>decide (t=p.1)) with
 | some q=>simp
 | none =>
  simp only [Option.none_or,Option.map_none,List.find?_cons,List.find?_nil]
  by_cases e:t=s
  ·simp [e]
  ·simp [e]
def Gx (D:List (Xaa × α)) (s t:Xaa) (v:α) (hs:(gE D s).isSome):gE (D.map fun p=>if s=p.1 then (p.1,v) else p) t=if t=s then some v else gE D t:=by
 unfold gE at *
 induction D with
 | nil=>simp at hs
 | cons p D O =>
  by_cases h:s=p.1
  ·by_cases e:t=s
   ·simp [h,e]
   ·have e2:¬ t=p.1:=fun k=>e (k.trans h.symm)
    have U:∀ l:List (Xaa × α),(List.find? (fun p=>decide (t=p.1)) (List.map (fun p=>if s=p.1 then (p.1,v) else p) l)).map (·.2)=(List.find? (fun p=>decide (t=p.1)) l).map (·.2):=by
     intro l
     induction l with
     | nil=>rfl
     | cons q l u =>
      by_cases G:s=q.1
      ·have:¬ t=q.1:=fun k=>e (k.trans G.symm)
       simp only [List.map_cons,List.find?_cons,if_pos G,decide_eq_false this];exact u
      ·simp only [List.map_cons,List.find?_cons,if_neg G]
       by_cases j:t=q.1
       ·simp [j]
       ·simp only [decide_eq_false j];exact u
    simp only [List.map_cons,List.find?_cons,if_pos h,decide_eq_false e2,if_neg e];exact U D
  ·have J:(Option.map (fun x=>x.2) (List.find? (fun p=>decide (s=p.1)) D)).isSome:=by
    simpa [List.find?_cons,decide_eq_false h] using hs
   simp only [List.map_cons,List.find?_cons,if_neg h]
   by_cases j:t=p.1
   ·have:¬ t=s:=fun k=>h (k.symm.trans j)
    simp [j,if_neg (j▸this)]
   ·simp only [decide_eq_false j];exact O J
def N9 (D:List (Xaa × α)) (s:Xaa) (v:α) (t:Xaa):gE (pE D s v) t=if t=s then some v else gE D t:=by
 unfold pE;split
 ·rename_i h;exact Gx D s t v h
 ·rename_i h;rw [w7]
  by_cases e:t=s
  ·subst e
   have:gE D t=none:=by simpa using h
   rw [this]; simp
  ·simp [e]
def dF (f:Xaa->Option α) (s:Xaa) (v:α):Xaa->Option α:=fun t=>if t=s then some v else f t
def cC (f:Xaa->Option α) (s:Xaa) (v:α):dF f s v s=some v:=by simp [dF]
def cj (f:Xaa->Option α) {s t:Xaa} (v:α) (h:t≠s):dF f s v t=f t:=by simp [dF,h]
def dU (en:α->Xab) (h:Hp) (g:Nat) (f:Xaa->Option α) (n:Nat):Prop:=∃ D:List (Xaa × α),dW h g (vE en D)/\(∀ s,gE D s=f s)/\D.length=n
def dU.ak {en:α->Xab} {ws:List Nat} {h h':Hp} {g:Nat} {f:Xaa->Option α} {n:Nat} (m:dU en h g f n) (k:Ch ws h h') (hw:g∉ws):dU en h' g f n:=by
 obtain ⟨D,m,r⟩:=m;exact ⟨D,m.ak k hw,r⟩
def dU.lt {en:α->Xab} {h:Hp} {g:Nat} {f:Xaa->Option α} {n:Nat} (m:dU en h g f n):g<h.size:=by
 obtain ⟨D,m,r⟩:=m;exact m.lt
def dU.new {en:α->Xab} {h:Hp} {g:Nat} (m:dW h g []):dU en h g (fun _=>none) 0:=⟨[],m,fun s=>rfl,rfl⟩
def dU.jn {en:α->Xab} {h':Hp} {g:Nat} {f:Xaa->Option α} {n:Nat} {D:List (Xaa × α)} (j:∀ s,gE D s=f s) (hn:D.length=n) {s:Xaa} {v:α} (m:dW h' g (Sx.jn (vE en D) s (en v))):dU en h' g (dF f s v) (if (f s).isSome then n else n+1):=by
 rw [G5] at m;refine ⟨_,m,fun t=>?_,?_⟩
 ·rw [N9,j t]; rfl
 ·rw [wY,j s,hn]
end
def eI (n:Nat):Xab:=.int .i64 (n:Int)
def eB (b:Bool):Xab:=.bool b
def H4:Tryz.prog.underlying 89=some (.map 9 3):=ax
def R0:Tryz.prog.underlying 58=some (.map 9 4):=ax
def SS:(Tryz.prog.info? 3).bind (·.zero)=some (.int .i64 0):=ax
def Nv:(Tryz.prog.info? 4).bind (·.zero)=some (.bool false):=ax
section
variable {L:Lp} {K:Xab->Hp->Prop} {h:Hp} {g n:Nat}
def Iw {f:Xaa->Option Nat} (m:dU eI h g f n) (s:Xaa) {k:Int->T} (hk:k (((f s).getD 0:Nat):Int) L K h):T.eh Tryz.prog (Instr.lookup 89 (.map (some g)) (.string s) false) false [(false,[.int .i64])] k L K h:=by
 obtain ⟨D,m,j,hn⟩:=m;refine iB H4 xg SS m s false _ ?_;refine ⟨((((f s).getD 0:Nat):Int),()),?_,hk⟩;simp only [Bool.false_eq_true,if_false];rw [mF,j s]
 all_goals (cases f s <;> rfl)
def Dc {f:Xaa->Option Nat} (m:dU eI h g f n) (s:Xaa) {k:Int->Bool->T} (hk:k (((f s).getD 0:Nat):Int) (f s).isSome L K h):T.eh Tryz.prog (Instr.lookup 89 (.map (some g)) (.string s) true) true [(false,[.int .i64]),(false,[.bool])] k L K h:=by
 obtain ⟨D,m,j,hn⟩:=m;refine iB H4 xg SS m s true _ ?_;refine ⟨((((f s).getD 0:Nat):Int),(f s).isSome,()),?_,hk⟩;rw [Y8 rfl,mF,j s]
 all_goals (cases f s <;> rfl)
def MQ {f:Xaa->Option Bool} (m:dU eB h g f n) (s:Xaa) {k:Bool->T} (hk:k ((f s).getD false) L K h):T.eh Tryz.prog (Instr.lookup 58 (.map (some g)) (.string s) false) false [(false,[.bool])] k L K h:=by
 obtain ⟨D,m,j,hn⟩:=m;refine iB R0 xg Nv m s false _ ?_;refine ⟨((f s).getD false,()),?_,hk⟩;simp only [Bool.false_eq_true,if_false];rw [mF,j s]
 all_goals (cases f s <;> rfl)
def qG {f:Xaa->Option Nat} (m:dU eI h g f n) {s:Xaa} (hs:s.size<=maxLen) {v:Int} {w:Nat} (hv:v=(w:Int)) {k:T} (hk:∀ h',dU eI h' g (dF f s w) (if (f s).isSome then n else n+1)->Ch [g] h h'->h'.size=h.size->k L K h') :
  T.et Tryz.prog (Instr.mapUpdate 89 (.map (some g)) (.string s) (.int .i64 v)) k L K h:=by
 subst hv;obtain ⟨D,m,j,hn⟩:=m;refine fp H4 xg m hs _ _ ?_;intro h' m' c' u;exact hk h' (dU.jn (en:=eI) j hn m') c' u
def Vi {f:Xaa->Option Bool} (m:dU eB h g f n) {s:Xaa} (hs:s.size<=maxLen) {b:Bool} {k:T} (hk:∀ h',dU eB h' g (dF f s b) (if (f s).isSome then n else n+1)->Ch [g] h h'->h'.size=h.size->k L K h') :
  T.et Tryz.prog (Instr.mapUpdate 58 (.map (some g)) (.string s) (.bool b)) k L K h:=by
 obtain ⟨D,m,j,hn⟩:=m;refine fp R0 xg m hs _ _ ?_;intro h' m' c' u;exact hk h' (dU.jn (en:=eB) j hn m') c' u
def yg {α:Type} {en:α->Xab} {t:TypeId} {k:Option Nat->T} (hk:∀ h',dU en h' h.size (fun _=>none) 0->Ext h h'->h'.size=h.size+1->k (some h.size) L K h'):T.eh Tryz.prog (Instr.makeMap t none) false [(false,[.map 0 0])] k L K h:=by
 refine jJ _ ?_;intro h' m e z;exact ⟨(some h.size,()),rfl,hk h' (dU.new m) e z⟩
def XX {α:Type} {en:α->Xab} {f:Xaa->Option α} (m:dU en h g f n) {k:Int->T} (hk:k (n:Int) L K h):T.eh Tryz.prog (Builtin.len_ #[89] 3 #[.map (some g)]) false [(false,[.int .i64])] k L K h:=by
 obtain ⟨D,m,O,hn⟩:=m;obtain ⟨es,clock,u,G,J,U⟩:=m;have j:es.size=n:=by
  have:=Zl List.length G
  simpa [vE,hn] using this
 show aS _ _ _ _;unfold Builtin.len_;simp only [List.getElem?_toArray,List.getElem?_cons_zero];rw [ao,aF H4];simp only [pure_bind];rw [ao];refine fY u aj _ ?_;simp only [pure_bind];exact ⟨((n:Int),()),by rw [j]; rfl,hk⟩
def Vq {a b:Nat} {k:Int->T} (hk:k ((min a b:Nat):Int) L K h):T.eh Tryz.prog (Builtin.min_ #[3,3] 3 #[.int .i64 (a:Int),.int .i64 (b:Int)]) false [(false,[.int .i64])] k L K h:=by
 show aS _ _ _ _;refine ⟨(((min a b:Nat):Int),()),?_,hk⟩;show Value.int .i64 (if (b:Int)<(a:Int) then (b:Int) else (a:Int))=.int .i64 ((min a b:Nat):Int)
 congr 1
 split <;> omega
end
structure cK where
 name:Xaa
 p:Xac
 l:Nat
 c:Nat
 x:ct
def zD (e:cK):List Xab:=[.string e.name,.slice e.p e.l e.c,.int .u32 e.x.num]
structure tQ (h:Hp) (p:Xac) (l:Nat) (es:List cK):Prop where
 len:l=es.length
 cells:∀ i,(hi:i<es.length)->∃ a,p=some a/\aI h (a.add (i*3)) 0 (zD es[i])
 fw:∀ e,e∈es->gW h e.p e.l e.x.ai
def tQ.ak {h h':Hp} {p:Xac} {l:Nat} {es:List cK} (v:tQ h p l es) (k:Ext h h'):tQ h' p l es :=
 ⟨v.len,fun i hi=>by
  obtain ⟨a,j,hc⟩:=v.cells i hi;exact ⟨a,j,aT k aj _ _ hc⟩,fun e u=>(v.fw e u).ak k aj⟩
def kr (es:List cK) (s:Xaa):Option Nat:=es.findIdx? fun e=>decide (e.name=s)
def Fx {es:List cK} {e:cK} (hn:∀ d,d∈es->d.name≠e.name) (s:Xaa):kr (es++[e]) s=dF (kr es) e.name es.length s:=by
 unfold kr dF;rw [bf9]
 by_cases h:s=e.name
 ·subst h
  have:es.findIdx? (fun d=>decide (d.name=e.name))=none:=by
   rw [ZB];intro d u;simpa using hn d u
  rw [this];simp [List.findIdx?_cons]
 ·have:¬ e.name=s:=fun k=>h k.symm
  rw [Y2 h];cases j:es.findIdx? (fun d=>decide (d.name=s)) with
  | none=>show _=List.findIdx? _ es; rw [j]; simp [List.findIdx?_cons,this]
  | some k=>show _=List.findIdx? _ es; rw [j]; simp
def FQ {es:List cK} {s:Xaa} (h:∀ d,d∈es->d.name≠s):kr es s=none:=by
 unfold kr;rw [ZB];intro d j;simpa using h d j
def zN {h:Hp} {p:Xac} {l c:Nat} {es:List cK} (v:tQ h p l es) (hl:es.length<=2^40) (hn:(es.map (·.name)).Nodup) (hs:∀ e,e∈es->e.name.size<=maxLen) :
  HC Tryz.prog 64 #[.slice p l c] h fun w h'=>(∃ g,w=.map (some g)/\dU eI h' g (kr es) es.length/\h.size<=g)/\Ext h h':=by
 refine bd (args:=[.slice p l c]) mixed Tryz.func64 ax (xv p l c) ?_;unfold tB bf bk bH aP bU aG bj bY aR;refine yg (en:=eI) ?_;intro h1 m1 e1 z1;have hll:=v.len;refine aX (cs:=[(false,[.int .i64])]) (fun x w h'=>∃ i:Nat,x.1=(i:Int)/\i<=es.length/\w=es.length-i/\dU eI h' h.size (kr (es.take i)) i/\Ext h h') ((0:Int),()) es.length rfl ⟨0,rfl,ad,ad,m1,e1⟩ ?_;rintro ⟨n2,⟨⟩⟩ w h2 ⟨i,hi,Y,rfl,V,e2⟩;simp only at hi;subst hi;refine an ?_;refine aQ (fun g1=>?_) (fun g1=>?_)
 ·have u:i<es.length:=ad
  obtain ⟨a,rfl,hc⟩:=(v.ak e2).cells i u;have J:es.take (i+1)=es.take i++[es[i]]:=Y3 u;have O:=hs es[i] (Y9 u);have G:∀ d,d∈es.take i->d.name≠es[i].name:=by
   intro d hd Z;obtain ⟨j,hj,rfl⟩:=Zu hd;rw [Zp] at hj;rw [List.getElem_take] at Z;exact bs9.1 hn j i (by rw [Y0]; omega) (by rw [Y0]; omega) ad (by simpa using Z)
  generalize es[i]=e at hc J O G;refine ay ⟨ad,ad⟩ (aw rfl ?_);rw [show Int.toNat (i:Int)=i from ad];refine az (e.name,(e.p,e.l,e.c),(e.x.num:Int),()) hc (an ?_);refine bm ?_;intro h3 b3 e3 z3;refine ar b3 rfl aj ?_;intro h4 X k4 z4;have X:bF h4 h2.size 100 [.string e.name,.slice e.p e.l e.c,.int .u32 e.x.num]:=X;have U:Ext h2 h4:=bR e3 k4;refine af X (e.name,()) rfl (an ?_);refine qG (w:=i) (V.ak U aj) O rfl ?_;intro h5 m5 k5 z5;have hw:=iA i;have hf:kr (es.take (i+1))=dF (kr (es.take i)) e.name i:=by
   rw [J]
   funext s
   rw [Fx G,Zp,ac9 ad]
  rw [FQ G] at m5;refine aH (cs:=[(false,[.int .i64])]) (((i+1:Nat):Int),()) (es.length-(i+1)) rfl ad (Zl (fun z=>[Value.int .i64 z]) hw) ⟨i+1,rfl,ad,rfl,by rw [hf]; exact m5,bR (e2.trans U) k5⟩
 ·have hi:i=es.length:=ad
  subst hi;rw [ZA] at V;exact ⟨⟨_,rfl,V,Zh _⟩,e2⟩
def rh (of:Xaa->Option ct) (t:Xaa × Nat):dc:=match of t.1 with
 | none=>[t]
 | some y=>y.ai.map fun u=>(u.1,t.2*u.2 % 4294967296)
def gh (of:Xaa->Option ct) (n:Nat) (t:Xaa × Nat):Nat:=match of t.1 with
 | none=>n
 | some y=>(n+t.2*y.num % 4294967296) % 4294967296
def de (of:Xaa->Option ct) (x:ct):ct:=⟨DW (x.ai.flatMap (rh of)),x.ai.foldl (gh of) x.num⟩
structure rm where
 p:Xac
 l:Nat
 c:Nat
 x:ct
def eL (y:rm):Xab:=iI y.p y.l y.c y.x
structure GS (h:Hp) (g:Nat) (f:Xaa->Option rm) (n:Nat):Prop where
 map:dU eL h g f n
 fw:∀ s y,f s=some y->gW h y.p y.l y.x.ai
def GS.ak {ws:List Nat} {h h':Hp} {g:Nat} {f:Xaa->Option rm} {n:Nat} (m:GS h g f n) (k:Ch ws h h') (hw:g∉ws) (hi:∀ s y,f s=some y->∀ i,i∈aM y.p->i∉ws):GS h' g f n :=
 ⟨m.map.ak k hw,fun s y hy=>(m.fw s y hy).ak k (hi s y hy)⟩
def Wa:Tryz.prog.underlying 149=some (.map 9 69):=ax
def Wt:(Tryz.prog.info? 69).bind (·.zero)=some (.agg #[.slice none 0 0,.int .u32 0]):=ax
def AE {L:Lp} {K:Xab->Hp->Prop} {h:Hp} {g n:Nat} {f:Xaa->Option rm} (m:dU eL h g f n) (s:Xaa) {k:Xac->Nat->Nat->Int->Bool->T} (h1:∀ y,f s=some y->k y.p y.l y.c (y.x.num:Int) true L K h) (h0:f s=none->k none 0 0 0 false L K h) :
  T.eh Tryz.prog (Instr.lookup 149 (.map (some g)) (.string s) true) true [(true,[.slice 117,.int .u32]),(false,[.bool])] k L K h:=by
 obtain ⟨D,m,u,hn⟩:=m;refine iB Wa xg Wt m s true _ ?_;rw [Y8 rfl,mF,u s];cases j:f s with
 | none=>exact ⟨((none,0,0),(0:Int),false,()),rfl,h0 j⟩
 | some y=>exact ⟨((y.p,y.l,y.c),(y.x.num:Int),true,()),rfl,h1 y j⟩
def L0 {L:Lp} {K:Xab->Hp->Prop} {h:Hp} {g n:Nat} {f:Xaa->Option rm} (m:dU eL h g f n) {s:Xaa} (hs:s.size<=maxLen) (y:rm) {k:T} (hk:∀ h',dU eL h' g (dF f s y) (if (f s).isSome then n else n+1)->Ch [g] h h'->h'.size=h.size->k L K h') :
  T.et Tryz.prog (Instr.mapUpdate 149 (.map (some g)) (.string s) (.agg #[.slice y.p y.l y.c,.int .u32 (y.x.num:Int)])) k L K h:=by
 obtain ⟨D,m,j,hn⟩:=m;refine fp Wa xg m hs _ _ ?_;intro h' m' c' u;exact hk h' (dU.jn (en:=eL) j hn m') c' u
def Vj (r:Option Nat) (p:Xac) (l:Nat) (u:Xax) (lv:Nat) (k:T):T :=
  T.loop [aR] [.int .i64 (0:Int)] <| fun (j:Int) =>
  bH j l
  (T.need (fx j l) <|
  T.bG p <| fun (a26:Xax) =>
  T.ah (a26.add (aP j 2)) [.string,.int .u32] <| fun (G:Xaa) (J:Int) =>
  T.new [bY,aG (0:Int)] 117 <| fun (a29:Xax) =>
  T.aC a29 [.string G,aG J] <|
  T.ah a29 [.string] <| fun (Xg:Xaa) =>
  bU (Instr.lookup 183 (.map r) (.string Xg) false) false [(false,[.int .u32])] <| fun (O:Int) =>
  T.ah (u.add 1) [.int .u32] <| fun (U:Int) =>
  T.ah (a29.add 1) [.int .u32] <| fun (V:Int) =>
  T.et Tryz.prog (Instr.mapUpdate 183 (.map r) (.string Xg) (aG (IntKind.wrap .u32 (O+(IntKind.wrap .u32 (U*V)))))) <|
  T.again lv [.int .i64 (bt (j+(1:Int)))]) k
def Qv {L:Lp} {K:Xab->Hp->Prop} {h:Hp} {g ga q:Nat} {nm:Xaa} {p:Xac} {l:Nat} {us D:dc} {k:T} {lv:Nat} (Z:L.length=lv) (v:gW h p l us) (hl:us.length<=2^40) (hs:∀ t,t∈us->t.1.size<=maxLen) (m:dW h g (vm D)) (hg:us≠[]->g∉aM p)
  (ba:bF h ga 117 [.string nm,.int .u32 (q:Int)]) (hga:ga≠g)
  (hk:∀ J h',dW h' g (vm ((us.map fun u=>(u.1,q*u.2 % 4294967296)).foldl ja D))->Ch [g] h h'->k (L++[J]) K h'):Vj (some g) p l ⟨ga,0,none⟩ lv k L K h:=by
 have hll:=v.len;have hL:∀ J:List Xab->Hp->Prop,(L++[J])[lv]?=some J:=by intro J; subst Z; simp
 unfold Vj bH aP bU bt fx aG bY aR;refine aX (cs:=[(false,[.int .i64])]) (fun y w h'=>∃ (i:Nat),y.1=(i:Int)/\i<=us.length/\w=us.length-i/\Ch [g] h h'/\dW h' g (vm (((us.take i).map fun u=>(u.1,q*u.2 % 4294967296)).foldl ja D))) ((0:Int),()) us.length rfl
  ⟨0,rfl,ad,ad,Ch.refl _ _,by simpa using m⟩ ?_
 rintro ⟨n8,⟨⟩⟩ w h4 ⟨i,hi,hile,rfl,X,m4⟩;simp only at hi;subst hi;refine an ?_;refine aQ (fun g1=>?_) (fun g1=>?_)
 ·have G:i<us.length:=ad
  obtain ⟨a,rfl,hc⟩:=(v.ak X (by intro j hj hm; rw [Zi] at hm; subst hm; exact hg (List.ne_nil_of_length_pos ad) hj)).cells i G;have U:us.take (i+1)=us.take i++[us[i]]:=Y3 G;have V:=hs us[i] (Y9 G);generalize us[i]=t at hc U V;refine ay ⟨ad,ad⟩ (aw rfl ?_);rw [show Int.toNat (i:Int)=i from ad];refine az (t.1,(t.2:Int),()) hc (an ?_);refine bm ?_;intro h5 b5 e5 z5;refine ar b5 rfl aj ?_;intro h6 Y k6 z6;have Y:bF h6 h4.size 117 (df t):=Y;have O:Ext h4 h6:=bR e5 k6;have m6:=m4.ak O aj;have a6:=(ba.ak X (by simpa using hga)).ak O aj;refine af Y (t.1,()) rfl (an ?_);refine px m6 _ ?_;rw [aE];refine af a6 ((q:Int),()) rfl (an ?_);rw [aE];refine af Y ((t.2:Int),()) rfl (an ?_);generalize hDD:((us.take i).map fun u=>(u.1,q*u.2 % 4294967296)).foldl ja D=D' at m6;refine G7 (n:=(dT D' t.1+q*t.2 % 4294967296) % 4294967296) m6 V ?_ ?_
  ·rw [dV,dV,iH,cd9,iH,Int.natCast_mul]
  ·intro h7 m7 k7 z7;have hw:=iA i;have hf:((us.take (i+1)).map fun u=>(u.1,q*u.2 % 4294967296)).foldl ja D=uG D' t.1 ((dT D' t.1+q*t.2 % 4294967296) % 4294967296):=by
    rw [U,Ze,ZY,hDD] <;> rfl
   refine aH (cs:=[(false,[.int .i64])]) (((i+1:Nat):Int),()) (us.length-(i+1)) (hL _) ad (Zl (fun z=>[Value.int .i64 z]) hw) ⟨i+1,rfl,ad,rfl,?_,by rw [hf]; exact m7⟩;exact Ch.trans (Ch.trans X O aj) k7 (fun j hj _=>hj)
 ·have hi:i=us.length:=ad
  subst hi;rw [ZA] at m4;exact hk _ _ m4 X
def Sw (J:Option Nat) (a2:Xax) (n1:Int) (lv:Nat):T :=
 T.new [bj,aG (0:Int)] 69 <| fun (a3:Xax) =>
 T.aC a3 [bj,aG n1] <|
 bK 93 [.map J] false [(false,[.func #[63] #[] false])] <| fun (v4:Xab) =>
 bK 92 [v4] false [(false,[.slice 9])] <| fun (p5:Xac) (l6:Nat) (l7:Nat) =>
 T.loop [aR] [.int .i64 (0:Int)] <| fun (G:Int) =>
 bH G l6
 (T.need (fx G l6) <|
 T.bG p5 <| fun (a9:Xax) =>
 T.ah (a9.add (aP G 1)) [.string] <| fun (j:Xaa) =>
 bU (Instr.lookup 183 (.map J) (.string j) false) false [(false,[.int .u32])] <| fun (O:Int) =>
 cond (O != (0:Int))
  (T.ah a3 [.slice 117] <| fun (U:Xac) (V:Nat) (u:Nat) =>
  bU (Instr.lookup 183 (.map J) (.string j) false) false [(false,[.int .u32])] <| fun (X:Int) =>
  bU (Instr.buildSlice 66 1 #[(0,.agg #[.string j,aG X])]) false [dh] <| fun (p16:Xac) (l17:Nat) (Y:Nat) =>
  bU (Builtin.append_ #[66,66] 66 #[.slice U V u,.slice p16 l17 Y]) false [dh] <| fun (Z:Xac) (l20:Nat) (l21:Nat) =>
  T.aC a3 [.slice Z l20 l21] <|
  T.again lv [.int .i64 (bt (G+(1:Int)))])
  (T.again lv [.int .i64 (bt (G+(1:Int)))]))
 (T.ah a3 [.slice 117,.int .u32] <| fun (p9:Xac) (l10:Nat) (l11:Nat) (n12:Int) =>
 T.aC a2 [.slice p9 l10 l11,aG n12] <|
 T.ah a2 [.slice 117,.int .u32] <| fun (p13:Xac) (u:Nat) (l15:Nat) (n16:Int) =>
 T.ret (.agg #[.slice p13 u l15,aG n16]))
def MA {L:Lp} {K:Xab->Hp->Prop} {h:Hp} {g g2:Nat} {D:dc} {lv:Nat} (hlv:L.length=lv) (m:dW h g (vm D)) (hl:D.length<=2^40) (n:Int) (c0:bF h g2 69 [.slice none 0 0,.int .u32 0])
  (hk:∀ p l c h',SL h' h.size 117 2 p l c ((D5 D).map df)->Ch [g2] h h'->K (.agg #[.slice p l c,.int .u32 n]) h'):Sw (some g) ⟨g2,0,none⟩ n lv L K h:=by
 have hL:∀ J:List Xab->Hp->Prop,(L++[J])[lv]?=some J:=by intro J; subst hlv; simp
 have hg2:=c0.lt;unfold Sw bH aP bK bU bt fx aG bj aR dh;refine bm ?_;intro h2 b2 e2 z2;refine ar b2 rfl aj ?_;intro h3 b3 k3 z3;have b3:bF h3 h.size 69 [.slice none 0 0,.int .u32 n]:=b3;have e3:Ext h h3:=bR e2 k3;have m3:=m.ak e3 aj;have c3:bF h3 g2 69 [.slice none 0 0,.int .u32 0]:=c0.ak e3 aj;refine aJ (IF (some g) h3) ?_;rintro _ h4 ⟨rfl,rfl⟩;refine ⟨(.func (.func 117) #[] #[.pointer (some ⟨h3.size,0,none⟩)],()),rfl,an ?_⟩;have e4:Ext h3 (h3.push (.cells #[.map (some g)] 183)):=Ext.push _ _;have Z:(vm D).length<=2^40:=by unfold vm; rw [Y0]; exact hl
 refine aJ (sE m3 Z) ?_;rintro _ h5 ⟨pk,lk,ck,rfl,sk,e5⟩;refine ⟨((pk,lk,ck),()),rfl,an ?_⟩;have u:=e4.trans e5;have U:(keysOf (vm D)).length<=2^40:=by
  unfold keysOf;rw [List.length_mergeSort,Y0];exact Z
 have hlk:lk=(keysOf (vm D)).length:=by rw [sk.1,Y0]
 unfold D5 at hk;generalize keysOf (vm D)=ks at sk U hlk hk;have b5:=b3.ak u aj;have c5:=c3.ak u aj;have m5:=m3.ak u aj;have e05:=e3.trans u;have hz3:=u.size;have hb3:=b3.lt;have hg:=m.lt;refine aX (cs:=[(false,[.int .i64])]) (fun x w h'=>∃ (i:Nat) (p:Xac) (l c:Nat),x.1=(i:Int)/\i<=ks.length/\w=ks.length-i/\Ch [h.size] h5 h'/\bF h' h.size 69 [.slice p l c,.int .u32 n] /\
  SL h' h5.size 117 2 p l c (((ks.take i).filterMap fun k=>if dT D ⟨k.toArray⟩=0 then none else some ((⟨k.toArray⟩:Xaa),dT D ⟨k.toArray⟩)).map df)/\l<=i) ((0:Int),()) ks.length rfl
  ⟨0,none,0,0,rfl,ad,ad,Ch.refl _ _,b5,SL.nil _ _ _ _,ad⟩ ?_
 rintro ⟨n8,⟨⟩⟩ w h6 ⟨i,p,l,c,hi,hile,rfl,V,b6,X,hli⟩;simp only at hi;subst hi;refine an ?_;have m6:=m5.ak V (by simp; omega);have hz6:=V.size;have e06:Ext h h6:=bR e05 V;refine aQ (fun g1=>?_) (fun g1=>?_)
 ·have O:i<ks.length:=ad
  have sk6:=sk.bM V (fun j G=>by have:=(sk.cr G).1; simp; omega);obtain ⟨a,rfl,hc⟩:=sk6.cells (i:=i) (by simpa using O);rw [Zb] at hc;have Y:ks.take (i+1)=ks.take i++[ks[i]]:=Y3 O;generalize ks[i]=k at hc Y;refine ay ⟨ad,ad⟩ (aw rfl ?_);rw [show Int.toNat (i:Int)=i from ad];refine az ((⟨k.toArray⟩:Xaa),()) hc (an ?_);have hw:=iA i;refine px m6 _ (av (fun g2=>?_) (fun g2=>?_))
  ·have g2:((dT D ⟨k.toArray⟩:Nat):Int)≠0:=by simpa using g2
   refine af b6 ((p,l,c),()) rfl (an ?_);refine px m6 _ ?_;refine mz (vs:=df (⟨k.toArray⟩,dT D ⟨k.toArray⟩)) zn sZ rfl ad ad ax rfl rfl X hz6 ad ad ?_;intro p' c' h7 s7 k7 hp7;have b7:=b6.ak k7 (fun hh=>by have:=(X.cr hh).1; omega);refine ar b7 rfl aj ?_;intro h8 b8 k8 z8;refine aH (cs:=[(false,[.int .i64])]) (((i+1:Nat):Int),()) (ks.length-(i+1)) (hL _) ad (Zl (fun z=>[Value.int .i64 z]) hw) ⟨i+1,p',l+1,c',rfl,ad,rfl,?_,b8,?_,ad⟩
   ·exact Ch.trans (Ch.trans V k7 (fun j G hl=>by have:=(X.cr G).1; omega)) k8 (fun j G _=>G)
   ·rw [Y,bb9,Ze];have hf:([k].filterMap fun k=>if dT D ⟨k.toArray⟩=0 then none else some ((⟨k.toArray⟩:Xaa),dT D ⟨k.toArray⟩))=[((⟨k.toArray⟩:Xaa),dT D ⟨k.toArray⟩)]:=by
     simp only [List.filterMap_cons,List.filterMap_nil];rw [Y2 ad]
    rw [hf];exact s7.bM k8 (fun j G=>by have:=(s7.cr G).1; simp; omega)
  ·have g2:((dT D ⟨k.toArray⟩:Nat):Int)=0:=by simpa using g2
   refine aH (cs:=[(false,[.int .i64])]) (((i+1:Nat):Int),()) (ks.length-(i+1)) (hL _) ad (Zl (fun z=>[Value.int .i64 z]) hw) ⟨i+1,p,l,c,rfl,ad,rfl,V,b6,?_,ad⟩;rw [Y,bb9];have hf:([k].filterMap fun k=>if dT D ⟨k.toArray⟩=0 then none else some ((⟨k.toArray⟩:Xaa),dT D ⟨k.toArray⟩))=[]:=by
    simp only [List.filterMap_cons,List.filterMap_nil];rw [Y8 ad]
   rw [hf,ZQ];exact X
 ·have hi:i=ks.length:=ad
  subst hi;rw [ZA] at X;have c6:=c5.ak V (by simp; omega);refine af b6 ((p,l,c),n,()) rfl (an ?_);refine ar c6 rfl aj ?_;intro h7 b7 k7 z7;have b7:bF h7 g2 69 [.slice p l c,.int .u32 n]:=b7;refine af b7 ((p,l,c),n,()) rfl ?_;have hz5:=e05.size;exact hk _ _ _ _ ((X.bM k7 (fun j G=>by have:=(X.cr G).1; simp; omega)).mono ad) (Ch.trans (e06.mono aj) k7 (fun j G hl=>G))
def Eu {h:Hp} {p:Xac} {l c:Nat} {x:ct} (v:gW h p l x.ai) {g n:Nat} {f:Xaa->Option rm} (m:GS h g f n) (hl:x.ai.length<=2^40) (hs:∀ t,t∈x.ai->t.1.size<=maxLen) (hy:∀ s y,f s=some y->y.x.ai.length<=2^40/\∀ t,t∈y.x.ai->t.1.size<=maxLen)
  (hN:(x.ai.flatMap (rh fun s=>(f s).map (·.x))).length<=2^40) :
  HC Tryz.prog 66 #[iI p l c x,.map (some g)] h fun w h'=>(∃ p' l' c',w=iI p' l' c' (de (fun s=>(f s).map (·.x)) x)/\SL h' h.size 117 2 p' l' c' ((de (fun s=>(f s).map (·.x)) x).ai.map df))/\Ext h h':=by
 refine bd (args:=[iI p l c x,.map (some g)]) mixed Tryz.func66 ax (DA p l c x.num (some g)) ?_;unfold Cv bf bk bH aP bK br bU aG bj bY aR cn;have hll:=v.len;refine bm ?_;intro h1 b1 e1 z1;refine bm ?_;intro h2 b2 e2 z2;refine jJ _ ?_;intro h3 m3 e3 z3;refine ⟨(some h2.size,()),rfl,an ?_⟩;have b13:=(b1.ak e2 aj).ak e3 aj;have b23:=b2.ak e3 aj;have e03:=(e1.trans e2).trans e3;rw [aE];refine af b13 ((x.num:Int),()) rfl (an ?_);refine af b13 ((p,l,c),()) rfl (an ?_);have hh:h1.size=h.size+1:=z1;generalize hof:(fun s=>(f s).map (·.x))=of at hN;have Z:∀ s,of s=(f s).map (·.x):=fun s=>by rw [<- hof]
 refine aX (cs:=[(false,[.int .u32]),(false,[.int .i64])]) (fun y w h'=>∃ i:Nat,y.2.1=(i:Int)/\i<=x.ai.length/\w=x.ai.length-i/\y.1=(((x.ai.take i).foldl (gh of) x.num:Nat):Int)/\Ch [h2.size] h3 h'/\dW h' h2.size (vm (((x.ai.take i).flatMap (rh of)).foldl ja [])))
  ((x.num:Int),(0:Int),()) x.ai.length rfl ⟨0,rfl,ad,ad,rfl,Ch.refl _ _,m3⟩ ?_
 rintro ⟨n9,n10,⟨⟩⟩ w h4 ⟨i,hi,hile,rfl,hn9,k4,m4⟩;simp only at hi hn9;subst hi hn9;refine an ?_;have e04:Ext h h4:=bR e03 k4;have hz4:=k4.size;refine aQ (fun g1=>?_) (fun g1=>?_)
 ·have O:i<x.ai.length:=ad
  obtain ⟨a,rfl,hc⟩:=(v.ak e04 aj).cells i O;have htk:x.ai.take (i+1)=x.ai.take i++[x.ai[i]]:=Y3 O;have hsz:=hs x.ai[i] (Y9 O);generalize x.ai[i]=t at hc htk hsz;have hw:=iA i;refine ay ⟨ad,ad⟩ (aw rfl ?_);rw [show Int.toNat (i:Int)=i from ad];refine az (t.1,(t.2:Int),()) hc (an ?_);refine bm ?_;intro h5 b5 e5 z5;refine ar b5 rfl aj ?_;intro h6 b6 k6 z6;have b6:bF h6 h4.size 117 [.string t.1,.int .u32 (t.2:Int)]:=b6;have U:Ext h4 h6:=bR e5 k6;have m6:=m4.ak U aj;have e06:=e04.trans U;have hz6:=U.size;refine af b6 (t.1,()) rfl (an ?_);have G:((x.ai.take (i+1)).flatMap (rh of)).foldl ja []=(rh of t).foldl ja (((x.ai.take i).flatMap (rh of)).foldl ja []):=by
   rw [htk,ab9,ZY]
   simp
  have V:(x.ai.take (i+1)).foldl (gh of) x.num=gh of ((x.ai.take i).foldl (gh of) x.num) t:=by
   rw [htk,ZY]; rfl
  generalize (x.ai.take i).foldl (gh of) x.num=nn at V ⊢;generalize ((x.ai.take i).flatMap (rh of)).foldl ja []=D' at G m6 ⊢;refine AE (m.map.ak e06 aj) t.1 (fun y X=>?_) (fun hy0=>?_)
  ·have Y:of t.1=some y.x:=by rw [Z,X]; rfl
   refine bm ?_;intro h7 b7 e7 z7;refine ar b7 rfl aj ?_;intro h8 b8 k8 z8;have b8:bF h8 h6.size 69 [.slice y.p y.l y.c,.int .u32 (y.x.num:Int)]:=b8;have u:Ext h6 h8:=bR e7 k8;refine bP rfl ?_;refine af b8 ((y.p,y.l,y.c),()) rfl (an ?_);have hh2:h2.size=h.size+2:=ad
   refine Qv (q:=t.2) (nm:=t.1) (us:=y.x.ai) rfl ((m.fw _ _ X).ak (e06.trans u) aj) (hy _ _ X).1 (hy _ _ X).2 (m6.ak u aj) (fun hne hb=>by have:=(m.fw _ _ X).UI hne _ hb; omega) (b6.ak u aj) ad ?_;intro J h9 m9 k9;have b69:=(b6.ak u aj).ak k9 (by simp; omega);have b89:=b8.ak k9 (by simp; omega);rw [aE];refine af b69 ((t.2:Int),()) rfl (an ?_);rw [aE];refine af b89 ((y.x.num:Int),()) rfl (an ?_);have hnn:IntKind.wrap .u32 ((nn:Int)+IntKind.wrap .u32 ((t.2:Int)*(y.x.num:Int)))=((gh of nn t:Nat):Int):=by
    unfold gh;rw [Y];simp only;rw [dV,dV,iH,cd9,iH,Int.natCast_mul]
   refine aH (cs:=[(false,[.int .u32]),(false,[.int .i64])]) (((gh of nn t:Nat):Int),((i+1:Nat):Int),()) (x.ai.length-(i+1)) rfl ad (by rw [hnn,hw]; rfl) ⟨i+1,rfl,ad,rfl,by rw [V],Ch.trans (Ch.trans (Ch.trans k4 U aj) u aj) k9 (fun j hj _=>hj),?_⟩;rw [G];unfold rh;rw [Y];exact m9
  ·have Y:of t.1=none:=by rw [Z,hy0]; rfl
   refine bm ?_;intro h7 b7 e7 z7;refine ar b7 rfl aj ?_;intro h8 b8 k8 z8;have u:Ext h6 h8:=bR e7 k8;have b68:=b6.ak u aj;refine bC rfl ?_;refine af b68 (t.1,()) rfl (an ?_);refine px (m6.ak u aj) _ ?_;rw [aE];refine af b68 ((t.2:Int),()) rfl (an ?_);refine G7 (n:=(dT D' t.1+t.2) % 4294967296) (m6.ak u aj) hsz ?_ ?_
   ·rw [dV,iH,cd9]
   ·intro h9 m9 k9 z9;have hnn:gh of nn t=nn:=by unfold gh; rw [Y]
    refine aH (cs:=[(false,[.int .u32]),(false,[.int .i64])]) ((nn:Int),((i+1:Nat):Int),()) (x.ai.length-(i+1)) rfl ad (by rw [hw]; rfl) ⟨i+1,rfl,ad,rfl,by rw [V,hnn],Ch.trans (Ch.trans (Ch.trans k4 U aj) u aj) k9 (fun j hj _=>hj),?_⟩;rw [G];unfold rh;rw [Y];exact m9
 ·have hi:i=x.ai.length:=ad
  subst hi;rw [ZA] at m4 ⊢;have hD:((x.ai.flatMap (rh of)).foldl ja []).length<=2^40:=by
   have:=uS (x.ai.flatMap (rh of)) []
   simp only [List.length_nil,Nat.zero_add] at this;omega
  refine MA (lv:=1) rfl m4 hD _ (b23.ak k4 (by simp; omega)) ?_;intro p' l' c' h9 s9 k9;exact ⟨⟨p',l',c',rfl,s9.mono ad⟩,bR e04 k9⟩
structure TS where
 num:Xaa->Option Nat
 jE:Nat
 low:Xaa->Option Nat
 on:Xaa->Option Bool
 back:Xaa->Option Bool
 cZ:List Xaa
def eK (v:Xaa) (st:TS):TS:={ st with num:=dF st.num v (st.jE+1),jE:=st.jE+1,low:=dF st.low v (st.jE+1),cZ:=st.cZ++[v],on:=dF st.on v true }
def fz (v w:Xaa) (st:TS):TS:=if w=v then { st with back:=dF st.back v true } else st
def JX (v:Xaa) (n:Nat) (st:TS):TS:={ st with low:=dF st.low v (min ((st.low v).getD 0) n) }
def tf (mw:Xaa->TS->TS) (v w:Xaa) (st:TS):TS :=
 if (st.num w).getD 0=0 then JX v (((mw w st).low w).getD 0) (mw w st)
 else if (st.on w).getD false=true then JX v ((st.num w).getD 0) st
 else st
def eJ (own:Xaa->Bool) (mw:Xaa->TS->TS) (v:Xaa) (st:TS) (w:Xaa):TS :=
 if own w=true then tf mw v w (fz v w st) else st
def pt (pT:Bool) (st:TS) (x:Xaa):TS:={ st with on:=dF st.on x false,back:=dF st.back x ((st.back x).getD false || pT) }
def re (v:Xaa) (st:TS):Nat:=st.cZ.findIdx (fun x=>decide (v=x))
def qR (v:Xaa) (st:TS):TS:={ (st.cZ.drop (re v st)).foldl (pt (decide (1<st.cZ.length-re v st))) st with cZ:=st.cZ.take (re v st) }
def cP (own:Xaa->Bool) (succ:Xaa->List Xaa):Nat->Xaa->TS->TS
 | 0,_,st=>st
 | f+1,v,st =>
  if (((succ v).foldl (eJ own (cP own succ f) v) (eK v st)).low v).getD 0<(((succ v).foldl (eJ own (cP own succ f) v) (eK v st)).num v).getD 0 then (succ v).foldl (eJ own (cP own succ f) v) (eK v st)
  else qR v ((succ v).foldl (eJ own (cP own succ f) v) (eK v st))
def B1:TS:=⟨fun _=>none,0,fun _=>none,fun _=>none,fun _=>none,[]⟩
def wy (own:Xaa->Bool) (succ:Xaa->List Xaa) (f:Nat) (st:TS) (v:Xaa):TS:=if (st.num v).getD 0=0 then cP own succ f v st else st
def Gg (own:Xaa->Bool) (succ:Xaa->List Xaa) (names:List Xaa):TS:=names.foldl (wy own succ names.length) B1
def qz (names:List Xaa) (st:TS):Nat:=(names.filter fun v=>(st.num v).isNone).length
structure dC (names:List Xaa) (st:TS):Prop where
 sum:st.jE+qz names st=names.length
 pos:∀ s n,st.num s=some n->1<=n
 cZ:st.cZ.length<=st.jE
 fw:∀ x,x∈st.cZ->st.num x≠Option.none
def dC.none {names:List Xaa} {st:TS} (g:dC names st) {w:Xaa} (h:(st.num w).getD 0=0):st.num w=Option.none:=by
 cases j:st.num w with
 | none=>rfl
 | some n =>
  rw [j] at h
  have:=g.pos w n j
  simp at h;omega
def PK {names:List Xaa} (hn:names.Nodup) {v:Xaa} (hv:v∈names) {f:Xaa->Option Nat} (h0:f v=Option.none) (n:Nat):(names.filter fun s=>(dF f v n s).isNone).length+1=(names.filter fun s=>(f s).isNone).length:=by
 induction names with
 | nil=>simp at hv
 | cons x l u =>
  obtain ⟨hx,hn⟩:=az9.1 hn
  by_cases e:x=v
  ·subst e;have hl:l.filter (fun s=>(dF f x n s).isNone)=l.filter (fun s=>(f s).isNone):=by
    refine List.filter_congr fun s hs=>?_
    rw [cj _ _ (fun k=>hx (by rw [<- k]; exact hs))]
   rw [List.filter_cons,List.filter_cons,cC,h0,hl]
   simp
  ·have j:v∈l:=by
    rcases Zo.1 hv with h | h
    ·exact (e h.symm).elim
    ·exact h
   have:=u hn j
   rw [List.filter_cons,List.filter_cons,cj _ _ e];split
   ·simp only [List.length_cons]; omega
   ·exact this
def AR (pT:Bool) (l:List Xaa):∀ st:TS,(l.foldl (pt pT) st).num=st.num/\(l.foldl (pt pT) st).jE=st.jE/\(l.foldl (pt pT) st).low=st.low:=by
 induction l with
 | nil=>intro st; exact ⟨rfl,rfl,rfl⟩
 | cons x l j =>
  intro st;rw [ZH];exact j _
def nL (v:Xaa) (st:TS):(qR v st).num=st.num:=(AR _ _ _).1
def zw (v:Xaa) (st:TS):(qR v st).jE=st.jE:=(AR _ _ _).2.1
def OU (v:Xaa) (st:TS):(qR v st).low=st.low:=(AR _ _ _).2.2
def vP (v:Xaa) (st:TS):(qR v st).cZ=st.cZ.take (re v st):=rfl
def ix (v w:Xaa) (st:TS):(fz v w st).num=st.num/\(fz v w st).jE=st.jE/\(fz v w st).cZ=st.cZ/\(fz v w st).on=st.on/\(fz v w st).low=st.low:=by
 unfold fz;split <;> exact ⟨rfl,rfl,rfl,rfl,rfl⟩
def dC.self {names:List Xaa} {st:TS} (g:dC names st) (v w:Xaa):dC names (fz v w st):=by
 obtain ⟨h1,h2,h3,_⟩:=ix v w st;exact ⟨by unfold qz; rw [h1,h2]; exact g.sum,by rw [h1]; exact g.pos,by rw [h2,h3]; exact g.cZ,by rw [h1,h3]; exact g.fw⟩
def dC.low {names:List Xaa} {st:TS} (g:dC names st) (v:Xaa) (n:Nat):dC names (JX v n st):=⟨g.sum,g.pos,g.cZ,g.fw⟩
def dC.open {names:List Xaa} (hn:names.Nodup) {st:TS} (g:dC names st) {v:Xaa} (hv:v∈names) (h0:st.num v=Option.none):dC names (eK v st)/\qz names (eK v st)+1=qz names st:=by
 have h1:qz names (eK v st)+1=qz names st:=PK hn hv h0 _;refine ⟨⟨?_,fun s n hs=>?_,?_,fun x hx=>?_⟩,h1⟩
 ·have:=g.sum
  show st.jE+1+qz names (eK v st)=_;omega
 ·have hs:dF st.num v (st.jE+1) s=some n:=hs
  by_cases e:s=v
  ·subst e;rw [cC] at hs
   have:=Zn hs
   omega
  ·rw [cj _ _ e] at hs;exact g.pos s n hs
 ·have:=g.cZ
  show (st.cZ++[v]).length<=st.jE+1
  simp; omega
 ·have hx:x∈st.cZ++[v]:=hx;show dF st.num v _ x≠Option.none
  by_cases e:x=v
  ·subst e; rw [cC]; simp
  ·rw [cj _ _ e];rcases Zk.1 hx with h | h
   ·exact g.fw x h
   ·exact (e (Zi.1 h)).elim
def dC.pop {names:List Xaa} {st:TS} (g:dC names st) (v:Xaa):dC names (qR v st) :=
 ⟨by unfold qz; rw [nL,zw]; exact g.sum,by rw [nL]; exact g.pos,by rw [vP,zw,Zp]; have:=g.cZ; omega,fun x hx=>by rw [nL]; rw [vP] at hx; exact g.fw x (Z7 hx)⟩
def A6 (names:List Xaa) (st j:TS):Prop:=dC names j/\(∀ s n,st.num s=some n->j.num s=some n)/\st.cZ <+: j.cZ
def A6.qz {names:List Xaa} {st j:TS} (h:A6 names st j):qz names j<=qz names st:=by
 unfold Sx.qz;rw [<- List.countP_eq_length_filter,<- List.countP_eq_length_filter];refine List.countP_mono_left fun x hx h'=>?_
 cases u:st.num x with
 | none=>rfl
 | some n=>rw [h.2.1 x n u] at h'; simp at h'
def A6.trans {names:List Xaa} {a b c:TS} (h:A6 names a b) (k:A6 names b c):A6 names a c:=⟨k.1,fun s n hs=>k.2.1 s n (h.2.1 s n hs),h.2.2.trans k.2.2⟩
def A6.refl {names:List Xaa} {a:TS} (h:dC names a):A6 names a a:=⟨h,fun s n hs=>hs,List.prefix_refl _⟩
def NA {names:List Xaa} {mw:Xaa->TS->TS} {f:Nat} (j:∀ w st,dC names st->w∈names->st.num w=Option.none->Sx.qz names st<=f->A6 names st (mw w st)) {v w:Xaa} {st:TS} (g:dC names st) (hw:w∈names) (hu:Sx.qz names st<=f):A6 names st (tf mw v w st):=by
 unfold tf;split
 ·rename_i h0;have h:=j w st g hw (g.none h0) hu;exact ⟨h.1.low v _,h.2.1,h.2.2⟩
 ·split
  ·exact ⟨g.low v _,fun s n hs=>hs,List.prefix_refl _⟩
  ·exact A6.refl g
def ET {names:List Xaa} {own:Xaa->Bool} (hown:∀ s,own s=true->s∈names) {mw:Xaa->TS->TS} {f:Nat} (j:∀ w st,dC names st->w∈names->st.num w=Option.none->Sx.qz names st<=f->A6 names st (mw w st)) {v w:Xaa} {st:TS} (g:dC names st) (hu:Sx.qz names st<=f):A6 names st (eJ own mw v st w):=by
 unfold eJ;split
 ·rename_i u;have h1:A6 names st (fz v w st):=⟨g.self v w,fun s n hs=>by rw [(ix v w st).1]; exact hs,by rw [(ix v w st).2.2.1]; exact List.prefix_refl _⟩
  exact h1.trans (NA j (g.self v w) (hown w u) (ZW h1.qz hu))
 ·exact A6.refl g
theorem Ar {names:List Xaa} {own:Xaa->Bool} (hown:∀ s,own s=true->s∈names) {mw:Xaa->TS->TS} {f:Nat} (j:∀ w st,dC names st->w∈names->st.num w=Option.none->Sx.qz names st<=f->A6 names st (mw w st)) (v:Xaa):∀ (l:List Xaa) (st:TS),dC names st->Sx.qz names st<=f->A6 names st (l.foldl (eJ own mw v) st)
 | [],st,g,hu=>A6.refl g
 | w::l,st,g,hu=>by
  have h1:=ET hown j (v:=v) (w:=w) g hu;rw [ZH];exact h1.trans (Ar hown j v l _ h1.1 (ZW h1.qz hu))
def HU {a b:List Xaa} {v:Xaa} (h:a++[v] <+: b) (hv:v∉a) {st:TS} (hs:st.cZ=b):re v st=a.length/\b.take a.length=a/\a.length<b.length:=by
 obtain ⟨t,rfl⟩:=h;unfold re;rw [hs];refine ⟨?_,aj,aj⟩;rw [Zr,List.findIdx_append,Y2 ?_]
 ·simp [List.findIdx_cons]
 ·rw [List.findIdx_lt_length];rintro ⟨x,hx,e⟩;exact hv (by rw [Y5 e]; exact hx)
def dC.WW {names:List Xaa} {st:TS} (g:dC names st) {v:Xaa} (h0:st.num v=Option.none):v∉st.cZ:=fun hv=>g.fw v hv h0
def Ng {names:List Xaa} (hn:names.Nodup) {v:Xaa} {st:TS} (g:dC names st) (hv:v∈names) (h0:st.num v=Option.none):A6 names st (eK v st) :=
 ⟨(g.open hn hv h0).1,fun s n hs=>by
   show dF st.num v _ s=some n;rw [cj _ _ (fun e=>by rw [e,h0] at hs; cases hs)];exact hs,⟨[v],rfl⟩⟩
theorem sD {names:List Xaa} (hn:names.Nodup) {own:Xaa->Bool} (hown:∀ s,own s=true->s∈names) (succ:Xaa->List Xaa):∀ (f:Nat) (v:Xaa) (st:TS),dC names st->v∈names->st.num v=Option.none->Sx.qz names st<=f->A6 names st (cP own succ f v st)
 | 0,v,st,g,hv,h0,hu=>A6.refl g
 | f+1,v,st,g,hv,h0,hu=>by
  obtain ⟨g1,j⟩:=g.open hn hv h0;have h2:=Ar hown (sD hn hown succ f) v (succ v) _ g1 ad;have h3:=(Ng hn g hv h0).trans h2;unfold cP;split
  ·exact h3
  ·refine ⟨h3.1.pop v,fun s n hs=>by rw [nL]; exact h3.2.1 s n hs,?_⟩;obtain ⟨e1,e2,_⟩:=HU (a:=st.cZ) (v:=v) h2.2.2 (g.WW h0) rfl;rw [vP,e1,e2];exact List.prefix_refl _
def KI {names:List Xaa} (hn:names.Nodup) {own:Xaa->Bool} (hown:∀ s,own s=true->s∈names) (succ:Xaa->List Xaa) {f:Nat} {v:Xaa} {st:TS} (g:dC names st) (hv:v∈names) (h0:st.num v=Option.none) (hu:Sx.qz names st<=f+1) (l:List Xaa) :
  dC names (l.foldl (eJ own (cP own succ f) v) (eK v st))/\Sx.qz names (l.foldl (eJ own (cP own succ f) v) (eK v st))<=f/\st.cZ++[v] <+: (l.foldl (eJ own (cP own succ f) v) (eK v st)).cZ/\∃ n,(l.foldl (eJ own (cP own succ f) v) (eK v st)).num v=some n:=by
 obtain ⟨g1,j⟩:=g.open hn hv h0;have h2:=Ar hown (sD hn hown succ f) v l _ g1 ad;exact ⟨h2.1,by have:=h2.qz; omega,h2.2.2,_,h2.2.1 v (st.jE+1) (cC _ _ _)⟩
def V' (names:List Xaa):dC names B1:=⟨by unfold qz B1; simp,fun s n hs=>(by cases hs),by simp [B1],by simp [B1]⟩
section
variable {E:Xaa->Xaa->Prop}
inductive pF (E:Xaa->Xaa->Prop):Xaa->Xaa->Prop
 | refl (a:Xaa):pF E a a
 | head {a b c:Xaa}:E a b->pF E b c->pF E a c
def pF.trans {a b c:Xaa} (h:pF E a b) (k:pF E b c):pF E a c:=by
 induction h with
 | refl=>exact k
 | head e _ j=>exact .head e (j k)
def pF.one {a b:Xaa} (h:E a b):pF E a b:=.head h (.refl b)
def kq (E:Xaa->Xaa->Prop) (v:Xaa):Prop:=∃ y,E v y/\pF E y v
def kq.of {a b:Xaa} (h:pF E a b) (k:pF E b a) (j:a≠b):kq E a:=by
 cases h with
 | refl=>exact (j rfl).elim
 | head e r=>exact ⟨_,e,r.trans k⟩
structure Inv (E:Xaa->Xaa->Prop) (G:List Xaa) (st:TS):Prop where
 le:∀ s n,st.num s=some n->1<=n/\n<=st.jE
 cZ:∀ x,x∈st.cZ->st.num x≠none
 on:∀ x,(st.on x).getD false=true↔x∈st.cZ
 gr:∀ g,g∈G->g∈st.cZ
 cl:∀ x,st.num x≠none->x∉st.cZ->∀ y,E x y->st.num y≠none/\y∉st.cZ
 bl:∀ x,st.num x≠none->x∉G->∀ y,E x y->st.num y≠none
 rg:∀ x,x∈st.cZ->∃ g,g∈G/\pF E x g
 b0:∀ x,st.num x=none->(st.back x).getD false=false
 bc:∀ x,st.num x≠none->x∉st.cZ->((st.back x).getD false=true↔kq E x)
 bw:∀ x,x∈st.cZ->(st.back x).getD false=true->E x x
 bb:∀ x,x∈st.cZ->x∉G->E x x->(st.back x).getD false=true
def Inv.low {G:List Xaa} {st:TS} (i:Inv E G st) (v:Xaa) (n:Nat):Inv E G (JX v n st):=⟨i.le,i.cZ,i.on,i.gr,i.cl,i.bl,i.rg,i.b0,i.bc,i.bw,i.bb⟩
def Inv.TW {G:List Xaa} {st:TS} (i:Inv E G st) {x y:Xaa} (h:pF E x y):st.num x≠none->x∉st.cZ->st.num y≠none/\y∉st.cZ:=by
 induction h with
 | refl=>exact fun h k=>⟨h,k⟩
 | head e _ j=>intro h k; obtain ⟨h2,u⟩:=i.cl _ h k _ e; exact j h2 u
def Inv.self {G:List Xaa} {st:TS} (i:Inv E G st) {v w:Xaa} (hv:v∈G) (O:w=v->E v v):Inv E G (fz v w st):=by
 unfold fz;split
 ·rename_i h;have hw:=i.gr v hv;have hn:=i.cZ v hw;refine ⟨i.le,i.cZ,i.on,i.gr,i.cl,i.bl,i.rg,fun x hx=>?_,fun x hx u=>?_,fun x hx hb=>?_,fun x hx J U=>?_⟩
  ·have j:x≠v:=fun e=>hn (by rw [<- e]; exact hx)
   show (dF st.back v true x).getD false=false;rw [cj _ _ j]; exact i.b0 x hx
  ·have j:x≠v:=fun e=>u (by rw [e]; exact hw)
   show (dF st.back v true x).getD false=true↔_;rw [cj _ _ j]; exact i.bc x hx u
  ·by_cases e:x=v
   ·subst e; exact O h
   ·have hb:(dF st.back v true x).getD false=true:=hb;rw [cj _ _ e] at hb; exact i.bw x hx hb
  ·have j:x≠v:=fun e=>J (by rw [e]; exact hv)
   show (dF st.back v true x).getD false=true;rw [cj _ _ j]; exact i.bb x hx J U
 ·exact i
def Inv.open {G:List Xaa} {st:TS} (i:Inv E G st) {v:Xaa} (h0:st.num v=none):Inv E (v::G) (eK v st):=by
 have hw:v∉st.cZ:=fun h=>i.cZ v h h0
 have j:∀ {x},x≠v->(eK v st).num x=st.num x:=fun h=>cj _ _ h
 have mono:∀ {x},st.num x≠none->(eK v st).num x≠none:=by
  intro x h;rw [j (fun e=>h (by rw [e]; exact h0))]; exact h
 refine ⟨fun s n hs=>?_,fun x hx=>?_,fun x=>?_,fun g O=>?_,fun x hx u y hy=>?_,fun x hx U y hy=>?_,fun x hx=>?_,fun x hx=>?_,fun x hx u=>?_,fun x hx hb=>?_,fun x hx O V=>?_⟩
 ·show 1<=n/\n<=st.jE+1
  by_cases e:s=v
  ·subst e;have hs:dF st.num s (st.jE+1) s=some n:=hs;rw [cC] at hs
   have:=Zn hs
   omega
  ·rw [j e] at hs
   have:=i.le s n hs
   omega
 ·rcases Zk.1 (show x∈st.cZ++[v] from hx) with h | h
  ·exact mono (i.cZ x h)
  ·rw [Zi.1 h];show dF st.num v _ v≠none;rw [cC]; simp
 ·show (dF st.on v true x).getD false=true↔x∈st.cZ++[v]
  by_cases e:x=v
  ·subst e; rw [cC]; simp
  ·rw [cj _ _ e,i.on x]; simp [e]
 ·show g∈st.cZ++[v];rcases Zo.1 O with h | h
  ·simp [h]
  ·exact Zq _ (i.gr g h)
 ·have u:x∉st.cZ++[v]:=u;have J:x≠v:=fun e=>u (by simp [e])
  rw [j J] at hx;obtain ⟨h1,h2⟩:=i.cl x hx (fun h=>u (Zq _ h)) y hy;refine ⟨mono h1,?_⟩;show y∉st.cZ++[v];intro h;rcases Zk.1 h with h | h
  ·exact h2 h
  ·exact h1 (by rw [Zi.1 h]; exact h0)
 ·have J:x≠v:=fun e=>U (by simp [e])
  rw [j J] at hx;exact mono (i.bl x hx (fun h=>U (Zd _ h)) y hy)
 ·rcases Zk.1 (show x∈st.cZ++[v] from hx) with h | h
  ·obtain ⟨g,O,r⟩:=i.rg x h;exact ⟨g,Zd _ O,r⟩
  ·rw [Zi.1 h];exact ⟨v,aj,.refl v⟩
 ·have J:x≠v:=by
   intro e;subst e;have hx:dF st.num x _ x=none:=hx;rw [cC] at hx; cases hx
  rw [j J] at hx;exact i.b0 x hx
 ·have u:x∉st.cZ++[v]:=u;have J:x≠v:=fun e=>u (by simp [e])
  rw [j J] at hx;exact i.bc x hx (fun h=>u (Zq _ h))
 ·rcases Zk.1 (show x∈st.cZ++[v] from hx) with h | h
  ·exact i.bw x h hb
  ·rw [Zi.1 h] at hb;have hb:(st.back v).getD false=true:=hb;rw [i.b0 v h0] at hb; cases hb
 ·have J:x≠v:=fun e=>O (by simp [e])
  rcases Zk.1 (show x∈st.cZ++[v] from hx) with h | h
  ·exact i.bb x h (fun k=>O (Zd _ k)) V
  ·exact (J (Zi.1 h)).elim
def ur (st:TS) (v:Xaa):Nat:=(st.low v).getD 0
def sg (st:TS) (v:Xaa):Nat:=(st.num v).getD 0
def Ss (s0 st:TS):Prop:=∀ s,s0.num s≠none->st.num s=s0.num s/\st.low s=s0.low s/\st.back s=s0.back s
def WB (s0 st:TS):Prop:=∀ s n,s0.num s=none->st.num s=some n->s0.jE<n
def TG (E:Xaa->Xaa->Prop) (v:Xaa) (s0 st:TS) (x:Xaa):Prop:=s0.num x=none/\pF E v x/\∀ y,E x y->y∈s0.cZ->ur st v<=sg st y
structure nV (E:Xaa->Xaa->Prop) (G:List Xaa) (v:Xaa) (s0 st:TS):Prop where
 inv:Inv E G st
 old:Ss s0 st
 jE:s0.jE<=st.jE
 new:WB s0 st
 num:∃ n,st.num v=some n
 cZ:∃ X,st.cZ=s0.cZ++X/\∀ x,x∈X->TG E v s0 st x
 low:ur st v<sg st v->∃ y,y∈s0.cZ/\pF E v y/\st.num y=some (ur st v)
structure Gi (E:Xaa->Xaa->Prop) (own:Xaa->Bool) (G:List Xaa) (v:Xaa) (P:List Xaa) (s0 st:TS):Prop where
 inv:Inv E (v::G) st
 old:Ss s0 st
 jE:s0.jE<=st.jE
 new:WB s0 st
 num:st.num v=some (s0.jE+1)
 cZ:∃ X,st.cZ=s0.cZ++v::X/\∀ x,x∈X->x≠v/\TG E v s0 st x
 low:ur st v<s0.jE+1->∃ y,y∈s0.cZ/\pF E v y/\st.num y=some (ur st v)
 mw:∀ w,w∈P->own w=true->st.num w≠none/\(w∈s0.cZ->ur st v<=sg st w)/\(w=v->(st.back v).getD false=true)
def Gi.start {own:Xaa->Bool} {G:List Xaa} {v:Xaa} {s0:TS} (i:Inv E G s0) (h0:s0.num v=none):Gi E own G v [] s0 (eK v s0):=by
 refine ⟨i.open h0,fun s hs=>?_,Nat.le_succ _,fun s n hs hn=>?_,cC _ _ _,⟨[],rfl,fun x hx=>by simp at hx⟩,fun hl=>?_,fun w hw=>by simp at hw⟩
 ·have j:s≠v:=fun e=>hs (by rw [e]; exact h0)
  exact ⟨cj _ _ j,cj _ _ j,rfl⟩
 ·by_cases e:s=v
  ·subst e;have hn:dF s0.num s (s0.jE+1) s=some n:=hn;rw [cC] at hn
   have:=Zn hn
   omega
  ·have hn:dF s0.num v (s0.jE+1) s=some n:=hn;rw [cj _ _ e,hs] at hn; cases hn
 ·have hl:(dF s0.low v (s0.jE+1) v).getD 0<s0.jE+1:=hl;rw [cC] at hl;simp at hl
def Gi.self {own:Xaa->Bool} {G:List Xaa} {v w:Xaa} {P:List Xaa} {s0 st:TS} (m:Gi E own G v P s0 st) (h0:s0.num v=none) (Z:w=v->E v v) :
  Gi E own G v P s0 (fz v w st)/\(w=v->((fz v w st).back v).getD false=true):=by
 obtain ⟨j,k2,k3,k4,O⟩:=ix v w st;have hb:∀ s,s≠v->(fz v w st).back s=st.back s:=by
  intro s hs;unfold fz;split
  ·exact cj _ _ hs
  ·rfl
 have U:w=v->((fz v w st).back v).getD false=true:=by
  intro e;unfold fz;rw [Y8 e];show (dF st.back v true v).getD false=true;rw [cC]; rfl
 have J:(st.back v).getD false=true->((fz v w st).back v).getD false=true:=by
  intro h;unfold fz;split
  ·show (dF st.back v true v).getD false=true;rw [cC]; rfl
  ·exact h
 refine ⟨⟨m.inv.self aj Z,fun s hs=>?_,by rw [k2]; exact m.jE,fun s n hs hn=>by rw [j] at hn; exact m.new s n hs hn,by rw [j]; exact m.num,?_,?_,fun u hu ho=>?_⟩,U⟩
 ·have V:s≠v:=fun e=>hs (by rw [e]; exact h0)
  rw [j,O,hb s V];exact m.old s hs
 ·obtain ⟨X,hX,hx⟩:=m.cZ;refine ⟨X,by rw [k3]; exact hX,fun x Y=>?_⟩
  have:=hx x Y
  unfold TG ur sg at *;rw [j,O];exact this
 ·unfold ur;rw [j,O];exact m.low
 ·obtain ⟨a,b,c⟩:=m.mw u hu ho;unfold ur sg at *;rw [j,O];exact ⟨a,b,fun e=>J (c e)⟩
def oU (v:Xaa) (n:Nat) (st:TS):ur (JX v n st) v=min (ur st v) n:=by
 unfold ur;show (dF st.low v _ v).getD 0=_;rw [cC]; rfl
def Gi.rest {own:Xaa->Bool} {G:List Xaa} {v w:Xaa} {P:List Xaa} {s0 st:TS} {mw:Xaa->TS->TS} (i0:Inv E G s0) (m:Gi E own G v P s0 st) (h0:s0.num v=none) (hG:∀ g,g∈G->pF E g v) (he:E v w)
  (hb:w=v->(st.back v).getD false=true) (hz:(st.num w).getD 0=0->st.num w=none) (hvis:st.num w=none->(∀ g,g∈v::G->pF E g w)->nV E (v::G) w st (mw w st)) :
  Gi E own G v (P++[w]) s0 (tf mw v w st):=by
 obtain ⟨X,hX,hx⟩:=m.cZ;have hv:st.num v≠none:=by rw [m.num]; simp
 have Z:∀ s,s0.num s≠none->st.num s≠none:=fun s hs=>by rw [(m.old s hs).1]; exact hs
 have J:∀ y,y∈s0.cZ->y∈st.cZ:=fun y hy=>by rw [hX]; exact Zq _ hy
 unfold tf;split
 ·rename_i hw0;have hw:=hz hw0;have hwv:w≠v:=fun e=>hv (by rw [<- e]; exact hw)
  have p:=hvis hw (fun g hg=>by
   rcases Zo.1 hg with h | h
   ·rw [h]; exact .one he
   ·exact (hG g h).trans (.one he))
  generalize mw w st=j at p ⊢;show Gi E own G v (P++[w]) s0 (JX v (ur j w) j);obtain ⟨X2,hX2,hx2⟩:=p.cZ;have O:ur j v=ur st v:=by unfold ur; rw [(p.old v hv).2.1]
  have V:j.num v=some (s0.jE+1):=by rw [(p.old v hv).1]; exact m.num
  refine ⟨p.inv.low v _,fun s hs=>?_,ZW m.jE p.jE,fun s n hs hn=>?_,V,⟨X++X2,?_,fun x hxX=>?_⟩,fun hl=>?_,fun u hu ho=>?_⟩
  ·have hne:s≠v:=fun e=>hs (by rw [e]; exact h0)
   obtain ⟨a,b,c⟩:=m.old s hs;obtain ⟨a2,b2,c2⟩:=p.old s (Z s hs);refine ⟨a2.trans a,?_,c2.trans c⟩;show dF j.low v _ s=_;rw [cj _ _ hne];exact b2.trans b
  ·by_cases h1:st.num s=none
   ·have:=p.new s n h1 hn
    have:=m.jE
    omega
   ·have hn:j.num s=some n:=hn;rw [(p.old s h1).1] at hn;exact m.new s n hs hn
  ·show j.cZ=_;rw [hX2,hX,Zr,bn9]
  ·rcases Zk.1 hxX with h | h
   ·obtain ⟨a,b,c,d⟩:=hx x h;refine ⟨a,b,c,fun y hy U=>?_⟩;rw [oU,O]
    have:=d y hy U
    have e:sg j y=sg st y:=by unfold sg; rw [(p.old y (m.inv.cZ y (J y U))).1]
    show _<=sg j y;omega
   ·obtain ⟨b,c,d⟩:=hx2 x h;refine ⟨fun e=>hv (by rw [<- e]; exact b),?_,pF.head he c,fun y hy U=>?_⟩
    ·apply bt9;intro k;exact Z x k b
    ·rw [oU]
     have:=d y hy (J y U)
     show _<=sg j y;omega
  ·rw [oU,O] at hl ⊢;show ∃ y,y∈s0.cZ/\pF E v y/\j.num y=_
   by_cases hc:ur st v<=ur j w
   ·rw [ac9 hc] at hl ⊢;obtain ⟨y,hy,hr,hn⟩:=m.low hl;exact ⟨y,hy,hr,by rw [(p.old y (m.inv.cZ y (J y hy))).1]; exact hn⟩
   ·rw [Nat.min_eq_right ad] at hl ⊢;obtain ⟨n,hn⟩:=p.num;have h2:=p.new w n hw hn;have h3:=m.jE;obtain ⟨y,hy,hr,Y⟩:=p.low (by unfold sg; rw [hn]; simp; omega);refine ⟨y,?_,pF.head he hr,Y⟩;rw [hX] at hy;rcases Zk.1 hy with h | h
    ·exact h
    ·rcases Zo.1 h with h | h
     ·rw [h,V] at Y
      have:=Zn Y
      omega
     ·have hyst:st.num y≠none:=m.inv.cZ y (by rw [hX]; exact ZE _ (Zd _ h));rw [(p.old y hyst).1] at Y
      have:=m.new y _ (hx y h).2.1 Y
      omega
  ·rw [oU,O];rcases Zk.1 hu with h | h
   ·obtain ⟨a,b,c⟩:=m.mw u h ho;have hn:j.num u=st.num u:=(p.old u a).1;refine ⟨by show j.num u≠none; rw [hn]; exact a,fun k=>?_,fun k=>?_⟩
    ·have:=b k
     have e:sg j u=sg st u:=by unfold sg; rw [hn]
     show _<=sg j u;omega
    ·show (j.back v).getD false=true;rw [(p.old v hv).2.2];exact c k
   ·have h:=Zi.1 h;subst h;obtain ⟨n,hn⟩:=p.num;exact ⟨by show j.num u≠none; rw [hn]; simp,fun k=>(m.inv.cZ u (J u k) hw).elim,fun k=>(hwv k).elim⟩
 ·rename_i hw0;have hw:st.num w≠none:=fun e=>hw0 (by rw [e]; rfl)
  obtain ⟨n,hn⟩:=Option.ne_none_iff_exists'.1 hw;split
  ·rename_i hon;have hwy:=(m.inv.on w).1 hon;have hnn:(st.num w).getD 0=n:=by rw [hn]; rfl
   rw [hnn];refine ⟨m.inv.low v _,fun s hs=>?_,m.jE,m.new,m.num,⟨X,hX,fun x hxX=>?_⟩,fun hl=>?_,fun u hu ho=>?_⟩
   ·have hne:s≠v:=fun e=>hs (by rw [e]; exact h0)
    obtain ⟨a,b,c⟩:=m.old s hs;refine ⟨a,?_,c⟩;show dF st.low v _ s=_;rw [cj _ _ hne];exact b
   ·obtain ⟨a,b,c,d⟩:=hx x hxX;refine ⟨a,b,c,fun y hy U=>?_⟩;rw [oU]
    have:=d y hy U
    show _<=sg st y;omega
   ·rw [oU] at hl ⊢;show ∃ y,y∈s0.cZ/\pF E v y/\st.num y=_
    by_cases hc:ur st v<=n
    ·rw [ac9 hc] at hl ⊢;exact m.low hl
    ·rw [Nat.min_eq_right ad] at hl ⊢;refine ⟨w,?_,.one he,hn⟩;rw [hX] at hwy;rcases Zk.1 hwy with h | h
     ·exact h
     ·rcases Zo.1 h with h | h
      ·rw [h,m.num] at hn
       have:=Zn hn
       omega
      ·have:=m.new w _ (hx w h).2.1 hn
       omega
   ·rw [oU];rcases Zk.1 hu with h | h
    ·obtain ⟨a,b,c⟩:=m.mw u h ho;refine ⟨a,fun k=>?_,c⟩
     have:=b k
     show _<=sg st u;omega
    ·have h:=Zi.1 h;subst h;refine ⟨hw,fun k=>?_,hb⟩;show _<=(st.num u).getD 0;rw [hnn];omega
  ·rename_i hon;refine ⟨m.inv,m.old,m.jE,m.new,m.num,m.cZ,m.low,fun u hu ho=>?_⟩;rcases Zk.1 hu with h | h
   ·exact m.mw u h ho
   ·have h:=Zi.1 h;subst h;exact ⟨hw,fun k=>(hon ((m.inv.on u).2 (J u k))).elim,hb⟩
def Gi.UF {own:Xaa->Bool} {succ:Xaa->List Xaa} {G:List Xaa} {v:Xaa} {s0 st:TS} (hE:∀ a b,E a b↔b∈succ a/\own b=true) (i0:Inv E G s0) (m:Gi E own G v (succ v) s0 st) (hl:ur st v<sg st v):nV E G v s0 st:=by
 obtain ⟨X,hX,hx⟩:=m.cZ;have hnv:sg st v=s0.jE+1:=by unfold sg; rw [m.num]; rfl
 have i:=m.inv;have hvw:v∈st.cZ:=i.gr v aj;have mw:∀ y,E v y->st.num y≠none/\(y∈s0.cZ->ur st v<=sg st y)/\(y=v->(st.back v).getD false=true):=fun y hy=>m.mw y ((hE v y).1 hy).1 ((hE v y).1 hy).2
 obtain ⟨y0,J,O,V⟩:=m.low ad;obtain ⟨g0,Y,Z⟩:=i0.rg y0 J;refine ⟨⟨i.le,i.cZ,i.on,fun g hg=>i.gr g (Zd _ hg),i.cl,fun x hx1 j y hy=>?_,fun x u=>?_,i.b0,i.bc,i.bw,fun x u j U=>?_⟩,m.old,m.jE,m.new,⟨_,m.num⟩,⟨v::X,hX,fun x hxX=>?_⟩,fun _=>⟨y0,J,O,V⟩⟩
 ·by_cases e:x=v
  ·subst e; exact (mw y hy).1
  ·exact i.bl x hx1 (by simp [e,j]) y hy
 ·obtain ⟨g,hg,r⟩:=i.rg x u;rcases Zo.1 hg with h | h
  ·rw [h] at r;exact ⟨g0,Y,(r.trans O).trans Z⟩
  ·exact ⟨g,h,r⟩
 ·by_cases e:x=v
  ·subst e; exact (mw x U).2.2 rfl
  ·exact i.bb x u (by simp [e,j]) U
 ·rcases Zo.1 hxX with h | h
  ·subst h;refine ⟨?_,.refl x,fun y hy hyw=>(mw y hy).2.1 hyw⟩;cases hh:s0.num x with
   | none=>rfl
   | some n =>
    have h1:=(m.old x (by rw [hh]; simp)).1;rw [hh,m.num] at h1
    have:=Zn h1
    have:=(i0.le x n hh).2
    omega
  ·exact (hx x h).2
open Classical in
def TK (pT:Bool) (x:Xaa) (l:List Xaa):∀ st:TS,((l.foldl (pt pT) st).on x).getD false=(if x∈l then false else (st.on x).getD false)/\((l.foldl (pt pT) st).back x).getD false=(if x∈l then ((st.back x).getD false || pT) else (st.back x).getD false)/\(x∉l->(l.foldl (pt pT) st).back x=st.back x):=by
 induction l with
 | nil=>intro st; simp
 | cons y l j =>
  intro st;rw [ZH];obtain ⟨a,b,c⟩:=j (pt pT st y);rw [a,b]
  by_cases e:x=y
  ·subst e;have e1:((pt pT st x).on x)=some false:=cC _ _ _;have e2:((pt pT st x).back x)=some ((st.back x).getD false || pT):=cC _ _ _;rw [e1,e2];refine ⟨aj,by by_cases hm:x∈l <;> simp [hm],fun h=>(h aj).elim⟩
  ·have e1:((pt pT st y).on x)=st.on x:=cj _ _ e;have e2:((pt pT st y).back x)=st.back x:=cj _ _ e;rw [e1,e2];refine ⟨by simp [e],by simp [e],fun h=>?_⟩;rw [c (fun k=>h (Zd _ k)),e2]
open Classical in
def Gi.Ve {own:Xaa->Bool} {succ:Xaa->List Xaa} {G:List Xaa} {v:Xaa} {s0 st:TS} (hE:∀ a b,E a b↔b∈succ a/\own b=true) (i0:Inv E G s0) (m:Gi E own G v (succ v) s0 st) (h0:s0.num v=none) (hG:∀ g,g∈G->pF E g v) (hl:¬ ur st v<sg st v):nV E G v s0 (qR v st):=by
 obtain ⟨X,hX,hx⟩:=m.cZ;have hnv:sg st v=s0.jE+1:=by unfold sg; rw [m.num]; rfl
 have i:=m.inv;have hvw:v∈st.cZ:=i.gr v aj;have mw:∀ y,E v y->st.num y≠none/\(y∈s0.cZ->ur st v<=sg st y)/\(y=v->(st.back v).getD false=true):=fun y hy=>m.mw y ((hE v y).1 hy).1 ((hE v y).1 hy).2
 have ef:v∉s0.cZ:=fun h=>i0.cZ v h h0
 obtain ⟨e1,e2,e3⟩:=HU (a:=s0.cZ) (v:=v) (b:=st.cZ) ⟨X,by rw [hX]; simp⟩ ef rfl;have Y:st.cZ.drop (re v st)=v::X:=by rw [e1,hX]; simp
 have hbig:decide (1<st.cZ.length-re v st)=decide (1<(v::X).length):=by rw [<- Y,Z2]
 have U:(qR v st).cZ=s0.cZ:=by rw [vP,e1,e2]
 have O:=nL v st;have hlow:=OU v st;have hcnt:=zw v st;have hoff:=fun x=>TK (decide (1<(v::X).length)) x (v::X) st
 have hon:∀ x,((qR v st).on x).getD false=(if x∈v::X then false else (st.on x).getD false):=by
  intro x;rw [<- (hoff x).1];unfold qR;rw [Y,hbig]
 have hbk:∀ x,((qR v st).back x).getD false=(if x∈v::X then ((st.back x).getD false || decide (1<(v::X).length)) else (st.back x).getD false):=by
  intro x;rw [<- (hoff x).2.1];unfold qR;rw [Y,hbig]
 have hbo:∀ x,x∉v::X->(qR v st).back x=st.back x:=by
  intro x hh;rw [<- (hoff x).2.2 hh];unfold qR;rw [Y,hbig]
 have hnew:∀ x,x∈v::X->s0.num x=none:=by
  intro x h;rcases Zo.1 h with h | h
  ·rw [h]; exact h0
  ·exact (hx x h).2.1
 have hdis:∀ x,x∈s0.cZ->x∉v::X:=fun x h k=>i0.cZ x h (hnew x k)
 have J:∀ x,x∈st.cZ↔x∈s0.cZ\/x∈v::X:=fun x=>by rw [hX]; exact Zk
 have hlt:∀ y,y∈s0.cZ->¬ ur st v<=sg st y:=by
  intro y hy;obtain ⟨n,hn⟩:=Option.ne_none_iff_exists'.1 (i0.cZ y hy)
  have:=(i0.le y n hn).2
  have e:sg st y=n:=by unfold sg; rw [(m.old y (i0.cZ y hy)).1,hn]; rfl
  omega
 have hblk:∀ x,st.num x≠none->x∉G->∀ y,E x y->st.num y≠none:=by
  intro x V Z y hy
  by_cases e:x=v
  ·subst e; exact (mw y hy).1
  ·exact i.bl x V (by simp [e,Z]) y hy
 have hrv:∀ x,x∈st.cZ->pF E x v:=by
  intro x h;obtain ⟨g,hg,r⟩:=i.rg x h;rcases Zo.1 hg with h | h
  ·rw [h] at r; exact r
  ·exact r.trans (hG g h)
 refine ⟨⟨fun s n hs=>?_,fun x j=>?_,fun x=>?_,fun g hg=>?_,fun x V j y hy=>?_,fun x V Z y hy=>?_,fun x j=>?_,fun x hx0=>?_,fun x V j=>?_,fun x j hb=>?_,fun x j Z hxx=>?_⟩,fun s hs=>?_,by rw [hcnt]; exact m.jE,fun s n hs hn=>by rw [O] at hn; exact m.new s n hs hn,⟨_,by rw [O]; exact m.num⟩,⟨[],by rw [U]; simp,fun x hxX=>by simp at hxX⟩,fun hlt=>?_⟩
 ·rw [O] at hs; rw [hcnt]; exact i.le s n hs
 ·rw [O]; rw [U] at j; exact i.cZ x ((J x).2 (.inl j))
 ·rw [hon,U]
  by_cases h:x∈v::X
  ·rw [Y8 h];exact ⟨fun k=>(by cases k),fun k=>(hdis x k h).elim⟩
  ·rw [Y2 h,i.on x,J];exact ⟨fun k=>k.resolve_right h,.inl⟩
 ·rw [U]; exact i0.gr g hg
 ·rw [O] at V ⊢;rw [U] at j ⊢
  by_cases h:x∈v::X
  ·have Z:x∉G:=fun k=>j (i0.gr x k)
   refine ⟨hblk x V Z y hy,fun hys=>hlt y hys ?_⟩;rcases Zo.1 h with h | h
   ·subst h; exact (mw y hy).2.1 hys
   ·exact (hx x h).2.2.2 y hy hys
  ·obtain ⟨a,b⟩:=i.cl x V (fun k=>((J x).1 k).elim j h) y hy;exact ⟨a,fun k=>b ((J y).2 (.inl k))⟩
 ·rw [O] at V ⊢;exact hblk x V Z y hy
 ·rw [U] at j; exact i0.rg x j
 ·rw [O] at hx0;rw [hbk,Y2 (fun k=>i.cZ x ((J x).2 (.inr k)) hx0)];exact i.b0 x hx0
 ·rw [O] at V;rw [U] at j;rw [hbk]
  by_cases h:x∈v::X
  ·rw [Y8 h]
   by_cases hb:1<(v::X).length
   ·rw [Y6 hb,Bool.or_true];refine ⟨fun _=>?_,fun _=>rfl⟩
    by_cases e:x=v
    ·subst e;obtain ⟨z,hz⟩:∃ z,z∈X:=by
      cases X with
      | nil=>simp at hb
      | cons z X=>exact ⟨z,aj⟩
     exact kq.of (hx z hz).2.2.1 (hrv z ((J z).2 (.inr (Zd _ hz)))) (fun e=>(hx z hz).1 e.symm)
    ·have hxX:x∈X:=(Zo.1 h).resolve_left e;exact kq.of (hrv x ((J x).2 (.inr h))) (hx x hxX).2.2.1 e
   ·rw [Y7 hb,Bool.or_false];have hX0:X=[]:=by
     cases X with
     | nil=>rfl
     | cons z X=>simp at hb
    subst hX0;have e:x=v:=by simpa using h
    subst e;refine ⟨fun k=>⟨x,i.bw x hvw k,.refl x⟩,?_⟩;rintro ⟨u,hu,r⟩;obtain ⟨a,b,c⟩:=mw u hu
    by_cases hus:u∈st.cZ
    ·rcases (J u).1 hus with k | k
     ·exact (hlt u k (b k)).elim
     ·exact c (by simpa using k)
    ·exact ((i.TW r a hus).2 hvw).elim
  ·rw [Y2 h];exact i.bc x V (fun k=>((J x).1 k).elim j h)
 ·rw [U] at j;rw [hbk,Y2 (hdis x j)] at hb;exact i.bw x ((J x).2 (.inl j)) hb
 ·rw [U] at j;rw [hbk,Y2 (hdis x j)];exact i.bb x ((J x).2 (.inl j)) (fun k=>by
   rcases Zo.1 k with k | k
   ·exact ef (by rw [<- k]; exact j)
   ·exact Z k) hxx
 ·have hns:s∉v::X:=fun k=>hs (hnew s k)
  rw [O,hlow,hbo s hns];exact m.old s hs
 ·unfold ur sg at hlt hl;rw [hlow,O] at hlt;exact (hl hlt).elim
end
section
variable {own:Xaa->Bool} {succ:Xaa->List Xaa} {names:List Xaa}
def Edge (own:Xaa->Bool) (succ:Xaa->List Xaa) (a b:Xaa):Prop:=b∈succ a/\own b=true
theorem FL (hn:names.Nodup) (hown:∀ s,own s=true->s∈names) {f:Nat} (j:∀ (v:Xaa) (G:List Xaa) (st:TS),dC names st->Inv (Edge own succ) G st->v∈names->st.num v=Option.none->Sx.qz names st<=f->(∀ g,g∈G->pF (Edge own succ) g v)->nV (Edge own succ) G v st (cP own succ f v st))
  {v:Xaa} {G:List Xaa} {s0:TS} (i0:Inv (Edge own succ) G s0) (h0:s0.num v=Option.none) (hG:∀ g,g∈G->pF (Edge own succ) g v) :
  ∀ (l P:List Xaa) (st:TS),(∀ w,w∈l->w∈succ v)->dC names st->Sx.qz names st<=f->Gi (Edge own succ) own G v P s0 st->Gi (Edge own succ) own G v (P++l) s0 (l.foldl (eJ own (cP own succ f) v) st)
 | [],P,st,hl,g,hu,m=>by simpa using m
 | w::l,P,st,hl,g,hu,m=>by
  rw [ZH,show P++w::l=(P++[w])++l from aj];have O:=ET hown (sD hn hown succ f) (v:=v) (w:=w) g hu;refine FL hn hown j i0 h0 hG l (P++[w]) _ (fun u hu=>hl u (Zd _ hu)) O.1 (ZW O.qz hu) ?_;unfold eJ;split
  ·rename_i U;have V:Edge own succ v w:=⟨hl w aj,U⟩
   obtain ⟨Z,hb⟩:=m.self (w:=w) h0 (fun e=>by rw [e] at V; exact V);have g1:=g.self v w;have X:Sx.qz names (fz v w st)<=f:=by unfold Sx.qz; rw [(ix v w st).1]; exact hu
   exact Z.rest i0 h0 hG V hb (fun hz=>g1.none hz) (fun hw Y=>j w (v::G) _ g1 Z.inv (hown w U) hw X Y)
  ·rename_i U;refine ⟨m.inv,m.old,m.jE,m.new,m.num,m.cZ,m.low,fun u hu J=>?_⟩;rcases Zk.1 hu with h | h
   ·exact m.mw u h J
   ·rw [Zi.1 h] at J;exact (U J).elim
theorem AL (hn:names.Nodup) (hown:∀ s,own s=true->s∈names):∀ (f:Nat) (v:Xaa) (G:List Xaa) (st:TS),dC names st->Inv (Edge own succ) G st->v∈names->st.num v=Option.none->Sx.qz names st<=f->(∀ g,g∈G->pF (Edge own succ) g v)->nV (Edge own succ) G v st (cP own succ f v st)
 | 0,v,G,st,g,i,hv,h0,hu,hG=>by
  have:=(g.open hn hv h0).2
  omega
 | f+1,v,G,st,g,i,hv,h0,hu,hG=>by
  obtain ⟨g1,j⟩:=g.open hn hv h0;have m:=FL hn hown (AL hn hown f) i h0 hG (succ v) [] _ (fun _ h=>h) g1 ad (Gi.start i h0);rw [aq9] at m;unfold cP;split
  ·rename_i hl;exact m.UF (fun a b=>Iff.rfl) i hl
  ·rename_i hl;exact m.Ve (fun a b=>Iff.rfl) i h0 hG hl
def Xw (E:Xaa->Xaa->Prop):Inv E [] B1:=by
 refine ⟨fun s n hs=>(by cases hs),fun x hx=>by simp [B1] at hx,fun x=>by simp [B1],fun g j=>by simp at j,fun x hx=>(hx rfl).elim,fun x hx=>(hx rfl).elim,fun x hx=>by simp [B1] at hx,fun x hx=>rfl,fun x hx=>(hx rfl).elim,fun x hx=>by simp [B1] at hx,fun x hx=>by simp [B1] at hx⟩
structure U5 (own:Xaa->Bool) (succ:Xaa->List Xaa) (names:List Xaa) (P:List Xaa) (st:TS):Prop where
 CI:dC names st
 inv:Inv (Edge own succ) [] st
 cZ:st.cZ=[]
 mw:∀ s,s∈P->st.num s≠Option.none
def LI (hn:names.Nodup) (hown:∀ s,own s=true->s∈names) {P:List Xaa} {st:TS} (t:U5 own succ names P st) {v:Xaa} (hv:v∈names):U5 own succ names (P++[v]) (wy own succ names.length st v):=by
 have hu:Sx.qz names st<=names.length:=Z8 _ _;unfold wy;split
 ·rename_i h;have h0:=t.CI.none h;have p:=AL hn hown names.length v [] st t.CI t.inv hv h0 hu (fun g j=>by simp at j);have k:=sD hn hown succ names.length v st t.CI hv h0 hu;refine ⟨k.1,p.inv,?_,fun s hs=>?_⟩
  ·cases hw:(cP own succ names.length v st).cZ with
   | nil=>rfl
   | cons x l =>
    obtain ⟨g,j,_⟩:=p.inv.rg x (by rw [hw]; simp);simp at j
  ·rcases Zk.1 hs with h | h
   ·rw [(p.old s (t.mw s h)).1]; exact t.mw s h
   ·rw [Zi.1 h];obtain ⟨n,hn⟩:=p.num;rw [hn]; simp
 ·rename_i h;refine ⟨t.CI,t.inv,t.cZ,fun s hs=>?_⟩;rcases Zk.1 hs with k | k
  ·exact t.mw s k
  ·rw [Zi.1 k];intro e;exact h (by rw [e]; rfl)
def Wy (names:List Xaa):U5 own succ names [] B1:=⟨V' names,Xw _,rfl,fun s hs=>by simp at hs⟩
theorem CC (hn:names.Nodup) (hown:∀ s,own s=true->s∈names):∀ (l P:List Xaa) (st:TS),(∀ s,s∈l->s∈names)->U5 own succ names P st->U5 own succ names (P++l) (l.foldl (wy own succ names.length) st)
 | [],P,st,hl,t=>by simpa using t
 | w::l,P,st,hl,t=>by
  rw [ZH,show P++w::l=(P++[w])++l from aj];exact CC hn hown l _ _ (fun s hs=>hl s (Zd _ hs)) (LI hn hown t (hl w aj))
def kq.RY {v:Xaa} (h:kq (Edge own succ) v):own v=true:=by
 obtain ⟨y,e,r⟩:=h;have key:∀ a b,pF (Edge own succ) a b->own a=true->own b=true:=by
  intro a b r
  induction r with
  | refl=>exact id
  | head e _ j=>exact fun _=>j e.2
 exact key _ _ r e.2
def Hm (hn:names.Nodup) (hown:∀ s,own s=true->s∈names) (s:Xaa):((Gg own succ names).back s).getD false=true↔kq (Edge own succ) s:=by
 have t:U5 own succ names ([]++names) (Gg own succ names):=CC hn hown names [] B1 (fun _ h=>h) (Wy names);rw [aq9] at t
 by_cases h:(Gg own succ names).num s=Option.none
 ·rw [t.inv.b0 s h];refine ⟨fun k=>(by cases k),fun k=>?_⟩;exact (t.mw s (hown s k.RY) h).elim
 ·exact t.inv.bc s h (by rw [t.cZ]; simp)
end
theorem jO {α:Type} [DecidableEq α]:∀ (l m:List α),l.Nodup->(∀ x,x∈l->x∈m)->l.length<=m.length
 | [],m,_,_=>aj
 | x::l,m,hn,hs=>by
  obtain ⟨h1,h2⟩:=az9.1 hn;have hx:=hs x aj
  have:=jO l (m.erase x) h2 (fun y hy=>(List.mem_erase_of_ne (fun e=>h1 (by rw [<- e]; exact hy))).2 (hs y (Zd _ hy)))
  rw [List.length_erase_of_mem hx] at this;have j:=List.length_pos_of_mem hx;simp only [List.length_cons];omega
def pC {of j:Xaa->Option ct} {x:ct} (h:∀ t,t∈x.ai->of t.1=j t.1):de of x=de j x:=by
 have h1:x.ai.flatMap (rh of)=x.ai.flatMap (rh j):=by
  have:∀ l:dc,(∀ t,t∈l->of t.1=j t.1)->l.flatMap (rh of)=l.flatMap (rh j):=by
   intro l
   induction l with
   | nil=>intro _; rfl
   | cons t l G =>
    intro hl;rw [ZG,ZG,G (fun u hu=>hl u (Zd _ hu))]
    congr 1
    unfold rh;rw [hl t aj]
  exact this _ h
 have h2:x.ai.foldl (gh of) x.num=x.ai.foldl (gh j) x.num:=by
  have:∀ (l:dc) (n:Nat),(∀ t,t∈l->of t.1=j t.1)->l.foldl (gh of) n=l.foldl (gh j) n:=by
   intro l
   induction l with
   | nil=>intro n _; rfl
   | cons t l G =>
    intro n hl;rw [ZH,ZH,G _ (fun u hu=>hl u (Zd _ hu))]
    congr 1
    unfold gh;rw [hl t aj]
  exact this _ _ h
 unfold de;rw [h1,h2]
section
variable (own:Xaa->Bool) (lin:Xaa->ct)
def cL:Xaa->List Xaa:=fun v=>(lin v).ai.map (·.1)
def qy:Nat->Xaa->ct
 | 0,v=>lin v
 | f+1,v=>de (fun s=>if own s=true then some (qy f s) else none) (lin v)
end
def Hg (E:Xaa->Xaa->Prop):Nat->Xaa->Prop
 | 0,_=>False
 | k+1,v=>∀ y,E v y->Hg E k y
theorem Oe {E:Xaa->Xaa->Prop} {Q:Xaa->Prop} (h:∀ v,(∀ y,E v y->Q y)->Q v):∀ k v,Hg E k v->Q v
 | 0,v,hv=>hv.elim
 | k+1,v,hv=>h v fun y hy=>Oe h k y (hv y hy)
section
variable {own:Xaa->Bool} {lin:Xaa->ct} {names:List Xaa}
def kZ {v s:Xaa}:s∈cL lin v↔∃ t,t∈(lin v).ai/\t.1=s:=by simp [cL]
theorem x7:∀ (f g:Nat) (v:Xaa),Hg (Edge own (cL lin)) f v->f<=g->qy own lin f v=qy own lin g v
 | 0,g,v,h,_=>h.elim
 | f+1,0,v,h,u=>ad
 | f+1,g+1,v,h,u=>by
  unfold qy;refine pC fun t G=>?_
  show (if own t.1=true then some (qy own lin f t.1) else none)=if own t.1=true then some (qy own lin g t.1) else none
  by_cases j:own t.1=true
  ·rw [Y8 j,Y8 j,x7 f g t.1 (h t.1 ⟨kZ.2 ⟨t,G,rfl⟩,j⟩) ad]
  ·rw [Y2 j,Y2 j]
def VX {E:Xaa->Xaa->Prop} (O:∀ a b,E a b->b∈names) (hc:∀ v,¬ kq E v):∀ (f:Nat) (path:List Xaa) (v:Xaa),path.Nodup->(∀ p,p∈path->p∈names)->(∀ p,p∈path->∃ y,E p y/\pF E y v)->v∈names->names.length<=path.length+f->Hg E f v:=by
 have key:∀ (path:List Xaa) (v:Xaa),(∀ p,p∈path->∃ y,E p y/\pF E y v)->v∉path:=fun path v h hv=>hc v (h v hv)
 intro f
 induction f with
 | zero =>
  intro path v hn G u hv hl;have j:=key path v u
  have:=jO (v::path) names (az9.2 ⟨j,hn⟩) (fun x hx=>by
   rcases Zo.1 hx with h | h
   ·rw [h]; exact hv
   ·exact G x h)
  simp only [List.length_cons] at this;omega
 | succ f U =>
  intro path v hn G u hv hl y hy;have j:=key path v u;refine U (v::path) y (az9.2 ⟨j,hn⟩) (fun x hx=>?_) (fun p J=>?_) (O v y hy) (by simp only [List.length_cons]; omega)
  ·rcases Zo.1 hx with h | h
   ·rw [h]; exact hv
   ·exact G x h
  ·rcases Zo.1 J with h | h
   ·rw [h]; exact ⟨y,hy,.refl y⟩
   ·obtain ⟨z,V,r⟩:=u p h;exact ⟨z,V,r.trans (.one hy)⟩
def Ii (own:Xaa->Bool) (lin:Xaa->ct) (names:List Xaa) (v:Xaa):ct:=qy own lin names.length v
def Jy (own:Xaa->Bool) (lin:Xaa->ct) (names:List Xaa) (s:Xaa):Option ct:=if own s=true then some (Ii own lin names s) else none
def Hu (hown:∀ s,own s=true↔s∈names) (hc:∀ v,¬ kq (Edge own (cL lin)) v) {v:Xaa} (hv:v∈names):Hg (Edge own (cL lin)) names.length v :=
 VX (fun a b e=>(hown b).1 e.2) hc names.length [] v List.nodup_nil (fun p j=>by simp at j) (fun p j=>by simp at j) hv aj
def HM (hown:∀ s,own s=true↔s∈names) (hc:∀ v,¬ kq (Edge own (cL lin)) v) {v:Xaa} (hv:v∈names):Ii own lin names v=de (Jy own lin names) (lin v):=by
 have u:=Hu hown hc hv;unfold Ii;cases G:names.length with
 | zero=>rw [G] at u; exact u.elim
 | succ n =>
  rw [G] at u;unfold qy;refine pC fun t J=>?_
  unfold Jy Ii
  by_cases j:own t.1=true
  ·rw [Y8 j,Y8 j,G,x7 n (n+1) t.1 (u t.1 ⟨kZ.2 ⟨t,J,rfl⟩,j⟩) ad]
  ·rw [Y2 j,Y2 j]
def QV (hown:∀ s,own s=true↔s∈names) (hc:∀ v,¬ kq (Edge own (cL lin)) v) {Q:Xaa->Prop} (h:∀ v,(∀ y,Edge own (cL lin) v y->Q y)->Q v) {v:Xaa} (hv:v∈names):Q v :=
 Oe h names.length v (Hu hown hc hv)
end
def DP {l:dc} {t:Xaa × Nat} (h:t∈DW l):∃ p,p∈l/\p.1=t.1:=by
 apply bt9;intro k;have h0:cf l t.1=0:=yS fun p j e=>k ⟨p,j,e⟩
 have h1:=AF l t.1;rw [h0] at h1;have nf:=zX l;generalize DW l=m at h h1 nf
 induction m with
 | nil=>simp at h
 | cons p m u =>
  rcases Zo.1 h with h | h
  ·subst h;rw [nf.mM] at h1
   have:=(nf.2 t aj).1
   omega
  ·have hl:=nf.head t h;rw [eV,Y2 (jD hl)] at h1;exact u h ad nf.tail
open Classical in
theorem wu (f:Xaa->Nat) (S:List Xaa) (u:S.Nodup):∀ l:dc,(∀ p,p∈l->p.1∈S)->gi f l=(S.map fun s=>cf l s*f s).sum
 | [],_=>by
  have:∀ S:List Xaa,(S.map fun s=>cf [] s*f s).sum=0:=by
   intro S
   induction S with
   | nil=>rfl
   | cons s S j=>rw [ZF,ZU,j,zE]; omega
  rw [this]; rfl
 | p::l,h=>by
  have j:=wu f S u l (fun q G=>h q (Zd _ G));have J:=h p aj;rw [eZ,j];clear j h;have key:∀ S:List Xaa,S.Nodup->(S.map fun s=>cf (p::l) s*f s).sum=(if p.1∈S then p.2*f p.1 else 0)+(S.map fun s=>cf l s*f s).sum:=by
   intro S
   induction S with
   | nil=>intro _; simp
   | cons s S j =>
    intro hn;obtain ⟨h1,h2⟩:=az9.1 hn;rw [ZF,ZU,ZF,ZU,j h2,eV]
    by_cases e:p.1=s
    ·subst e;rw [Y8 rfl,Y2 h1,Y8 aj,Z9];omega
    ·have:(p.1∈s::S)↔p.1∈S:=by simp [e]
     rw [Y2 e,ZJ];simp only [this];omega
  rw [key S u,Y8 J]
def QW {f:Xaa->Nat} {l m:dc} (h:∀ s,cf l s % 4294967296=cf m s % 4294967296):gi f l % 4294967296=gi f m % 4294967296:=by
 obtain ⟨S,j,hl⟩:∃ S:List Xaa,S.Nodup/\∀ p,p∈l++m->p.1∈S:=by
  generalize l++m=w
  induction w with
  | nil=>exact ⟨[],List.nodup_nil,aj⟩
  | cons p w G =>
   obtain ⟨S,j,hw⟩:=G
   by_cases u:p.1∈S
   ·refine ⟨S,j,fun q J=>?_⟩;rcases Zo.1 J with h | h
    ·rw [h]; exact u
    ·exact hw q h
   ·refine ⟨p.1::S,az9.2 ⟨u,j⟩,fun q J=>?_⟩;rcases Zo.1 J with h | h
    ·rw [h]; simp
    ·exact Zd _ (hw q h)
 rw [wu f S j l (fun p u=>hl p (Zq _ u)),wu f S j m (fun p u=>hl p (ZE _ u))];clear j hl
 induction S with
 | nil=>rfl
 | cons s S G =>
  rw [ZF,ZU,ZF,ZU,be9,G,ch9,h s,<- ch9,<- be9]
def MY (f:Xaa->Nat) (l:dc):gi f (DW l) % 4294967296=gi f l % 4294967296:=QW fun s=>by rw [AF,cy9]
def jA (f:Xaa->Nat) (x:ct):Nat:=(x.num+gi f x.ai) % 4294967296
def EB (f:Xaa->Nat) (l m:dc):gi f (l++m)=gi f l+gi f m:=by
 induction l with
 | nil=>simp [gi]
 | cons p l j=>rw [bn9,eZ,eZ,j]; omega
def Gs (f:Xaa->Nat) (n:Nat) (l:dc):gi f (l.map fun u=>(u.1,n*u.2 % 4294967296)) % 4294967296=n*gi f l % 4294967296:=by
 induction l with
 | nil=>simp [gi]
 | cons p l G =>
  rw [ZF,eZ,eZ,be9,G,j,<- be9,Nat.mul_add,Nat.mul_assoc]
where
 j {a b:Nat}:a % 4294967296*b % 4294967296=a*b % 4294967296:=Nr a b
def LL {f g:Xaa->Nat} {of:Xaa->Option ct} (h:∀ s,g s % 4294967296=(match of s with | none=>f s | some y=>jA f y) % 4294967296) (x:ct):jA f (de of x)=jA g x:=by
 unfold jA de;show ((x.ai.foldl (gh of) x.num)+gi f (DW (x.ai.flatMap (rh of)))) % 4294967296=(x.num+gi g x.ai) % 4294967296;rw [be9,MY,<- be9];generalize x.num=n;generalize x.ai=l
 induction l generalizing n with
 | nil=>simp [gi]
 | cons t l G =>
  rw [ZH,ZG,EB,eZ];have e1:(l.foldl (gh of) (gh of n t)+(gi f (rh of t)+gi f (l.flatMap (rh of)))) % 4294967296=(gi f (rh of t)+(gh of n t+gi g l)) % 4294967296:=by
   rw [show l.foldl (gh of) (gh of n t)+(gi f (rh of t)+gi f (l.flatMap (rh of)))=gi f (rh of t)+(l.foldl (gh of) (gh of n t)+gi f (l.flatMap (rh of))) from ad,be9,G,<- be9]
  rw [e1];have e2:(gi f (rh of t)+gh of n t) % 4294967296=(n+t.2*g t.1) % 4294967296:=by
   have j:=h t.1;unfold rh gh;cases u:of t.1 with
   | none =>
    rw [u] at j;simp only at j ⊢;rw [eZ]
    have:t.2*f t.1 % 4294967296=t.2*g t.1 % 4294967296:=by rw [ch9,<- j,<- ch9]
    simp only [gi,Nat.add_zero];omega
   | some y =>
    rw [u] at j;simp only at j ⊢;have h1:=Gs f t.2 y.ai;have h2:t.2*g t.1 % 4294967296=t.2*(y.num+gi f y.ai) % 4294967296:=by
     unfold jA at j;rw [ch9,j,cy9,<- ch9]
    rw [Nat.mul_add] at h2;omega
  omega
def rW {of:Xaa->Option ct} {x:ct} {t:Xaa × Nat} (h:t∈(de of x).ai):(∃ p,p∈x.ai/\p.1=t.1/\of t.1=none)\/∃ p y u,p∈x.ai/\of p.1=some y/\u∈y.ai/\u.1=t.1:=by
 obtain ⟨p,O,e⟩:=DP h;obtain ⟨q,J,j⟩:=cj9.1 O;unfold rh at j;cases G:of q.1 with
 | none =>
  rw [G] at j
  have:p=q:=by simpa using j
  subst this;exact .inl ⟨p,J,e,by rw [<- e]; exact G⟩
 | some y =>
  rw [G] at j;obtain ⟨u,hu,rfl⟩:=Za.1 j;exact .inr ⟨q,y,u,J,G,hu,e⟩
def eX (of:Xaa->Option ct) (x:ct):Nf (de of x).ai:=zX _
def EE {l:dc} (h:Nf l):DW l=l:=(zX l).QK h fun s=>by rw [AF,cy9]
def lM {of:Xaa->Option ct} {x:ct} (hx:x.num<4294967296):(de of x).num<4294967296:=by
 show x.ai.foldl (gh of) x.num<4294967296;generalize x.num=n at hx;generalize x.ai=l
 induction l generalizing n with
 | nil=>exact hx
 | cons t l j =>
  rw [ZH];refine j _ ?_;unfold gh;split
  ·exact hx
  ·exact ct9 _ ad
section
variable {own:Xaa->Bool} {lin:Xaa->ct} {names:List Xaa}
def wU (hown:∀ s,own s=true↔s∈names) (hc:∀ v,¬ kq (Edge own (cL lin)) v) {v:Xaa} (hv:v∈names):∀ t,t∈(Ii own lin names v).ai->own t.1=false/\∃ w u,w∈names/\u∈(lin w).ai/\u.1=t.1:=by
 refine QV (Q:=fun v=>v∈names->∀ t,t∈(Ii own lin names v).ai->own t.1=false/\∃ w u,w∈names/\u∈(lin w).ai/\u.1=t.1) hown hc ?_ hv hv;intro v O hv t J;rw [HM hown hc hv] at J;rcases rW J with ⟨p,G,e,j⟩ | ⟨p,y,u,G,j,hu,e⟩
 ·refine ⟨?_,v,p,hv,G,e⟩;unfold Jy at j;cases hb:own t.1 with
  | false=>rfl
  | true=>rw [hb] at j; simp at j
 ·unfold Jy at j
  by_cases hb:own p.1=true
  ·rw [Y8 hb] at j;have j:=Zn j;subst j;obtain ⟨a,b⟩:=O p.1 ⟨kZ.2 ⟨p,G,rfl⟩,hb⟩ ((hown _).1 hb) u hu;rw [<- e];exact ⟨a,b⟩
  ·rw [Y2 hb] at j; cases j
def UD (hown:∀ s,own s=true↔s∈names) (hc:∀ v,¬ kq (Edge own (cL lin)) v) {v:Xaa} (hv:v∈names):Nf (Ii own lin names v).ai:=by
 rw [HM hown hc hv]; exact eX _ _
end
def add_zero' (a:Xax):a.add 0=a:=by unfold Addr.add; rw [Y8 rfl]
def Vx (a b:Xaa):(ByteArray.toList a==ByteArray.toList b)=decide (a=b):=by
 rw [ByteArray.toList_eq,ByteArray.toList_eq]
 by_cases h:a=b
 ·subst h; simp
 ·rw [Y7 h];exact beq_eq_false_iff_ne.2 fun e=>h (xQ e)
def SL.take {h:Hp} {b:Nat} {e:TypeId} {sz:Nat} {p:Xac} {l c:Nat} {xs:List (List Xab)} (s:SL h b e sz p l c xs) {k:Nat} (hk:k<=l):SL h b e sz p k c (xs.take k):=by
 refine ⟨by rw [Zp,<- s.1]; omega,fun x hx=>s.2.1 x (Z7 hx),?_⟩;cases p with
 | none =>
  obtain ⟨h1,h2⟩:=s.2.2;subst h2;exact ⟨h1,aj⟩
 | some a =>
  obtain ⟨g,G,rest,rfl,J,O,u,U⟩:=s.2.2;have j:xs.flatten=(xs.take k).flatten++(xs.drop k).flatten:=by rw [<- List.flatten_append,ZL]
  refine ⟨g,G,(xs.drop k).flatten++rest,rfl,J,ad,?_,?_⟩
  ·rw [j] at u;simpa [List.append_assoc] using u
  ·rw [Y4,fe _ (fun x hx=>s.2.1 x (List.mem_of_mem_drop hx)),Z2,U,<- s.1,<- Z9]
   congr 1; omega
abbrev Xh (x:Xaa):List Xab:=[.string x]
def WU:Tryz.prog.underlying 45=some (.slice 9):=ax
def WV:(Tryz.prog.info? 9).map (fun i=>(i.zero,i.size,i.bytes))=some (some (.string ⟨#[]⟩),1,16):=ax
def zo {h:Hp} {b:Nat} {p:Xac} {l c:Nat} {xs:List Xaa} (s:SL h b 9 1 p l c (xs.map Xh)) (v:Xaa) (hv:v∈xs) (hl:l<=2^40) :
  we Tryz.prog 91 [.slice p l c,.string v] h (.int .i64 ((xs.findIdx fun x=>decide (v=x):Nat):Int)):=by
 refine eC mixed Tryz.func91 ax (ic p l c v) ?_;unfold eP bf bk bH aP aR;have V:l=xs.length:=by rw [s.1,Y0]
 refine aX (cs:=[(false,[.int .i64]),(false,[.int .i64])]) (fun x w h'=>h'=h/\∃ i:Nat,x.2.1=(i:Int)/\i<=xs.length/\w=xs.length-i/\∀ j,j<i->∀ G:j<xs.length,v≠xs[j]) ((0:Int),(0:Int),()) xs.length rfl ⟨rfl,0,rfl,ad,ad,fun j G=>ad⟩ ?_;rintro ⟨X,Y,⟨⟩⟩ w h2 ⟨rfl,i,hi,U,rfl,J⟩;simp only at hi;subst hi;refine an ?_;refine aQ (fun g1=>?_) (fun g1=>?_)
 ·have u:i<xs.length:=ad
  refine ay ⟨ad,ad⟩ ?_;obtain ⟨a,rfl,hc⟩:=s.cells (i:=i) (by simpa using u);rw [Zb] at hc;refine aw rfl ?_;rw [show Int.toNat (i:Int)=i from ad];refine az (xs[i],()) hc (an ?_);rw [Vx];refine aQ (fun g2=>?_) (fun g2=>?_)
  ·have:xs.findIdx (fun x=>decide (v=x))=i:=by
    rw [List.findIdx_eq u];exact ⟨by simpa using g2,fun j G=>by simpa using J j G ad⟩
   exact ⟨by rw [this],rfl⟩
  ·have hw:=iA i;refine aH (cs:=[(false,[.int .i64]),(false,[.int .i64])]) (X,((i+1:Nat):Int),()) (xs.length-(i+1)) rfl ad (by rw [hw]; rfl) ⟨rfl,i+1,rfl,ad,rfl,fun j G O=>?_⟩
   by_cases e:j=i
   ·subst e; exact g2
   ·exact J j ad O
 ·have hi:i=xs.length:=ad
  subst hi;obtain ⟨j,G,e⟩:=Zu hv;exact (J j G G e.symm).elim
def dk (es:List cK) (s:Xaa):ct:=(((kr es s).bind fun k=>es[k]?).map (·.x)).getD tZ
def cy (es:List cK) (s:Xaa):Bool:=(kr es s).isSome
def aZ (es:List cK):List Xaa:=es.map (·.name)
def ei (es:List cK) (s:Xaa):cy es s=true↔s∈aZ es:=by
 unfold cy kr aZ;rw [List.findIdx?_isSome,as9]
 simp
def oq {es:List cK} {s:Xaa} {k:Nat} (h:kr es s=some k):∃ hk:k<es.length,es[k].name=s/\dk es s=es[k].x:=by
 have h':=h;unfold kr at h';rw [Zs] at h';obtain ⟨hk,h1,h2⟩:=h';refine ⟨hk,Y5 h1,?_⟩;unfold dk;rw [h,Z6,Y1 hk] <;> rfl
def DO {es:List cK} {s:Xaa} (h:s∈aZ es):∃ k,kr es s=some k:=by
 have:=(ei es s).2 h
 unfold cy at this;exact Z0.1 this
structure TF where
 E:Nat
 gA:Nat
 A:Nat
 gB:Nat
 B:Nat
 gN:Nat
 gL:Nat
 N:Nat
 L:Nat
 W:Nat
 gO:Nat
 O:Nat
 V:Nat
def TF.ord (r:TF):Prop:=r.E<r.gA/\r.gA<r.A/\r.A<r.gB/\r.gB<r.B/\r.B<r.gN/\r.gN<r.gL/\r.gL<r.N/\r.N<r.L/\r.L<r.W/\r.W<r.gO/\r.gO<r.O/\r.O<r.V
abbrev bx (g:Nat):Xax:=⟨g,0,none⟩
def TF.tF (r:TF):List Xab:=[.pointer (some (bx r.N)),.pointer (some (bx r.L)),.pointer (some (bx r.W)),.pointer (some (bx r.O)),.pointer (some (bx r.E)),.pointer (some (bx r.A)),.pointer (some (bx r.B)),.pointer (some (bx r.V))]
structure O6 (r:TF) (h:Hp) (es:List cK) (p0:Xac) (l0 c0:Nat):Prop where
 bE:bF h r.E 44 [.slice p0 l0 c0]
 bA:bF h r.A 89 [.map (some r.gA)]
 mA:∃ n,dU eI h r.gA (kr es) n
 bV:bF h r.V 181 [.func (.func 90) #[] r.tF.toArray]
 bN:bF h r.N 89 [.map (some r.gN)]
 bL:bF h r.L 89 [.map (some r.gL)]
 bO:bF h r.O 58 [.map (some r.gO)]
 bB:bF h r.B 58 [.map (some r.gB)]
 vw:tQ h p0 l0 es
structure Jp (r:TF) (es:List cK) (p0:Xac):Prop where
 ord:r.ord
 l0:∀ i,i∈aM p0->i<r.E
 li:∀ e,e∈es->e.x.ai≠[]->∀ i,i∈aM e.p->i<r.E
def gW.W8 {ws:List Nat} {h h':Hp} {p:Xac} {l:Nat} {us:dc} (v:gW h p l us) (k:Ch ws h h') (hw:us≠[]->∀ i,i∈aM p->i∉ws):gW h' p l us:=by
 by_cases hn:us=[]
 ·subst hn;exact ⟨v.len,fun i hi=>by simp at hi⟩
 ·exact v.ak k (hw hn)
def tQ.mG {ws:List Nat} {h h':Hp} {p:Xac} {l:Nat} {es:List cK} (v:tQ h p l es) (k:Ch ws h h') (G:∀ i,i∈aM p->i∉ws) (hi:∀ e,e∈es->e.x.ai≠[]->∀ i,i∈aM e.p->i∉ws):tQ h' p l es :=
 ⟨v.len,fun i hi=>by
  obtain ⟨a,j,hc⟩:=v.cells i hi;exact ⟨a,j,aT k (by rw [ig]; exact G _ (by rw [j]; simp [aM])) _ _ hc⟩,fun e u=>(v.fw e u).W8 k (hi e u)⟩
def X4 (r:TF) (p:Xac):List Nat:=r.gN::r.gL::r.gO::r.gB::r.W::aM p
structure mR (r:TF) (h:Hp) (st:TS) (p:Xac) (l c:Nat):Prop where
 mN:dU eI h r.gN st.num st.jE
 mL:∃ n,dU eI h r.gL st.low n
 mO:∃ n,dU eB h r.gO st.on n
 mB:∃ n,dU eB h r.gB st.back n
 bW:bF h r.W 45 [.slice p l c]
 w:SL h (r.V+1) 9 1 p l c (st.cZ.map Xh)
def O6.mG {r:TF} {h h':Hp} {es:List cK} {p0:Xac} {l0 c0:Nat} {ws:List Nat} (m:O6 r h es p0 l0 c0) (u:Jp r es p0) (k:Ch ws h h') (hw:∀ i,i∈ws->i=r.gN\/i=r.gL\/i=r.gO\/i=r.gB\/i=r.W\/r.V<i):O6 r h' es p0 l0 c0:=by
 have o:=u.ord;unfold TF.ord at o;have j:∀ i,i≠r.gN->i≠r.gL->i≠r.gO->i≠r.gB->i≠r.W->i<=r.V->i∉ws:=by
  intro i h1 h2 h3 h4 h5 h6 hi
  have:=hw i hi
  omega
 obtain ⟨n,mA⟩:=m.mA;exact ⟨m.bE.ak k (j _ ad ad ad ad ad ad),m.bA.ak k (j _ ad ad ad ad ad ad),⟨n,mA.ak k (j _ ad ad ad ad ad ad)⟩,
  m.bV.ak k (j _ ad ad ad ad ad ad),m.bN.ak k (j _ ad ad ad ad ad ad),m.bL.ak k (j _ ad ad ad ad ad ad),
  m.bO.ak k (j _ ad ad ad ad ad ad),m.bB.ak k (j _ ad ad ad ad ad ad),
  m.vw.mG k (fun i hi=>j _ (by have:=u.l0 i hi; omega) (by have:=u.l0 i hi; omega) (by have:=u.l0 i hi; omega) (by have:=u.l0 i hi; omega) (by have:=u.l0 i hi; omega) (by have:=u.l0 i hi; omega))
   (fun e J G i hi=>j _ (by have:=u.li e J G i hi; omega) (by have:=u.li e J G i hi; omega) (by have:=u.li e J G i hi; omega) (by have:=u.li e J G i hi; omega) (by have:=u.li e J G i hi; omega) (by have:=u.li e J G i hi; omega))⟩
def mR.ak {r:TF} {h h':Hp} {st:TS} {p:Xac} {l c:Nat} (m:mR r h st p l c) (k:Ext h h'):mR r h' st p l c:=by
 obtain ⟨j,mL⟩:=m.mL;obtain ⟨u,mO⟩:=m.mO;obtain ⟨G,mB⟩:=m.mB;exact ⟨m.mN.ak k aj,⟨j,mL.ak k aj⟩,⟨u,mO.ak k aj⟩,⟨G,mB.ak k aj⟩,m.bW.ak k aj,m.w.ak k aj⟩
structure qd (r:TF) (p:Xac) (h:Hp) (p':Xac) (h':Hp):Prop where
 ch:Ch (X4 r p) h h'
 cr:∀ i,i∈aM p'->i∈aM p\/h.size<=i
def qd.refl (r:TF) (p:Xac) (h:Hp):qd r p h p h:=⟨Ch.refl _ _,fun i hi=>.inl hi⟩
def pB {r:TF} {p:Xac} {i:Nat}:i∈X4 r p↔i=r.gN\/i=r.gL\/i=r.gO\/i=r.gB\/i=r.W\/i∈aM p:=by
 unfold X4; simp
def qd.trans {r:TF} {p q s:Xac} {a b c:Hp} (x:qd r p a q b) (y:qd r q b s c):qd r p a s c:=by
 have j:=x.ch.size;refine ⟨Ch.trans x.ch y.ch fun i hi hl=>?_,fun i hi=>?_⟩
 ·rw [pB] at hi ⊢;rcases hi with h | h | h | h | h | h
  ·exact .inl h
  ·exact .inr (.inl h)
  ·exact .inr (.inr (.inl h))
  ·exact .inr (.inr (.inr (.inl h)))
  ·exact .inr (.inr (.inr (.inr (.inl h))))
  ·rcases x.cr i h with h | h
   ·exact .inr (.inr (.inr (.inr (.inr h))))
   ·omega
 ·rcases y.cr i hi with h | h
  ·exact x.cr i h
  ·exact .inr ad
def qd.ext {r:TF} {p:Xac} {h h':Hp} (k:Ext h h'):qd r p h p h':=⟨k.mono aj,fun i hi=>.inl hi⟩
def qd.of {r:TF} {p:Xac} {h h':Hp} {g:Nat} (k:Ch [g] h h') (j:g=r.gN\/g=r.gL\/g=r.gO\/g=r.gB\/g=r.W):qd r p h p h' :=
 ⟨k.mono fun i hi hl=>by simp at hi; subst hi; rw [pB]; rcases j with h | h | h | h | h <;> simp [h],fun i hi=>.inl hi⟩
def qd.co {r:TF} {p p':Xac} {l c:Nat} {h h':Hp} {st:TS} {es:List cK} {p0:Xac} {l0 c0:Nat} (x:qd r p h p' h') (j:Jp r es p0) (m:mR r h st p l c) (co:O6 r h es p0 l0 c0):O6 r h' es p0 l0 c0:=by
 refine co.mG j x.ch fun i hi=>?_
 rw [pB] at hi;rcases hi with h | h | h | h | h | h
 ·exact .inl h
 ·exact .inr (.inl h)
 ·exact .inr (.inr (.inl h))
 ·exact .inr (.inr (.inr (.inl h)))
 ·exact .inr (.inr (.inr (.inr (.inl h))))
 ·exact .inr (.inr (.inr (.inr (.inr (by have:=(m.w.cr h).1; omega)))))
def qd.box {r:TF} {p p':Xac} {l c:Nat} {h h':Hp} {st:TS} {g:Nat} {e:TypeId} {xs:List Xab} (x:qd r p h p' h') (o:r.ord) (u:r.V<g) (j:g∉aM p) (b:bF h g e xs):bF h' g e xs:=by
 unfold TF.ord at o;refine b.ak x.ch fun hi=>?_
 rw [pB] at hi;rcases hi with h | h | h | h | h | h <;> first | omega | exact j h
section
variable {L:Lp} {K:Xab->Hp->Prop} {h:Hp} {r:TF} {st:TS} {p:Xac} {l c:Nat}
def mR.OM (m:mR r h st p l c) {i:Nat} (hi:i∈aM p):r.V<i:=by have:=(m.w.cr hi).1; omega
def mR.uG (m:mR r h st p l c) (o:r.ord) {s:Xaa} (hs:s.size<=maxLen) {v:Int} {w:Nat} (hv:v=(w:Int)) {k:T} (hk:∀ h',mR r h' { st with num:=dF st.num s w,jE:=if (st.num s).isSome then st.jE else st.jE+1 } p l c->qd r p h p h'->h'.size=h.size->k L K h') :
  T.et Tryz.prog (Instr.mapUpdate 89 (.map (some r.gN)) (.string s) (.int .i64 v)) k L K h:=by
 unfold TF.ord at o;obtain ⟨j,mL⟩:=m.mL;obtain ⟨u,mO⟩:=m.mO;obtain ⟨G,mB⟩:=m.mB;refine qG m.mN hs hv ?_;intro h' m' c' J;exact hk h' ⟨m',⟨j,mL.ak c' (by simp; omega)⟩,⟨u,mO.ak c' (by simp; omega)⟩,⟨G,mB.ak c' (by simp; omega)⟩,m.bW.ak c' (by simp; omega),m.w.bM c' (fun i hi=>by have:=m.OM hi; simp; omega)⟩ (qd.of c' (.inl rfl)) J
def mR.sL (m:mR r h st p l c) (o:r.ord) {s:Xaa} (hs:s.size<=maxLen) {v:Int} {w:Nat} (hv:v=(w:Int)) {k:T} (hk:∀ h',mR r h' { st with low:=dF st.low s w } p l c->qd r p h p h'->h'.size=h.size->k L K h') :
  T.et Tryz.prog (Instr.mapUpdate 89 (.map (some r.gL)) (.string s) (.int .i64 v)) k L K h:=by
 unfold TF.ord at o;obtain ⟨J,mL⟩:=m.mL;obtain ⟨j,mO⟩:=m.mO;obtain ⟨u,mB⟩:=m.mB;refine qG mL hs hv ?_;intro h' m' c' G;exact hk h' ⟨m.mN.ak c' (by simp; omega),⟨_,m'⟩,⟨j,mO.ak c' (by simp; omega)⟩,⟨u,mB.ak c' (by simp; omega)⟩,m.bW.ak c' (by simp; omega),m.w.bM c' (fun i hi=>by have:=m.OM hi; simp; omega)⟩ (qd.of c' (.inr (.inl rfl))) G
def mR.VA (m:mR r h st p l c) (o:r.ord) {s:Xaa} (hs:s.size<=maxLen) {b:Bool} {k:T} (hk:∀ h',mR r h' { st with on:=dF st.on s b } p l c->qd r p h p h'->h'.size=h.size->k L K h') :
  T.et Tryz.prog (Instr.mapUpdate 58 (.map (some r.gO)) (.string s) (.bool b)) k L K h:=by
 unfold TF.ord at o;obtain ⟨j,mL⟩:=m.mL;obtain ⟨J,mO⟩:=m.mO;obtain ⟨u,mB⟩:=m.mB;refine Vi mO hs ?_;intro h' m' c' G;exact hk h' ⟨m.mN.ak c' (by simp; omega),⟨j,mL.ak c' (by simp; omega)⟩,⟨_,m'⟩,⟨u,mB.ak c' (by simp; omega)⟩,m.bW.ak c' (by simp; omega),m.w.bM c' (fun i hi=>by have:=m.OM hi; simp; omega)⟩ (qd.of c' (.inr (.inr (.inl rfl)))) G
def mR.UB (m:mR r h st p l c) (o:r.ord) {s:Xaa} (hs:s.size<=maxLen) {b:Bool} {k:T} (hk:∀ h',mR r h' { st with back:=dF st.back s b } p l c->qd r p h p h'->h'.size=h.size->k L K h') :
  T.et Tryz.prog (Instr.mapUpdate 58 (.map (some r.gB)) (.string s) (.bool b)) k L K h:=by
 unfold TF.ord at o;obtain ⟨j,mL⟩:=m.mL;obtain ⟨u,mO⟩:=m.mO;obtain ⟨J,mB⟩:=m.mB;refine Vi mB hs ?_;intro h' m' c' G;exact hk h' ⟨m.mN.ak c' (by simp; omega),⟨j,mL.ak c' (by simp; omega)⟩,⟨u,mO.ak c' (by simp; omega)⟩,⟨_,m'⟩,m.bW.ak c' (by simp; omega),m.w.bM c' (fun i hi=>by have:=m.OM hi; simp; omega)⟩ (qd.of c' (.inr (.inr (.inr (.inl rfl))))) G
def mR.Ep (m:mR r h st p l c) (s:Xaa) {k:Int->T} (hk:k (((st.num s).getD 0:Nat):Int) L K h):T.eh Tryz.prog (Instr.lookup 89 (.map (some r.gN)) (.string s) false) false [(false,[.int .i64])] k L K h:=Iw m.mN s hk
def mR.AE (m:mR r h st p l c) (s:Xaa) {k:Int->T} (hk:k (((st.low s).getD 0:Nat):Int) L K h):T.eh Tryz.prog (Instr.lookup 89 (.map (some r.gL)) (.string s) false) false [(false,[.int .i64])] k L K h:=by
 obtain ⟨j,mL⟩:=m.mL;exact Iw mL s hk
def mR.Wp (m:mR r h st p l c) (s:Xaa) {k:Bool->T} (hk:k ((st.on s).getD false) L K h):T.eh Tryz.prog (Instr.lookup 58 (.map (some r.gO)) (.string s) false) false [(false,[.bool])] k L K h:=by
 obtain ⟨j,mL⟩:=m.mO;exact MQ mL s hk
def mR.eE (m:mR r h st p l c) (s:Xaa) {k:Bool->T} (hk:k ((st.back s).getD false) L K h):T.eh Tryz.prog (Instr.lookup 58 (.map (some r.gB)) (.string s) false) false [(false,[.bool])] k L K h:=by
 obtain ⟨j,mL⟩:=m.mB;exact MQ mL s hk
end
def Sj (aN U aO aV j:Xax) (s:Xaa) (u:Int):T :=
 T.ah aN [.map 9 3] <| fun (V:Option Nat) =>
 T.ah j [.string] <| fun (X:Xaa) =>
 bU (Instr.lookup 89 (.map V) (.string X) false) false [aR] <| fun (Y:Int) =>
 cond (Y==(0:Int))
  (T.ah aV [.func #[9] #[] false] <| fun (Z:Xab) =>
  T.ah j [.string] <| fun (G:Xaa) =>
  T.tj Tryz.prog Z [.string G] true [] <| T.ah U [.map 9 3] <| fun (r41:Option Nat) =>
  T.ah U [.map 9 3] <| fun (J:Option Nat) =>
  bU (Instr.lookup 89 (.map J) (.string s) false) false [aR] <| fun (n43:Int) =>
  T.ah U [.map 9 3] <| fun (r44:Option Nat) =>
  T.ah j [.string] <| fun (s45:Xaa) =>
  bU (Instr.lookup 89 (.map r44) (.string s45) false) false [aR] <| fun (n46:Int) =>
  bU (Builtin.min_ #[3,3] 3 #[.int .i64 n43,.int .i64 n46]) false [aR] <| fun (O:Int) =>
  T.et Tryz.prog (Instr.mapUpdate 89 (.map r41) (.string s) (.int .i64 O)) <|
  T.again 0 [.int .i64 (bt (u+(1:Int)))])
  (T.ah aO [.map 9 4] <| fun (r39:Option Nat) =>
  T.ah j [.string] <| fun (G:Xaa) =>
  bU (Instr.lookup 58 (.map r39) (.string G) false) false [cn] <| fun (b41:Bool) =>
  cond b41
  (T.ah U [.map 9 3] <| fun (J:Option Nat) =>
  T.ah U [.map 9 3] <| fun (r43:Option Nat) =>
  bU (Instr.lookup 89 (.map r43) (.string s) false) false [aR] <| fun (n44:Int) =>
  T.ah aN [.map 9 3] <| fun (r45:Option Nat) =>
  T.ah j [.string] <| fun (s46:Xaa) =>
  bU (Instr.lookup 89 (.map r45) (.string s46) false) false [aR] <| fun (O:Int) =>
  bU (Builtin.min_ #[3,3] 3 #[.int .i64 n44,.int .i64 O]) false [aR] <| fun (n48:Int) =>
  T.et Tryz.prog (Instr.mapUpdate 89 (.map J) (.string s) (.int .i64 n48)) <|
  T.again 0 [.int .i64 (bt (u+(1:Int)))])
  (T.again 0 [.int .i64 (bt (u+(1:Int)))]))
def oS (names:List Xaa) (st:TS):Prop:=∀ s,st.num s≠none->s∈names
def Ja (es:List cK) (r:TF) (p0:Xac) (l0 c0 f:Nat):Prop :=
 ∀ (v:Xaa) (st:TS) (h:Hp) (p:Xac) (l c:Nat),mR r h st p l c->O6 r h es p0 l0 c0->dC (aZ es) st->v∈aZ es->st.num v=none->qz (aZ es) st<=f->oS (aZ es) st ->
  HC Tryz.prog 90 (.string v::r.tF).toArray h fun w h'=>w=.tuple #[]/\∃ p' l' c',mR r h' (cP (cy es) (cL (dk es)) f v st) p' l' c'/\qd r p h p' h'
def W2:fL Tryz.prog 90=true:=ax
section
variable {L:Lp} {K:Xab->Hp->Prop} {h:Hp} {r:TF} {st:TS} {p:Xac} {l c:Nat} {es:List cK} {p0:Xac} {l0 c0:Nat}
def Je {f:Nat} (u:Ja es r p0 l0 c0 f) (U:Jp r es p0) (hs:∀ s,s∈aZ es->s.size<=maxLen) (m:mR r h st p l c) (co:O6 r h es p0 l0 c0) (g:dC (aZ es) st) (hu:qz (aZ es) st<=f) (hi:oS (aZ es) st) {v w:Xaa} (hv:v∈aZ es) (hw:w∈aZ es) {a:Nat} {q:Nat} (ha:r.V<a) (Y:a∉aM p) (b:bF h a 117 [.string w,.int .u32 (q:Int)]) (G:Int)
  (hk:∀ h' p' l' c',mR r h' (tf (cP (cy es) (cL (dk es)) f) v w st) p' l' c'->qd r p h p' h'->T.again 0 [.int .i64 (IntKind.wrap .i64 (G+(1:Int)))] L K h') :
  Sj (bx r.N) (bx r.L) (bx r.O) (bx r.V) (bx a) v G L K h:=by
 unfold Sj bU bt aR cn;refine af co.bN (some r.gN,()) rfl (an ?_);refine af b (w,()) rfl (an ?_);refine m.Ep w ?_;unfold tf at hk;have J:=hs v hv;refine av (fun g1=>?_) (fun g1=>?_)
 ·have g1:(st.num w).getD 0=0:=by have:=Y5 g1; omega
  rw [Y8 g1] at hk;refine af co.bV (.func (.func 90) #[] r.tF.toArray,()) rfl (an ?_);refine af b (w,()) rfl (an ?_);refine rc (cap:=r.tF) W2 rfl (u w st h p l c m co g hw (g.none g1) hu hi) ?_;rintro _ h2 ⟨rfl,p2,l2,c2,X,Z⟩;refine ⟨(),rfl,an ?_⟩;have j:=Z.co U m co;have b2:=Z.box (st:=st) (l:=l) (c:=c) U.ord ha Y b;generalize cP (cy es) (cL (dk es)) f w st=st2 at X hk;refine af j.bL (some r.gL,()) rfl (an ?_);refine af j.bL (some r.gL,()) rfl (an ?_);refine X.AE v ?_;refine af j.bL (some r.gL,()) rfl (an ?_);refine af b2 (w,()) rfl (an ?_);refine X.AE w ?_;refine Vq ?_;refine X.sL U.ord J rfl ?_;intro h3 m3 s3 z3;exact hk h3 p2 l2 c2 m3 (Z.trans s3)
 ·have g1:¬ (st.num w).getD 0=0:=by
   intro e;rw [e] at g1;simp at g1
  rw [Y2 g1] at hk;refine af co.bO (some r.gO,()) rfl (an ?_);refine af b (w,()) rfl (an ?_);refine m.Wp w ?_;refine av (fun g2=>?_) (fun g2=>?_)
  ·rw [Y8 g2] at hk;refine af co.bL (some r.gL,()) rfl (an ?_);refine af co.bL (some r.gL,()) rfl (an ?_);refine m.AE v ?_;refine af co.bN (some r.gN,()) rfl (an ?_);refine af b (w,()) rfl (an ?_);refine m.Ep w ?_;refine Vq ?_;refine m.sL U.ord J rfl ?_;intro h3 m3 s3 z3;exact hk h3 p l c m3 s3
  ·rw [Y2 (by simp [g2])] at hk;exact hk h p l c m (qd.refl _ _ _)
end
end Go.Sx
