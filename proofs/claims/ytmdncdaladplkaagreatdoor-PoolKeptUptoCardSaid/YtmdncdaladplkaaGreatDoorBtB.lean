/- Trees of functions. No condition. -/
import Derived.Test.YtmdncdaladplkaaGreatDoorSxF
import Derived.Test.YtmdncdaladplkaaGreatDoorProg
import Derived.KernelRfl
set_option linter.all false
set_option maxRecDepth 100000
set_option maxHeartbeats 4000000
namespace Go.Sx
open Go.Proofs
def GS (a:Int):T :=
 T.new [bZ,.int .u8 0,vI 0] 171 λb =>
 cond (decide (a<1))
 (T.aD b [bZ,.int .u8 0,vI 0] <|
 T.ah b [.string,.int .u8,.int .i64] λc d e =>
 bR #[.agg #[.string c,.int .u8 d,vI e],.bool false])
 (cond (decide (a>43))
 (T.aD b [bZ,.int .u8 0,vI 0] <|
 T.ah b [.string,.int .u8,.int .i64] λc d e =>
 bR #[.agg #[.string c,.int .u8 d,vI e],.bool false])
 (T.need ((0<=(bY (a-1)))/\((bY (a-1))<43)) <|
 T.ah ((⟨0,0,none⟩:Xax).add ((Int.toNat (bY (a-1)))*3)) [.string,.int .u8,.int .i64] λc d e =>
 T.aD b [.string c,.int .u8 d,vI e] <|
 T.ah b [.string,.int .u8,.int .i64] λf g h =>
 bR #[.agg #[.string f,.int .u8 g,vI h],.bool true]))
def Io (a:Int):bP Xaz [] Tryz.f67 [vI a]=GS a:=av
def zD (a:Int):T :=
 cv 67 [vI a] true [(true,[.string,.int .u8,.int .i64]),cH] λb c d e =>
 T.new [bZ,.int .u8 0,vI 0] 171 λf =>
 T.aD f [.string b,.int .u8 c,vI d] <|
 T.ah (f.add 2) [.int .i64] λg =>
 cond (g==12)
 fR
 (T.ah (f.add 2) [.int .i64] λh =>
 T.ret (.bool (h==13)))
def Be (a:Int):bP Xaz [] Tryz.f60 [vI a]=zD a:=av
def ze (a b:Int):T :=
 cond (decide (a>=0))
 (T.ret (.bool (decide (a<b))))
 cC
def Cy (a b:Int):bP Xaz [] Tryz.f155 [vI a,vI b]=ze a b:=av
def uZ (a b:Int):T :=
 cond (b==1)
 (T.ret (.bool (a==(IntKind.wrap .i32 (IntKind.wrap .i8 a)))))
 (cond (b==2)
 (T.ret (.bool (a==(IntKind.wrap .i32 (IntKind.wrap .i16 a)))))
 (T.ret (.bool (b==4))))
def yH (a b:Int):bP Xaz [] Tryz.f156 [.int .i32 a,vI b]=uZ a b:=av
def GX (h i:Xax):T :=
 T.ah h [.int .i64,.int .i64,.int .i64,.int .i32,.int .i64] λa b c d e =>
 T.ah (i.add 2) [.int .i64] λf =>
 T.call Xaz 138 [.agg #[vI a,vI b,vI c,.int .i32 d,vI e],vI f] false [(false,[.bool])] λg =>
 cond (!g)
 (T.ret (vI 13))
 (T.ret (vI 0))
def zL (a b c d e:Int):T :=
 T.new [vI a,vI b,vI c,.int .i32 d,vI e] 49 λf =>
 T.ah f [.int .i64] λg =>
 cv 67 [vI g] true [(true,[.string,.int .u8,.int .i64]),cH] λh i j k =>
 T.new [bZ,.int .u8 0,vI 0] 171 λl =>
 T.aD l [.string h,.int .u8 i,vI j] <|
 cond (!k)
 (T.ret (vI 11))
 (T.ah f [.int .i64,.int .i64,.int .i64,.int .i32,.int .i64] λm n o p q =>
 T.ah (l.add 2) [.int .i64] λr =>
 bj 137 [.agg #[vI m,vI n,vI o,.int .i32 p,vI q],vI r] λs =>
 cond (!s)
 (T.ret (vI 12))
 (T.ah f [.int .i64] λt =>
 bj 60 [vI t] λu =>
 cond (!u)
 (T.ah (f.add 4) [.int .i64] λv =>
 cond (v != 0)
 (T.ret (vI 13))
 (GX f l))
 (GX f l)))
def BL (a b c d e:Int):bP Xaz [] Tryz.f111 [.agg #[vI a,vI b,vI c,.int .i32 d,vI e]]=zL a b c d e:=av
def xw (a:Int):T :=
 cond (decide (a>=1))
 (cond (decide (a<=256))
 (T.ret (.bool ((bY (((BitVec.toNat ((BitVec.ofInt 64 a) &&& (BitVec.ofInt 64 (bY (a-1))))):Nat):Int))==0)))
 cC)
 cC
def Aj (a:Int):bP Xaz [] Tryz.f81 [vI a]=xw a:=av
def lC (n a:Xax):T :=
 T.ah ((n.add 2).add 3) [.int .i32] λb =>
 cond (b==0)
 (T.ah a [.int .i64,.int .i64,.int .i64,.int .i32,.int .i64] λc d e f g =>
 cY 111 [.agg #[vI c,vI d,vI e,.int .i32 f,vI g]] λh =>
 cond (h==0)
 (T.ah (n.add 7) (yL 64) λi j k l =>
 bj 56 [.agg #[.slice i j k,aE l]] λm =>
 T.ret (.bool m))
 cC)
 cC
def pd (a m:Xax):T :=
 T.ah a [.int .i64,.int .i64,.int .i64,.int .i32,.int .i64] λb c d e f =>
 cY 111 [.agg #[vI b,vI c,vI d,.int .i32 e,vI f]] λg =>
 cond (g==0)
 (T.ah (m.add 7) (yL 64) λh i j k =>
 bj 82 [.agg #[.slice h i j,aE k],.agg #[bm,aE 0]] λl =>
 T.ret (.bool l))
 cC
def nE (a:Int) (b:Xaa) (c d e f g:Int) (h:Xac) (i j:Nat) (k l:Int):T :=
 T.new [vI a,.string b,vI c,vI d,vI e,.int .i32 f,vI g,.slice h i j,aE k,vI l] 55 λm =>
 T.ah (m.add 2) [.int .i64] λn =>
 cv 67 [vI n] true [(true,[.string,.int .u8,.int .i64]),cH] λo p q r =>
 T.new [bZ,.int .u8 0,vI 0] 171 λs =>
 T.aD s [.string o,.int .u8 p,vI q] <|
 cond (!r)
 cC
 (T.ah ((m.add 2).add 4) [.int .i64] λt =>
 cond (t != 0)
 cC
 (T.ah (m.add 2) [.int .i64,.int .i64,.int .i64,.int .i32,.int .i64] λu v w x y =>
 T.new [vI 0,vI 0,vI 0,.int .i32 0,vI 0] 49 λz =>
 T.aD z [vI u,vI v,vI w,.int .i32 x,vI y] <|
 T.ah (s.add 2) [.int .i64] λA =>
 cond (A==12)
 (cond (A==12)
 (T.aD (z.add 4) [vI 1] <|
 lC m z)
 (cond (A==10)
 (cond (A==10)
 (lC m z)
 (pd z m))
 (cond (A==11)
 (lC m z)
 (pd z m))))
 (cond (A==13)
 (T.aD (z.add 4) [vI 1] <|
 lC m z)
 (cond (A==10)
 (cond (A==10)
 (lC m z)
 (pd z m))
 (cond (A==11)
 (lC m z)
 (pd z m))))))
def rY (a:Int) (b:Xaa) (c d e f g:Int) (h:Xac) (i j:Nat) (k l:Int):bP Xaz [] Tryz.f80 [.agg #[vI a,.string b,vI c,vI d,vI e,.int .i32 f,vI g,.slice h i j,.int .u32 k,vI l]]=nE a b c d e f g h i j k l:=av
def xY (a:Xac) (b c:Nat) (d:Xac) (e f:Nat) (g:Xac) (h i:Nat) (j:Xac) (k l:Nat):T :=
 T.new [.slice a b c,.slice d e f,.slice g h i,.slice j k l] 70 λm =>
 T.ah m [.slice 55] λn o p =>
 T.ah (m.add 1) [.slice 55] λq r s =>
 cond (decide ((bY ((o:Int)+(r:Int)))>8192))
 (T.ret (vI 4))
 (T.ah (m.add 2) [.slice 116] λt u v =>
 cond (decide ((u:Int)>8192))
 (T.ret (vI 4))
 (dp (Instr.makeMap 152 none) false [(false,[.map 0 0])] λw =>
 T.ah m [.slice 55] λx y z =>
 T.ah (m.add 1) [.slice 55] λA B C =>
 bg (Instr.buildSlice 43 2 #[(0,.slice x y z),(1,.slice A B C)]) λD E F =>
 T.loop [aS,aS] [vI 0,vI 0] λG H =>
 bz H E
 (aR H E D λI =>
 T.ah (I.add (aK H 1)) [.slice 55] λJ K L =>
 T.loop [aS,aS] [vI G,vI 0] λM N =>
 bz N K
 (aR N K J λO =>
 T.ah (O.add (aK N 10)) (yI 64) λP Q R S U V W X Y Z a0 a1 =>
 T.new [vI 0,bZ,vI 0,vI 0,vI 0,.int .i32 0,vI 0,bm,aE 0,vI 0] 55 λa2 =>
 T.aD a2 [vI P,.string Q,vI R,vI S,vI U,.int .i32 V,vI W,.slice X Y Z,aE a0,vI a1] <|
 T.ah a2 (yI 64) λa3 a4 a5 a6 a7 a8 a9 b0 b1 b2 b3 b4 =>
 cY 54 [.agg #[vI a3,.string a4,vI a5,vI a6,vI a7,.int .i32 a8,vI a9,.slice b0 b1 b2,aE b3,vI b4],vI H] λb5 =>
 cond (b5 != 0)
 (T.ret (vI 31))
 (T.ah a2 [.int .i64] λb6 =>
 cond (b6==1)
 (T.ah (a2.add 1) [.string] λb7 =>
 ja (Instr.lookup 152 (.map w) (.string b7) false) λb8 =>
 cond b8
 (T.ret (vI 31))
 (T.ah a2 [.int .i64] λb9 =>
 cond (b9==1)
 (T.ah (a2.add 1) [.string] λc0 =>
 T.fI Xaz (Instr.mapUpdate 152 (.map w) (.string c0) (.bool true)) <|
 T.again 1 [vI M,aY N])
 (T.again 1 [vI M,aY N])))
 (T.ah a2 [.int .i64] λb7 =>
 cond (b7==1)
 (T.ah (a2.add 1) [.string] λb8 =>
 T.fI Xaz (Instr.mapUpdate 152 (.map w) (.string b8) (.bool true)) <|
 T.again 1 [vI M,aY N])
 (T.again 1 [vI M,aY N]))))
 (T.again 0 [vI M,aY H]))
 (T.ah (m.add 2) [.slice 116] λI J K =>
 T.loop [aS,aS] [vI G,vI 0] λL M =>
 bz M J
 (aR M J I λN =>
 T.ah (N.add (aK M 3)) [.string,.slice 64,.int .u32] λO P Q R S =>
 T.new [bZ,bm,aE 0] 116 λU =>
 T.aD U [.string O,.slice P Q R,aE S] <|
 T.ah U [.string] λV =>
 ja (Instr.lookup 152 (.map w) (.string V) false) λW =>
 cond W
 (T.ret (vI 31))
 (T.ah U [.string] λX =>
 bj 55 [.string X] λY =>
 cond (!Y)
 (T.ret (vI 31))
 (T.ah (U.add 1) (yL 64) λZ a0 a1 a2 =>
 bj 56 [.agg #[.slice Z a0 a1,aE a2]] λa3 =>
 cond (!a3)
 (T.ret (vI 31))
 (T.ah U [.string] λa4 =>
 T.fI Xaz (Instr.mapUpdate 152 (.map w) (.string a4) (.bool true)) <|
 T.again 1 [vI L,aY M]))))
 (T.ah (m.add 3) [.slice 9] λN O P =>
 T.loop [aS,aS] [vI L,vI 0] λQ R =>
 bz R O
 (aR R O N λS =>
 T.ah (S.add (aK R 1)) [.string] λU =>
 ja (Instr.lookup 152 (.map w) (.string U) false) λV =>
 cond (!V)
 (T.ret (vI 31))
 (cond (decide (R>0))
 (T.ah (m.add 3) [.slice 9] λW X Y =>
 T.need ((0<=(bY (R-1)))/\((bY (R-1))<(X:Int))) <|
 T.bh W λZ =>
 T.ah (Z.add ((Int.toNat (bY (R-1)))*1)) [.string] λa0 =>
 cond ((Op.bytesLess (ByteArray.toList U) (ByteArray.toList a0)) || ((ByteArray.toList U)==(ByteArray.toList a0)))
 (T.ret (vI 31))
 (T.again 2 [vI Q,aY R]))
 (T.again 2 [vI Q,aY R])))
 (T.ret (vI 0))))))
def Ap (a:Xac) (b c:Nat) (d:Xac) (e f:Nat) (g:Xac) (h i:Nat) (j:Xac) (k l:Nat):bP Xaz [] Tryz.f30 [.agg #[.slice a b c,.slice d e f,.slice g h i,.slice j k l]]=xY a b c d e f g h i j k l:=av
def Bq (o a b n f:Int):T :=
 T.new [vI o,vI a,vI b,.int .i32 n,vI f] 49 λc =>
 T.ah (c.add 1) [.int .i64] λd =>
 cond (d==0)
 (T.ah (c.add 2) [.int .i64] λe =>
 T.ret (.bool (e==0)))
 (T.ret (.bool false))
def nu (a b c d e:Int):T :=
 Bq a b c d e
def r9 (a b c d e:Int):bP Xaz [] Tryz.f137 [.agg #[vI a,vI b,vI c,.int .i32 d,vI e],vI 1]=nu a b c d e:=av
def tf (o a b n f:Int):T :=
 T.new [vI o,vI a,vI b,.int .i32 n,vI f] 49 λc =>
 T.ah (c.add 1) [.int .i64] λd =>
 T.call Xaz 155 [vI d,vI 8] false [(false,[.bool])] λe =>
 cond e
 (T.ah (c.add 2) [.int .i64] λg =>
 T.ret (.bool (g==0)))
 (T.ret (.bool false))
def nK (a b c d e:Int):T :=
 tf a b c d e
def rX (a b c d e:Int):bP Xaz [] Tryz.f137 [.agg #[vI a,vI b,vI c,.int .i32 d,vI e],vI 2]=nK a b c d e:=av
def mY (a b c d e:Int):T :=
 T.new [vI a,vI b,vI c,.int .i32 d,vI e] 49 λf =>
 T.ah (f.add 1) [.int .i64] λg =>
 bj 155 [vI g,vI 4] λh =>
 cond h
 (T.ah (f.add 2) [.int .i64] λi =>
 T.ret (.bool (i==0)))
 cC
def sy (a b c d e:Int):bP Xaz [] Tryz.f137 [.agg #[vI a,vI b,vI c,.int .i32 d,vI e],vI 3]=mY a b c d e:=av
def mP (a b c d e:Int):T :=
 T.new [vI a,vI b,vI c,.int .i32 d,vI e] 49 λf =>
 T.ah (f.add 1) [.int .i64] λg =>
 bj 155 [vI g,vI 8] λh =>
 cond h
 (T.ah (f.add 2) [.int .i64] λi =>
 bj 155 [vI i,vI 8] λj =>
 T.ret (.bool j))
 cC
def rR (a b c d e:Int):bP Xaz [] Tryz.f137 [.agg #[vI a,vI b,vI c,.int .i32 d,vI e],vI 4]=mP a b c d e:=av
def nz (a b c d e:Int):T :=
 T.new [vI a,vI b,vI c,.int .i32 d,vI e] 49 λf =>
 T.ah (f.add 1) [.int .i64] λg =>
 bj 155 [vI g,vI 4] λh =>
 cond h
 (T.ah (f.add 2) [.int .i64] λi =>
 bj 155 [vI i,vI 4] λj =>
 T.ret (.bool j))
 cC
def sg (a b c d e:Int):bP Xaz [] Tryz.f137 [.agg #[vI a,vI b,vI c,.int .i32 d,vI e],vI 5]=nz a b c d e:=av
def mW (a b c d e:Int):T :=
 T.new [vI a,vI b,vI c,.int .i32 d,vI e] 49 λf =>
 T.ah (f.add 1) [.int .i64] λg =>
 bj 155 [vI g,vI 8] λh =>
 cond h
 (T.ah (f.add 2) [.int .i64] λi =>
 bj 155 [vI i,vI 4] λj =>
 T.ret (.bool j))
 cC
def rU (a b c d e:Int):bP Xaz [] Tryz.f137 [.agg #[vI a,vI b,vI c,.int .i32 d,vI e],vI 6]=mW a b c d e:=av
def mM (a b c d e:Int):T :=
 T.new [vI a,vI b,vI c,.int .i32 d,vI e] 49 λf =>
 T.ah (f.add 1) [.int .i64] λg =>
 bj 155 [vI g,vI 4] λh =>
 cond h
 (T.ah (f.add 2) [.int .i64] λi =>
 bj 155 [vI i,vI 8] λj =>
 cond j
 (T.ah (f.add 3) [.int .i32] λk =>
 cond (decide (k>=0))
 (T.ah (f.add 3) [.int .i32] λl =>
 T.ret (.bool (decide (l<8))))
 cC)
 cC)
 cC
def sf (a b c d e:Int):bP Xaz [] Tryz.f137 [.agg #[vI a,vI b,vI c,.int .i32 d,vI e],vI 7]=mM a b c d e:=av
def mT (a b c d e:Int):T :=
 tf a b c d e
def sA (a b c d e:Int):bP Xaz [] Tryz.f137 [.agg #[vI a,vI b,vI c,.int .i32 d,vI e],vI 8]=mT a b c d e:=av
def nj (a b c d e:Int):T :=
 Bq a b c d e
def rT (a b c d e:Int):bP Xaz [] Tryz.f137 [.agg #[vI a,vI b,vI c,.int .i32 d,vI e],vI 9]=nj a b c d e:=av
def lO (a b c d e:Int):T :=
 tf a b c d e
def rj (a b c d e:Int):bP Xaz [] Tryz.f137 [.agg #[vI a,vI b,vI c,.int .i32 d,vI e],vI 10]=lO a b c d e:=av
def lS (a b c d e:Int):T :=
 tf a b c d e
def qK (a b c d e:Int):bP Xaz [] Tryz.f137 [.agg #[vI a,vI b,vI c,.int .i32 d,vI e],vI 11]=lS a b c d e:=av
def lR (a b c d e:Int):T :=
 Bq a b c d e
def qx (a b c d e:Int):bP Xaz [] Tryz.f137 [.agg #[vI a,vI b,vI c,.int .i32 d,vI e],vI 12]=lR a b c d e:=av
def mh (a b c d e:Int):T :=
 tf a b c d e
def qR (a b c d e:Int):bP Xaz [] Tryz.f137 [.agg #[vI a,vI b,vI c,.int .i32 d,vI e],vI 13]=mh a b c d e:=av
def qn (o a b n f:Int):T :=
 T.new [vI o,vI a,vI b,.int .i32 n,vI f] 49 λc =>
 T.ah (c.add 3) [.int .i32] λd =>
 T.ret (.bool (d==0))
def rJ (a b c d e:Int):T :=
 qn a b c d e
def vS (a b c d e:Int):bP Xaz [] Tryz.f138 [.agg #[vI a,vI b,vI c,.int .i32 d,vI e],vI 1]=rJ a b c d e:=av
def rG (a b c d e:Int):T :=
 qn a b c d e
def vK (a b c d e:Int):bP Xaz [] Tryz.f138 [.agg #[vI a,vI b,vI c,.int .i32 d,vI e],vI 2]=rG a b c d e:=av
def rL (a b c d e:Int):T :=
 qn a b c d e
def vD (a b c d e:Int):bP Xaz [] Tryz.f138 [.agg #[vI a,vI b,vI c,.int .i32 d,vI e],vI 3]=rL a b c d e:=av
def rI (a b c d e:Int):T :=
 qn a b c d e
def vN (a b c d e:Int):bP Xaz [] Tryz.f138 [.agg #[vI a,vI b,vI c,.int .i32 d,vI e],vI 4]=rI a b c d e:=av
def rE (a b c d e:Int):T :=
 qn a b c d e
def vz (a b c d e:Int):bP Xaz [] Tryz.f138 [.agg #[vI a,vI b,vI c,.int .i32 d,vI e],vI 5]=rE a b c d e:=av
def rM (a b c d e:Int):T :=
 qn a b c d e
def wh (a b c d e:Int):bP Xaz [] Tryz.f138 [.agg #[vI a,vI b,vI c,.int .i32 d,vI e],vI 6]=rM a b c d e:=av
def rQ (a b c d e:Int):T :=
 T.new [vI a,vI b,vI c,.int .i32 d,vI e] 49 λf =>
 T.ret (.bool true)
def wm (a b c d e:Int):bP Xaz [] Tryz.f138 [.agg #[vI a,vI b,vI c,.int .i32 d,vI e],vI 7]=rQ a b c d e:=av
def rO (a b c d e:Int):T :=
 T.new [vI a,vI b,vI c,.int .i32 d,vI e] 49 λf =>
 T.ah (f.add 3) [.int .i32] λg =>
 bj 156 [.int .i32 g,vI 1] λh =>
 T.ret (.bool h)
def vX (a b c d e:Int):bP Xaz [] Tryz.f138 [.agg #[vI a,vI b,vI c,.int .i32 d,vI e],vI 8]=rO a b c d e:=av
def rD (a b c d e:Int):T :=
 T.new [vI a,vI b,vI c,.int .i32 d,vI e] 49 λf =>
 T.ah (f.add 3) [.int .i32] λg =>
 cond (decide (g>=0))
 (T.ah (f.add 3) [.int .i32] λh =>
 T.ret (.bool (decide (h<=255))))
 cC
def vF (a b c d e:Int):bP Xaz [] Tryz.f138 [.agg #[vI a,vI b,vI c,.int .i32 d,vI e],vI 9]=rD a b c d e:=av
def pV (a b c d e:Int):T :=
 T.new [vI a,vI b,vI c,.int .i32 d,vI e] 49 λf =>
 T.ret (.bool true)
def uM (a b c d e:Int):bP Xaz [] Tryz.f138 [.agg #[vI a,vI b,vI c,.int .i32 d,vI e],vI 10]=pV a b c d e:=av
def qb (a b c d e:Int):T :=
 T.new [vI a,vI b,vI c,.int .i32 d,vI e] 49 λf =>
 T.ah (f.add 3) [.int .i32] λg =>
 cond (decide (g>=0))
 (T.ah (f.add 3) [.int .i32] λh =>
 T.ret (.bool (decide (h<=4095))))
 cC
def uH (a b c d e:Int):bP Xaz [] Tryz.f138 [.agg #[vI a,vI b,vI c,.int .i32 d,vI e],vI 11]=qb a b c d e:=av
def pI (a b c d e:Int):T :=
 T.new [vI a,vI b,vI c,.int .i32 d,vI e] 49 λf =>
 T.ah (f.add 3) [.int .i32] λg =>
 T.ah (f.add 4) [.int .i64] λh =>
 bj 156 [.int .i32 g,vI h] λi =>
 T.ret (.bool i)
def uD (a b c d e:Int):bP Xaz [] Tryz.f138 [.agg #[vI a,vI b,vI c,.int .i32 d,vI e],vI 12]=pI a b c d e:=av
def pe (a b c d e:Int):T :=
 T.new [vI a,vI b,vI c,.int .i32 d,vI e] 49 λf =>
 T.ah (f.add 3) [.int .i32] λg =>
 T.ah (f.add 4) [.int .i64] λh =>
 bj 156 [.int .i32 g,vI h] λi =>
 T.ret (.bool i)
def uE (a b c d e:Int):bP Xaz [] Tryz.f138 [.agg #[vI a,vI b,vI c,.int .i32 d,vI e],vI 13]=pe a b c d e:=av
def gW (a b:Xax):T :=
 T.ah (a.add 1) [.string] λz =>
 T.ah (b.add 1) [.string] λA =>
 cond (!((ByteArray.toList z)==(ByteArray.toList A)))
 (T.ret (vI 31))
 (T.ah (a.add 2) [.int .i64,.int .i64,.int .i64,.int .i32,.int .i64] λc d e f g =>
 T.ah (b.add 2) [.int .i64,.int .i64,.int .i64,.int .i32,.int .i64] λh i j k l =>
 ja (Sx.vr (BinOp.neq) 49 (Operand.tmp 109) (Operand.tmp 111) (.agg #[vI c,vI d,vI e,.int .i32 f,vI g]) (.agg #[vI h,vI i,vI j,.int .i32 k,vI l])) λm =>
 cond m
 (T.ret (vI 31))
 (T.ah (a.add 9) [.int .i64] λn =>
 T.ah (b.add 9) [.int .i64] λo =>
 cond (n != o)
 (T.ret (vI 31))
 (T.ah (a.add 7) (yL 64) λp q r s =>
 T.ah (b.add 7) (yL 64) λt u w x =>
 bj 82 [.agg #[.slice p q r,aE s],.agg #[.slice t u w,aE x]] λy =>
 cond (!y)
 (T.ret (vI 31))
 (T.ret (vI 0)))))
def rH (a:Int) (b:Xaa) (c d e f g:Int) (h:Xac) (i j:Nat) (k l:Int):T :=
 T.new [vI a,.string b,vI c,vI d,vI e,.int .i32 f,vI g,.slice h i j,aE k,vI l] 55 λm =>
 T.ah m [.int .i64] λn =>
 T.new [vI 0,bZ,vI 0,vI 0,vI 0,.int .i32 0,vI 0,bm,aE 0,vI 0] 55 λo =>
 T.aD o [vI n,bZ,vI 0,vI 0,vI 0,.int .i32 0,vI 0,bm,aE 0,vI 0] <|
 T.ah m [.int .i64] λp =>
 cond (p==1)
 (T.ah (m.add 1) [.string] λq =>
 T.aD (o.add 1) [.string q] <|
 T.ah (m.add 1) [.string] λr =>
 bj 55 [.string r] λs =>
 cond (!s)
 (T.ret (vI 31))
 (gW m o))
 (cond (p==2)
 (T.ah (m.add 2) [.int .i64,.int .i64,.int .i64,.int .i32,.int .i64] λq r s t u =>
 T.ah (m.add 7) (yL 64) λv w x y =>
 T.aD (o.add 2) [vI q,vI r,vI s,.int .i32 t,vI u] <|
 T.bG [((m.add 7),[.slice v w x,aE y])] <|
 T.aD (o.add 7) [.slice v w x,aE y] <|
 T.ah m (yI 64) λz A B C D E F G H I J K =>
 bj 80 [.agg #[vI z,.string A,vI B,vI C,vI D,.int .i32 E,vI F,.slice G H I,aE J,vI K]] λL =>
 cond (!L)
 (T.ret (vI 31))
 (gW m o))
 (cond (p==3)
 (T.ah (m.add 9) [.int .i64] λq =>
 T.aD (o.add 9) [vI q] <|
 T.ah (m.add 9) [.int .i64] λr =>
 bj 81 [vI r] λs =>
 cond (!s)
 (T.ret (vI 31))
 (gW m o))
 (cond (p==4)
 (gW m o)
 (cond (p==5)
 (T.ah (m.add 9) [.int .i64] λq =>
 T.aD (o.add 9) [vI q] <|
 T.ret (vI 31))
 (cond (p==6)
 (T.ah (m.add 7) (yL 64) λq r s t =>
 T.aD (o.add 7) [.slice q r s,aE t] <|
 T.ret (vI 31))
 (cond (p==7)
 (T.ah (m.add 9) [.int .i64] λq =>
 T.aD (o.add 9) [vI q] <|
 T.ret (vI 31))
 (T.ret (vI 31))))))))
def vR (a:Int) (b:Xaa) (c d e f g:Int) (h:Xac) (i j:Nat) (k l:Int):bP Xaz [] Tryz.f54 [.agg #[vI a,.string b,vI c,vI d,vI e,.int .i32 f,vI g,.slice h i j,.int .u32 k,vI l],vI 0]=rH a b c d e f g h i j k l:=av
def rB (a:Int) (b:Xaa) (c d e f g:Int) (h:Xac) (i j:Nat) (k l:Int):T :=
 T.new [vI a,.string b,vI c,vI d,vI e,.int .i32 f,vI g,.slice h i j,aE k,vI l] 55 λm =>
 T.ah m [.int .i64] λn =>
 T.new [vI 0,bZ,vI 0,vI 0,vI 0,.int .i32 0,vI 0,bm,aE 0,vI 0] 55 λo =>
 T.aD o [vI n,bZ,vI 0,vI 0,vI 0,.int .i32 0,vI 0,bm,aE 0,vI 0] <|
 T.ah m [.int .i64] λp =>
 cond (p==1)
 (T.ah (m.add 1) [.string] λq =>
 T.aD (o.add 1) [.string q] <|
 T.ah (m.add 1) [.string] λr =>
 bj 55 [.string r] λs =>
 cond (!s)
 (T.ret (vI 31))
 (gW m o))
 (cond (p==2)
 (T.ah (m.add 2) [.int .i64,.int .i64,.int .i64,.int .i32,.int .i64] λq r s t u =>
 T.ah (m.add 7) (yL 64) λv w x y =>
 T.aD (o.add 2) [vI q,vI r,vI s,.int .i32 t,vI u] <|
 T.bG [((m.add 7),[.slice v w x,aE y])] <|
 T.aD (o.add 7) [.slice v w x,aE y] <|
 T.ret (vI 31))
 (cond (p==3)
 (T.ah (m.add 9) [.int .i64] λq =>
 T.aD (o.add 9) [vI q] <|
 T.ah (m.add 9) [.int .i64] λr =>
 bj 81 [vI r] λs =>
 cond (!s)
 (T.ret (vI 31))
 (gW m o))
 (cond (p==4)
 (T.ret (vI 31))
 (cond (p==5)
 (T.ah (m.add 9) [.int .i64] λq =>
 T.aD (o.add 9) [vI q] <|
 T.ah (m.add 9) [.int .i64] λr =>
 cond (decide (r>=(-128)))
 (T.ah (m.add 9) [.int .i64] λs =>
 cond (!(decide (s<=255)))
 (T.ret (vI 31))
 (gW m o))
 (T.ret (vI 31)))
 (cond (p==6)
 (T.ah (m.add 7) (yL 64) λq r s t =>
 T.aD (o.add 7) [.slice q r s,aE t] <|
 T.ah (m.add 7) (yL 64) λu v w x =>
 bj 56 [.agg #[.slice u v w,aE x]] λy =>
 cond (!y)
 (T.ret (vI 31))
 (gW m o))
 (cond (p==7)
 (T.ah (m.add 9) [.int .i64] λq =>
 T.aD (o.add 9) [vI q] <|
 T.ah (m.add 9) [.int .i64] λr =>
 cond (decide (r>=0))
 (T.ah (m.add 9) [.int .i64] λs =>
 cond (!(decide (s<=1048576)))
 (T.ret (vI 31))
 (gW m o))
 (T.ret (vI 31)))
 (T.ret (vI 31))))))))
def vU (a:Int) (b:Xaa) (c d e f g:Int) (h:Xac) (i j:Nat) (k l:Int):bP Xaz [] Tryz.f54 [.agg #[vI a,.string b,vI c,vI d,vI e,.int .i32 f,vI g,.slice h i j,.int .u32 k,vI l],vI 1]=rB a b c d e f g h i j k l:=av
def kS (a:Xac) (b c:Nat):T :=
 T.loop [cH,aS,aS] [.bool false,vI 0,vI 0] λd e f =>
 bz f b
 (cond (decide (f<65))
 (aR f b a λg =>
 T.ah (g.add (aK f 4)) [.slice 55] λh i j =>
 cond (decide ((i:Int)>600))
 fR
 (aR f b a λk =>
 T.ah ((k.add (aK f 4)).add 1) [.slice 55] λl m n =>
 cond (decide ((m:Int)>300))
 fR
 (aR f b a λo =>
 T.ah ((o.add (aK f 4)).add 2) [.slice 116] λp q r =>
 cond (decide ((q:Int)>100))
 fR
 (aR f b a λs =>
 T.ah (s.add (aK f 4)) [.slice 55] λt u v =>
 aR f b a λw =>
 T.ah ((w.add (aK f 4)).add 1) [.slice 55] λx y z =>
 aR f b a λA =>
 T.ah ((A.add (aK f 4)).add 2) [.slice 116] λB C D =>
 T.again 0 [.bool d,vI (bY ((bY ((bY (e+(u:Int)))+(y:Int)))+(C:Int))),aY f]))))
 (T.ret (.bool (decide (e>900)))))
 (T.ret (.bool (decide (e>900))))
def ql (a:Xac) (b c:Nat):bP Xaz [] Tryz.f23 [.slice a b c]=kS a b c:=av
end Go.Sx
