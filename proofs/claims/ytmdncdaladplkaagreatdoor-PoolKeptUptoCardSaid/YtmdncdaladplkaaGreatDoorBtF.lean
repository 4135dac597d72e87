/- Trees of functions. No condition. -/
import Derived.Test.YtmdncdaladplkaaGreatDoorSxF
import Derived.Test.YtmdncdaladplkaaGreatDoorProg
import Derived.KernelRfl
set_option linter.all false
set_option maxRecDepth 100000
set_option maxHeartbeats 4000000
namespace Go.Sx
open Go.Proofs
def Ww (c:Xac) (b:Nat) (d:Xac) (e f r:Nat) (k:T):T :=
 T.loop [aS] [vI 0] λa =>
 bz a b
 (aR a b c λg =>
 T.ah ((g.add (aK a 10)).add 7) (yL 64) λh i j l =>
 cv 38 [.agg #[.slice h i j,aE l],.slice d e f] false [(true,(yL 64))] λm n o p =>
 aR a b c λq =>
 T.aD ((q.add (aK a 10)).add 7) [.slice m n o,aE p] <|
 T.again r [aY a])
 k
def Xj (J K:Xax) (f:Xac) (g h:Nat):T :=
 (T.ah K [.slice 70] λi d L =>
 T.loop [aS] [vI 0] λa =>
 bz a d
 (aR a d i λj =>
 T.ah (j.add (aK a 4)) (yU 55 116) λk l m n o p q r s t u w =>
 T.new [bm,bm,bm,bm] 70 λc =>
 T.aD c [.slice k l m,.slice n o p,.slice q r s,.slice t u w] <|
 T.ah c [.slice 55] λx y z =>
 T.ah (c.add 1) [.slice 55] λA B C =>
 bg (Instr.buildSlice 43 2 #[(0,.slice x y z),(1,.slice A B C)]) λD e M =>
 T.loop [aS] [vI 0] λb =>
 bz b e
 (aR b e D λE =>
 T.ah (E.add (aK b 1)) [.slice 55] λF G N =>
 Ww F G f g h 4 (T.again 3 [aY b]))
 (T.again 2 [aY a]))
 (T.aD J [vI 0,vI 0,bZ] <|
 T.ah J [.int .i64,.int .i64,.string] λH I YA =>
 bR #[.pointer (some K),.agg #[vI H,vI I,.string YA]]))
def tk (d:Xax):T :=
 T.ah d [.int .i64,.int .i64,.string] λa b c =>
 T.ret (.tuple #[.pointer none,.agg #[vI a,vI b,.string c]])
def XN (a1 a7:Xax) (c:Int) (s:Xac) (j:Nat) (t u:Xac) (w x:Nat) (y:Xac) (z A:Nat) (k:Xac->Xac->Nat->Nat->Xac->Nat->Nat->T):T :=
 T.loop [(false,[.pointer 0]),fH,fH,aS] [.pointer t,.slice u w x,.slice y z A,vI 0] λl m n o p q r d =>
 bz d j
 (aR d j s λB =>
 T.ah (B.add (aK d 3)) [.string,.slice 64,.int .u32] λC D E F G =>
 T.new [bZ,bm,aE 0] 116 λa =>
 T.aD a [.string C,.slice D E F,aE G] <|
 T.ah (a.add 1) (yL 64) λH I J K =>
 cv 34 [.pointer (some a7),vI c,.agg #[.slice H I J,aE K]] true [(true,(yL 64)),(false,[.string]),cH] λL M N O P Q =>
 T.new [bm,aE 0] 53 λb =>
 T.aD b [.slice L M N,aE O] <|
 cond (!Q)
 (T.aD a1 [vI 23,vI c,.string P] <|
 tk a1)
 (T.ah a [.string] λe =>
 T.ah b (yL 64) λf g h i =>
 fo 35 [.pointer (some a7),.agg #[vI c,.string e]] λs86 =>
 T.bG [(b,[.slice f g h,aE i]),(a,[.string e])] <|
 bg (Instr.buildSlice 67 1 #[(0,.agg #[.string s86,.slice f g h,aE i])]) λR S U =>
 T.bG [(b,[.slice f g h,aE i]),(a,[.string e])] <|
 bg (Builtin.append_ #[67,67] 67 #[.slice m n o,.slice R S U]) λV W X =>
 T.bG [(b,[.slice f g h,aE i]),(a,[.string e])] <|
 T.ah a [.string] λY =>
 bg (Instr.buildSlice 112 1 #[(0,.agg #[vI c,.string Y])]) λZ l95 l96 =>
 bg (Builtin.append_ #[112,112] 112 #[.slice p q r,.slice Z l95 l96]) λp97 l98 l99 =>
 T.again 2 [.pointer l,.slice V W X,.slice p97 l98 l99,aY d]))
 (k l m n o p q r)
def Yh (i p:Xax) (j:Xac) (k l:Nat) (b:Xac) (c q:Nat):T :=
 (cv 37 [.slice j k l] true [(false,[.slice 116]),aS,aS] λm n o a d =>
 cond (d != 0)
 (aR a c b λe =>
 T.ah (e.add (aK a 2)) [.int .i64] λf =>
 aR a c b λg =>
 T.ah ((g.add (aK a 2)).add 1) [.string] λh =>
 T.bG [(((g.add (aK a 2)).add 1),[.string h]),((e.add (aK a 2)),[vI f])] <|
 T.aD i [vI d,vI f,.string h] <|
 tk i)
 (Xj i p m n o))
def W5 (e c:Xax) (w x:Xac) (y z:Nat) (A:Xac) (B C:Nat) (a:Int) (D:Xac) (E F:Nat) (G:Xac) (H I:Nat) (J:Xac) (K L:Nat) (M:Xac) (N O:Nat):T :=
 T.new [bm,bm,bm,bm] 70 λb =>
 T.aD b [.slice D E F,.slice G H I,.slice J K L,.slice M N O] <|
 T.new [bm,bm,bm,bm] 70 λd =>
 T.ah b [.slice 55] λP Q R =>
 cv 33 [.pointer (some c),vI a,.slice P Q R] true [(false,[.slice 55]),(false,[.string]),cH] λS U V W X =>
 T.aD d [.slice S U V] <|
 cond (!X)
 (T.aD e [vI 23,vI a,.string W] <|
 tk e)
 (T.ah (b.add 1) [.slice 55] λY Z l46 =>
 cv 33 [.pointer (some c),vI a,.slice Y Z l46] true [(false,[.slice 55]),(false,[.string]),cH] λp47 l48 l49 s50 b51 =>
 T.aD (d.add 1) [.slice p47 l48 l49] <|
 cond (!b51)
 (T.aD e [vI 23,vI a,.string s50] <|
 tk e)
 (T.ah (b.add 2) [.slice 116] λp52 l53 l54 =>
 XN e c a p52 l53 w x y z A B C λp55 p56 l57 l58 p59 l60 l61 =>
 (T.ah c [.slice 70] λf g h =>
 T.ah d (yU 55 116) λi j k l m n o p q r s t =>
 bg (Instr.buildSlice 32 1 #[(0,.agg #[.slice i j k,.slice l m n,.slice o p q,.slice r s t])]) λp78 l79 l80 =>
 T.bG [(c,[.slice f g h])] <|
 bg (Builtin.append_ #[32,32] 32 #[.slice f g h,.slice p78 l79 l80]) λp81 l82 l83 =>
 T.bG [(d,[.slice i j k,.slice l m n,.slice o p q,.slice r s t])] <|
 T.aD c [.slice p81 l82 l83] <|
 T.ah (c.add 6) [.int .i64] λu =>
 T.ah b (yU 55 116) λp85 l86 l87 p88 l89 l90 p91 l92 l93 p94 l95 l96 =>
 cY 36 [.agg #[.slice p85 l86 l87,.slice p88 l89 l90,.slice p91 l92 l93,.slice p94 l95 l96]] λn97 =>
 T.bG [((c.add 6),[vI u])] <|
 T.aD (c.add 6) [vI (bY (u+n97))] <|
 T.again 1 [.pointer p55,.slice p56 l57 l58,.slice p59 l60 l61,aY a])))
def X' (y z:Xax) (B c:Xac) (b A:Nat):T :=
 (T.loop [(false,[.pointer 0]),fH,fH,aS] [.pointer B,bm,bm,vI 0] λj d e f g h i a =>
 bz a b
 (aR a b c λk =>
 T.ah (k.add (aK a 4)) (yU 55 116) λl m n o p q r s t u w x =>
 W5 y z j d e f g h i a l m n o p q r s t u w x)
 (Yh y z d e f g h i))
def zT (a:Xac) (b c:Nat):T :=
 T.new [vI 0,vI 0,bZ] 77 λd =>
 cond ((b:Int)==0)
 (T.aD d [vI 25,vI 0,bZ] <|
 tk d)
 (cond (decide ((b:Int)>64))
 (T.aD d [vI 4,vI 0,bZ] <|
 tk d)
 (T.loop [(false,[.pointer 0]),aS] [.pointer none,vI 0] λe f =>
 bz f b
 (aR f b a λg =>
 T.ah (g.add (aK f 4)) (yU 55 116) λh i j k l m n o p q r s =>
 T.new [bm,bm,bm,bm] 70 λt =>
 T.aD t [.slice h i j,.slice k l m,.slice n o p,.slice q r s] <|
 T.ah t (yU 55 116) λu v w x y z A B C D E F =>
 cY 30 [.agg #[.slice u v w,.slice x y z,.slice A B C,.slice D E F]] λG =>
 cond (G != 0)
 (T.aD d [vI 31,vI f,bZ] <|
 tk d)
 (T.again 0 [.pointer e,aY f]))
 (dp (Instr.makeMap 104 none) false [(false,[.map 0 0])] λg =>
 dp (Instr.makeMap 104 none) false [(false,[.map 0 0])] λh =>
 dp (Instr.makeMap 105 none) false [(false,[.map 0 0])] λi =>
 T.new [bm,bm,.map g,.map h,.map i,bm,vI 0] 108 λj =>
 cv 31 [.pointer (some j),.slice a b c] true [] <| cv 32 [.pointer (some j),.slice a b c] true [(true,[.int .i64,.int .i64,.string]),cH] λk l m n =>
 T.new [vI 0,vI 0,bZ] 77 λo =>
 T.aD o [vI k,vI l,.string m] <|
 cond n
 (T.ah o [.int .i64,.int .i64,.string] λp q r =>
 T.bG [(o,[vI p,vI q,.string r])] <|
 T.aD d [vI p,vI q,.string r] <|
 tk d)
 (X' d j e a b c))))
def Bd (a:Xac) (b c:Nat):bP Xaz [] Tryz.f21 [.slice a b c]=zT a b c:=av
def ob (a:Xac) (b c:Nat):T :=
 bj 23 [.slice a b c] λd =>
 cond d
 (bR #[.pointer none,.pointer none,.bool false,.bool true])
 (cv 21 [.slice a b c] true [(false,[.pointer 108]),(true,[.int .i64,.int .i64,.string])] λe f g h =>
 T.new [vI 0,vI 0,bZ] 77 λi =>
 T.aD i [vI f,vI g,.string h] <|
 cv 24 [.slice a b c] true [(false,[.pointer 45]),(true,[.int .i64,.int .i64,.string])] λj k l m =>
 T.new [vI 0,vI 0,bZ] 91 λn =>
 T.aD n [vI k,vI l,.string m] <|
 T.ah i [.int .i64] λo =>
 T.ah n [.int .i64] λp =>
 cond (o==p)
 (T.ah (i.add 1) [.int .i64] λq =>
 T.ah (n.add 1) [.int .i64] λr =>
 cond (q==r)
 (T.ah (i.add 2) [.string] λs =>
 T.ah (n.add 2) [.string] λt =>
 cond ((ByteArray.toList s)==(ByteArray.toList t))
 (T.ah n [.int .i64] λu =>
 cond ((!(/-?Option.isSome.match_1-/ match e with
 | some val=>false
 | none=>true))==(u==0))
 (bR #[.pointer e,.pointer j,.bool (!(/-?Option.isSome.match_1-/ match e with
 | some val=>false
 | none=>true)),.bool ((!(/-?Option.isSome.match_1-/ match e with
 | some val=>false
 | none=>true))==(u==0))])
 (bR #[.pointer e,.pointer j,.bool false,.bool ((!(/-?Option.isSome.match_1-/ match e with
 | some val=>false
 | none=>true))==(u==0))]))
 (bR #[.pointer e,.pointer j,.bool false,.bool false]))
 (bR #[.pointer e,.pointer j,.bool false,.bool false]))
 (bR #[.pointer e,.pointer j,.bool false,.bool false]))
def tN (a:Xac) (b c:Nat):bP Xaz [] Tryz.f11 [.slice a b c]=ob a b c:=av
def xU (a:Xac):T :=
 cv 22 [.pointer a] true [(false,[.slice 84]),(false,[.map 89 86])] λb c d e =>
 T.loop [fH,aS] [bm,vI 0] λf g h i =>
 bz i c
 (aR i c b λj =>
 T.ah (j.add (aK i 3)) [.int .i64,.int .i64,.slice 53] λk l m n o =>
 T.new [vI 0,vI 0,bm] 84 λp =>
 T.aD p [vI k,vI l,.slice m n o] <|
 T.ah p [.int .i64,.int .i64,.slice 53] λq r s t u =>
 bg (Instr.buildSlice 24 1 #[(0,.agg #[vI q,vI r,.slice s t u])]) λv w x =>
 bg (Builtin.append_ #[24,24] 24 #[.slice f g h,.slice v w x]) λy z A =>
 T.again 0 [.slice y z A,aY i])
 (T.ret (.slice f g h))
def Al (a:Xac):bP Xaz [] Tryz.f8 [.pointer a]=xU a:=av
def kI (a:Xac) (b c:Nat) (d:Xac) (e f:Nat):T :=
 cond ((b:Int) != (e:Int))
 cC
 (T.loop [cH,aS] [.bool false,vI 0] λg h =>
 bz h b
 (aR h b a λi =>
 T.ah (i.add (aK h 3)) [.int .i64] λj =>
 aR h e d λk =>
 T.ah (k.add (aK h 3)) [.int .i64] λl =>
 cond (j != l)
 cC
 (aR h b a λm =>
 T.ah ((m.add (aK h 3)).add 1) [.int .i64] λn =>
 aR h e d λo =>
 T.ah ((o.add (aK h 3)).add 1) [.int .i64] λp =>
 cond (n != p)
 cC
 (aR h b a λq =>
 T.ah ((q.add (aK h 3)).add 2) [.slice 53] λr s t =>
 aR h e d λu =>
 T.ah ((u.add (aK h 3)).add 2) [.slice 53] λv w x =>
 cond ((s:Int) != (w:Int))
 cC
 (T.loop [cH,aS] [.bool g,vI 0] λy z =>
 aR h b a λA =>
 T.ah ((A.add (aK h 3)).add 2) [.slice 53] λB C D =>
 bz z C
 (aR h b a λE =>
 T.ah ((E.add (aK h 3)).add 2) [.slice 53] λF G H =>
 aR z G F λI =>
 T.ah (I.add (aK z 2)) (yL 64) λJ K L M =>
 aR h e d λN =>
 T.ah ((N.add (aK h 3)).add 2) [.slice 53] λO P Q =>
 aR z P O λR =>
 T.ah (R.add (aK z 2)) (yL 64) λS U V W =>
 bj 16 [.agg #[.slice J K L,aE M],.agg #[.slice S U V,aE W]] λX =>
 T.bG [(((N.add (aK h 3)).add 2),[.slice O P Q]),(((E.add (aK h 3)).add 2),[.slice F G H])] <|
 cond (!X)
 cC
 (T.again 1 [.bool y,aY z]))
 (T.again 0 [.bool y,aY h])))))
 fR)
def qe (a:Xac) (b c:Nat) (d:Xac) (e f:Nat):bP Xaz [] Tryz.f13 [.slice a b c,.slice d e f]=kI a b c d e f:=av
def PL (b:Nat) (m a:Int) (d:Xac) (e:Nat) (l:Xac) (l10 c:Nat):T :=
 cond (decide ((b:Int)>0))
 (T.dP Xaz (Instr.buildSlice 38 1 #[(0,.agg #[vI m,vI a,.slice d b e])]) false [(false,[.slice 0])] λf g h =>
 T.dP Xaz (Builtin.append_ #[38,38] 38 #[.slice l l10 c,.slice f g h]) false [(false,[.slice 0])] λi j k =>
 T.again 1 [.slice i j k,.slice none 0 0,vI (IntKind.wrap .i64 (a+1))])
 (T.again 1 [.slice l l10 c,.slice none 0 0,vI (IntKind.wrap .i64 (a+1))])
def jW (a:Xac):T :=
 T.loop [fH,aS] [bm,vI 0] λb c d e =>
 T.bh a λf =>
 T.ah (f.add 2) [.slice 46] λg h i =>
 bz e h
 (T.loop [fH,fH,aS] [.slice b c d,bm,vI 0] λj k l m n o p =>
 T.bh a λq =>
 T.ah (q.add 2) [.slice 46] λr s t =>
 aR e s r λu =>
 T.ah (u.add (aK e 1)) [.slice 55] λv w x =>
 cond (decide (p<=(w:Int)))
 (T.bh a λy =>
 T.ah (y.add 2) [.slice 46] λz A B =>
 aR e A z λC =>
 T.ah (C.add (aK e 1)) [.slice 55] λD E F =>
 cond (p==(E:Int))
 (PL n e p m o j k l)
 (T.bh a λG =>
 T.ah (G.add 2) [.slice 46] λH I J =>
 aR e I H λK =>
 T.ah (K.add (aK e 1)) [.slice 55] λL M N =>
 aR p M L λO =>
 T.ah (O.add (aK p 10)) [.int .i64] λP =>
 cond (P==4)
 (PL n e p m o j k l)
 (T.bh a λQ =>
 T.ah (Q.add 2) [.slice 46] λR S U =>
 aR e S R λV =>
 T.ah (V.add (aK e 1)) [.slice 55] λW X Y =>
 aR p X W λZ =>
 T.ah (Z.add (aK p 10)) (yI 64) λa0 a1 a2 a3 a4 a5 a6 a7 a8 a9 b0 b1 =>
 bj 15 [.agg #[vI a0,.string a1,vI a2,vI a3,vI a4,.int .i32 a5,vI a6,.slice a7 a8 a9,aE b0,vI b1]] λb2 =>
 cond b2
 (T.bh a λb3 =>
 T.ah (b3.add 2) [.slice 46] λb4 b5 b6 =>
 aR e b5 b4 λb7 =>
 T.ah (b7.add (aK e 1)) [.slice 55] λb8 b9 c0 =>
 aR p b9 b8 λc1 =>
 T.ah ((c1.add (aK p 10)).add 7) (yL 64) λc2 c3 c4 c5 =>
 cY 25 [.slice m n o,.agg #[.slice c2 c3 c4,aE c5]] λc6 =>
 cond (decide (c6<0))
 (T.bh a λc7 =>
 T.ah (c7.add 2) [.slice 46] λc8 c9 d0 =>
 aR e c9 c8 λd1 =>
 T.ah (d1.add (aK e 1)) [.slice 55] λd2 d3 d4 =>
 aR p d3 d2 λd5 =>
 T.ah ((d5.add (aK p 10)).add 7) (yL 64) λd6 d7 d8 d9 =>
 bg (Instr.buildSlice 28 1 #[(0,.agg #[.slice d6 d7 d8,aE d9])]) λe0 e1 e2 =>
 bg (Builtin.append_ #[28,28] 28 #[.slice m n o,.slice e0 e1 e2]) λe3 e4 e5 =>
 T.again 1 [.slice j k l,.slice e3 e4 e5,aY p])
 (T.again 1 [.slice j k l,.slice m n o,aY p]))
 (T.again 1 [.slice j k l,.slice m n o,aY p]))))
 (T.again 0 [.slice j k l,aY e]))
 (T.ret (.slice b c d))
def oJ (a:Xac):bP Xaz [] Tryz.f14 [.pointer a]=jW a:=av
def kK (a:Int) (b:Xaa) (c d e f g:Int) (h:Xac) (i j:Nat) (k l:Int):T :=
 T.new [vI a,.string b,vI c,vI d,vI e,.int .i32 f,vI g,.slice h i j,aE k,vI l] 55 λm =>
 T.ah m [.int .i64] λn =>
 cond (n==2)
 (T.ah (m.add 2) [.int .i64] λo =>
 cY 26 [vI o] λp =>
 T.ret (.bool (p==11)))
 cC
def pY (a:Int) (b:Xaa) (c d e f g:Int) (h:Xac) (i j:Nat) (k l:Int):bP Xaz [] Tryz.f15 [.agg #[vI a,.string b,vI c,vI d,vI e,.int .i32 f,vI g,.slice h i j,.int .u32 k,vI l]]=kK a b c d e f g h i j k l:=av
def jQ (a:Xac) (b c:Nat) (d:Xac) (e f:Nat) (g:Int):T :=
 T.new [.slice d e f,aE g] 53 λh =>
 T.loop [aS,aS] [vI 0,vI 0] λi j =>
 bz j b
 (aR j b a λk =>
 T.ah (k.add (aK j 2)) (yL 64) λl m n o =>
 T.ah h (yL 64) λp q r s =>
 bj 16 [.agg #[.slice l m n,aE o],.agg #[.slice p q r,aE s]] λt =>
 cond t
 (T.ret (vI j))
 (T.again 0 [vI i,aY j]))
 (T.ret (vI (-1)))
def oP (a:Xac) (b c:Nat) (d:Xac) (e f:Nat) (g:Int):bP Xaz [] Tryz.f25 [.slice a b c,.agg #[.slice d e f,.int .u32 g]]=jQ a b c d e f g:=av
def wV (a:Int) (b:Xaa) (c d e f g:Int) (h:Xac) (i j:Nat) (k l:Int):T :=
 T.new [vI a,.string b,vI c,vI d,vI e,.int .i32 f,vI g,.slice h i j,aE k,vI l] 55 λm =>
 T.ah (m.add 2) [.int .i64] λn =>
 cv 67 [vI n] true [(true,[.string,.int .u8,.int .i64]),cH] λo p q r =>
 T.new [bZ,.int .u8 0,vI 0] 171 λs =>
 T.aD s [.string o,.int .u8 p,vI q] <|
 T.ah m [.int .i64] λt =>
 cond (t==2)
 (T.ah (s.add 2) [.int .i64] λu =>
 T.ret (.bool (u==11)))
 cC
def Af (a:Int) (b:Xaa) (c d e f g:Int) (h:Xac) (i j:Nat) (k l:Int):bP Xaz [] Tryz.f41 [.agg #[vI a,.string b,vI c,vI d,vI e,.int .i32 f,vI g,.slice h i j,.int .u32 k,vI l]]=wV a b c d e f g h i j k l:=av
def lP (a:Xac) (b c:Nat) (d:Int) (e:Xac) (f g:Nat) (h:Int):T :=
 T.new [.slice a b c,aE d] 53 λi =>
 T.new [.slice e f g,aE h] 53 λj =>
 T.ah (i.add 1) [.int .u32] λk =>
 T.ah (j.add 1) [.int .u32] λl =>
 cond (k != l)
 cC
 (T.ah i [.slice 64] λm n o =>
 T.ah j [.slice 64] λp q r =>
 cond ((n:Int) != (q:Int))
 cC
 (T.loop [cH,aS] [.bool false,vI 0] λs t =>
 T.ah i [.slice 64] λu v w =>
 bz t v
 (T.ah i [.slice 64] λx y z =>
 aR t y x λA =>
 T.ah (A.add (aK t 2)) [.string,.int .u32] λB C =>
 T.ah j [.slice 64] λD E F =>
 aR t E D λG =>
 T.ah (G.add (aK t 2)) [.string,.int .u32] λH I =>
 ja (Sx.vr (BinOp.neq) 64 (Operand.tmp 31) (Operand.tmp 36) (.agg #[.string B,aE C]) (.agg #[.string H,aE I])) λJ =>
 T.bG [(j,[.slice D E F]),(i,[.slice x y z])] <|
 cond J
 cC
 (T.again 0 [.bool s,aY t]))
 fR))
def qI (a:Xac) (b c:Nat) (d:Int) (e:Xac) (f g:Nat) (h:Int):bP Xaz [] Tryz.f16 [.agg #[.slice a b c,.int .u32 d],.agg #[.slice e f g,.int .u32 h]]=lP a b c d e f g h:=av
def ldT (h:Xax) (H I:Option Nat) (J b:Int) (d:Xax) (e:Xac) (a f:Nat):T :=
 T.ah (d.add 7) (yL 64) λi j k l =>
 fo 42 [.agg #[.slice i j k,aE l]] λm =>
 T.new [vI 0,bZ] 131 λc =>
 T.aD c [vI (a:Int),.string m] <|
 T.ah c [.int .i64,.string] λn o =>
 dp (Instr.lookup 126 (.map I) (.agg #[vI n,.string o]) true) true [aS,cH] λp q =>
 cond (!q)
 (T.ah (h.add 2) [.slice 53] λK g L =>
 T.ah c [.int .i64,.string] λr s =>
 T.fI Xaz (Instr.mapUpdate 126 (.map I) (.agg #[vI r,.string s]) (vI (g:Int))) <|
 T.ah (h.add 2) [.slice 53] λt u w =>
 T.ah (d.add 7) (yL 64) λx y z A =>
 bg (Instr.buildSlice 28 1 #[(0,.agg #[.slice x y z,aE A])]) λB C D =>
 bg (Builtin.append_ #[28,28] 28 #[.slice t u w,.slice B C D]) λE F G =>
 T.aD (h.add 2) [.slice E F G] <|
 T.fI Xaz (Instr.mapUpdate 81 (.map H) (.agg #[vI J,vI b]) (.agg #[vI (a:Int),vI (g:Int)])) <|
 T.again 1 [.slice e a f,aY b])
 (T.fI Xaz (Instr.mapUpdate 81 (.map H) (.agg #[vI J,vI b]) (.agg #[vI (a:Int),vI p])) <|
 T.again 1 [.slice e a f,aY b])
def plT (e:Xax) (t a:Int) (f:Xax) (b:Xac) (c d:Nat):T :=
 T.ah f [.int .i64] λg =>
 cond (g==4)
 (T.ah (e.add 2) [.slice 53] λu h w =>
 cond (decide ((h:Int)>0))
 (T.aD (e.add 1) [vI a] <|
 T.ah e [.int .i64,.int .i64,.slice 53] λi j k l m =>
 bg (Instr.buildSlice 80 1 #[(0,.agg #[vI i,vI j,.slice k l m])]) λn o p =>
 bg (Builtin.append_ #[80,80] 80 #[.slice b c d,.slice n o p]) λq r s =>
 T.aD e [vI t,vI 0,bm] <|
 T.again 1 [.slice q r s,aY a])
 (T.again 1 [.slice b c d,aY a]))
 (T.again 1 [.slice b c d,aY a])
def zk (a:Xac):T :=
 dp (Instr.makeMap 81 none) false [(false,[.map 0 0])] λb =>
 cond (/-?Option.isSome.match_1-/ match a with
 | some val=>false
 | none=>true)
 (bR #[bm,.map b])
 (dp (Instr.makeMap 126 none) false [(false,[.map 0 0])] λc =>
 cY 39 [.pointer a] λd =>
 T.loop [fH,aS] [bm,vI 0] λe f g h =>
 cond (decide (h<d))
 (T.new [vI 0,vI 0,bm] 84 λi =>
 T.aD i [vI h,vI 0,bm] <|
 cv 40 [.pointer a,vI h,vI 0] false [(false,[.slice 55])] λj k l =>
 bg (Instr.buildSlice 46 1 #[(0,.agg #[vI 4,bZ,vI 0,vI 0,vI 0,.int .i32 0,vI 0,bm,aE 0,vI 0])]) λm n o =>
 bg (Builtin.append_ #[46,46] 46 #[.slice j k l,.slice m n o]) λp q r =>
 T.loop [fH,aS] [.slice e f g,vI 0] λs t u v =>
 bz v q
 (aR v q p λw =>
 T.ah (w.add (aK v 10)) (yI 64) λx y z A B C D E F G H I =>
 T.new [vI 0,bZ,vI 0,vI 0,vI 0,.int .i32 0,vI 0,bm,aE 0,vI 0] 55 λJ =>
 T.aD J [vI x,.string y,vI z,vI A,vI B,.int .i32 C,vI D,.slice E F G,aE H,vI I] <|
 T.ah J (yI 64) λK L M N O P Q R S U V W =>
 bj 41 [.agg #[vI K,.string L,vI M,vI N,vI O,.int .i32 P,vI Q,.slice R S U,aE V,vI W]] λX =>
 cond X
 (ldT i b c h v J s t u)
 (plT i h v J s t u))
 (T.again 0 [.slice s t u,aY h]))
 (bR #[.slice e f g,.map b]))
def Ca (a:Xac):bP Xaz [] Tryz.f22 [.pointer a]=zk a:=av
def eH (a b:Xac) (c d:Nat):T :=
 T.join []
 (T.bh a λe =>
 T.ah e [.slice 50] λf g h =>
 bg (Instr.buildSlice 59 1 #[(0,.slice b c d)]) λi j k =>
 bg (Builtin.append_ #[59,59] 59 #[.slice f g h,.slice i j k]) λl m n =>
 T.bh a λo =>
 T.aD o [.slice l m n] <|
 T.again 0 []) <| T.join []
 (T.bh a λe =>
 T.ah (e.add 1) [.slice 50] λf g h =>
 bg (Builtin.append_ #[50,50] 50 #[bm,.slice b c d]) λi j k =>
 T.bG [((e.add 1),[.slice f g h])] <|
 bg (Instr.buildSlice 59 1 #[(0,.slice i j k)]) λl m n =>
 T.bG [((e.add 1),[.slice f g h])] <|
 bg (Builtin.append_ #[59,59] 59 #[.slice f g h,.slice l m n]) λo p q =>
 T.bh a λr =>
 T.aD (r.add 1) [.slice o p q] <|
 T.again 0 []) <| T.bh a λe =>
 T.ah (e.add 2) [.int .i64] λf =>
 T.bh a λg =>
 T.aD (g.add 2) [vI (bY ((bY (f+(d:Int)))+1))] <|
 T.loop [] [] <| T.join []
 (T.bh a λh =>
 T.ah h [.slice 50] λi j k =>
 cond (decide ((j:Int)>1))
 (T.bh a λl =>
 T.ah (l.add 2) [.int .i64] λm =>
 cond (decide (m>1000000))
 (T.again 1 [])
 (T.bh a λn =>
 T.ah n [.slice 50] λo p q =>
 cond (decide ((p:Int)>4000))
 (T.again 1 [])
 (bR #[])))
 (bR #[])) <| T.join []
 (T.bh a λh =>
 T.ah (h.add 3) [.bool] λi =>
 cond i
 (T.bh a λj =>
 T.aD (j.add 3) [.bool true] <|
 T.again 1 [])
 (T.bh a λj =>
 T.ah j [.slice 50] λk l m =>
 T.need (jc 0 l) <|
 T.bh k λn =>
 T.ah n [.slice 64] λo p q =>
 T.bh a λr =>
 T.ah (r.add 1) [.slice 50] λs t u =>
 T.need (jc 0 t) <|
 T.bh s λv =>
 T.ah v [.slice 64] λw x y =>
 bj 27 [.slice o p q,.slice w x y] λz =>
 T.bG [((r.add 1),[.slice s t u]),(j,[.slice k l m]),((h.add 3),[.bool i])] <|
 T.bh a λA =>
 T.aD (A.add 3) [.bool (!z)] <|
 T.again 1 [])) <| T.bh a λh =>
 T.ah (h.add 2) [.int .i64] λi =>
 T.bh a λj =>
 T.ah j [.slice 50] λk l m =>
 T.need (jc 0 l) <|
 T.bh k λn =>
 T.ah n [.slice 64] λo p q =>
 T.bh a λr =>
 T.aD (r.add 2) [vI (bY ((bY (i-(q:Int)))-1))] <|
 T.bh a λs =>
 T.ah s [.slice 50] λt u v =>
 T.need (((0:Int)<=1)/\((1<=(u:Int))/\((u:Int)<=(v:Int)))) <|
 T.bh a λw =>
 T.aD w [.slice (if (v=1) then t else (Option.map (λx=>Addr.add x 1) t)) ((Int.toNat (u:Int))-1) (v-1)] <|
 T.bh a λx =>
 T.ah (x.add 1) [.slice 50] λy z A =>
 T.need (((0:Int)<=1)/\((1<=(z:Int))/\((z:Int)<=(A:Int)))) <|
 T.bh a λB =>
 T.aD (B.add 1) [.slice (if (A=1) then y else (Option.map (λC=>Addr.add C 1) y)) ((Int.toNat (z:Int))-1) (A-1)] <|
 T.again 0 []
def gS (a b:Xac) (c d:Nat):bP Xaz [0,1,1004,4] Tryz.f17 [.pointer a,.slice b c d]=eH a b c d:=av
def dN (a:Xac):T :=
 bj 28 [.pointer a] λb =>
 cond (!b)
 cC
 (T.loop [aS] [vI 0] λc =>
 T.bh a λd =>
 T.ah d [.slice 50] λe f g =>
 bz c f
 (T.bh a λh =>
 T.ah h [.slice 50] λi j k =>
 aR c j i λl =>
 T.ah (l.add (aK c 1)) [.slice 64] λm n o =>
 T.bh a λp =>
 T.ah p [.slice 50] λq r s =>
 aR c r q λt =>
 T.ah (t.add (aK c 1)) [.slice 64] λu v w =>
 T.need (((0:Int)<=0)/\((0<=(w:Int))/\((w:Int)<=(o:Int)))) <|
 T.loop [aS] [vI 0] λx =>
 cond (decide (x<((((Int.toNat (w:Int))-0):Nat):Int)))
 (T.xk Xaz (.func (Fn.func 19) #[] #[]) [vI c,vI x] false [(true,[.string,.int .u32])] λy z =>
 T.need ((0<=x)/\(x<((((Int.toNat (w:Int))-0):Nat):Int))) <|
 T.bh (if (o=0) then m else (Option.map (λA=>Addr.add A 0) m)) λA =>
 T.aD (A.add (aK x 2)) [.string y,aE z] <|
 T.again 1 [aY x])
 (T.again 0 [aY c]))
 (T.loop [cH,aS] [.bool false,vI 0] λh i =>
 T.bh a λj =>
 T.ah j [.slice 50] λk l m =>
 bz i l
 (T.bh a λn =>
 T.ah n [.slice 50] λo p q =>
 aR i p o λr =>
 T.ah (r.add (aK i 1)) [.slice 64] λs t u =>
 T.bh a λv =>
 T.ah v [.slice 50] λw x y =>
 aR i x w λz =>
 T.ah (z.add (aK i 1)) [.slice 64] λA B C =>
 T.need (((0:Int)<=0)/\((0<=(C:Int))/\((C:Int)<=(u:Int)))) <|
 T.loop [cH,aS] [.bool h,vI 0] λD E =>
 cond (decide (E<((((Int.toNat (C:Int))-0):Nat):Int)))
 (T.need ((0<=E)/\(E<((((Int.toNat (C:Int))-0):Nat):Int))) <|
 T.bh (if (u=0) then s else (Option.map (λF=>Addr.add F 0) s)) λF =>
 T.ah (F.add (aK E 2)) [.string,.int .u32] λG H =>
 T.xk Xaz (.func (Fn.func 19) #[] #[]) [vI i,vI E] false [(true,[.string,.int .u32])] λI J =>
 T.bG [((F.add (aK E 2)),[.string G,aE H])] <|
 ja (Sx.vr (BinOp.neq) 64 (Operand.tmp 86) (Operand.tmp 90) (.agg #[.string G,aE H]) (.agg #[.string I,aE J])) λK =>
 cond K
 cC
 (T.again 2 [.bool D,aY E]))
 (T.again 1 [.bool D,aY i]))
 (T.bh a λn =>
 T.aD n [bm] <|
 T.bh a λo =>
 T.aD (o.add 1) [bm] <|
 T.bh a λp =>
 T.aD (p.add 2) [vI 0] <|
 T.ret (.bool true))))
def fJ (a:Xac):bP Xaz [] Tryz.f18 [.pointer a,.func (Fn.func 19) #[] #[]]=dN a:=av
def kT (a b:Int):T :=
 T.new [bZ,aE 0] 64 λc =>
 T.need ((0:Int)<=16) <|
 T.aD c [.string ⟨#[109,97,114,107]⟩,aE (IntKind.wrap .u32 ((IntKind.wrap .u32 ((IntKind.wrap .u32 a)*65536))+(IntKind.wrap .u32 b)))] <|
 T.ah c [.string,.int .u32] λd e =>
 T.ret (.agg #[.string d,aE e])
def pj (a b:Int):bP Xaz [] Tryz.f19 [vI a,vI b]=kT a b:=av
def fL (a:Xac) (b c:Nat) (d:Xac) (e f:Nat):T :=
 cond ((b:Int) != (e:Int))
 cC
 (T.loop [cH,aS] [.bool false,vI 0] λg h =>
 bz h b
 (aR h b a λi =>
 T.ah (i.add (aK h 2)) [.string,.int .u32] λj k =>
 aR h e d λl =>
 T.ah (l.add (aK h 2)) [.string,.int .u32] λm n =>
 ja (Sx.vr (BinOp.neq) 64 (Operand.tmp 20) (Operand.tmp 24) (.agg #[.string j,aE k]) (.agg #[.string m,aE n])) λo =>
 cond o
 cC
 (T.again 0 [.bool g,aY h]))
 fR)
def jz (a:Xac) (b c:Nat) (d:Xac) (e f:Nat):bP Xaz [] Tryz.f27 [.slice a b c,.slice d e f]=fL a b c d e f:=av
def ey (a:Xac):T :=
 T.loop [aS] [vI 0] λb =>
 T.bh a λc =>
 T.ah c [.slice 50] λd e f =>
 bz b e
 (T.bh a λg =>
 T.ah (g.add 3) [.bool] λh =>
 cond h
 (T.bh a λi =>
 T.aD (i.add 3) [.bool true] <|
 T.again 0 [aY b])
 (T.bh a λi =>
 T.ah i [.slice 50] λj k l =>
 aR b k j λm =>
 T.ah (m.add (aK b 1)) [.slice 64] λn o p =>
 T.bh a λq =>
 T.ah (q.add 1) [.slice 50] λr s t =>
 aR b s r λu =>
 T.ah (u.add (aK b 1)) [.slice 64] λv w x =>
 bj 27 [.slice n o p,.slice v w x] λy =>
 T.bG [((q.add 1),[.slice r s t]),(i,[.slice j k l]),((g.add 3),[.bool h])] <|
 T.bh a λz =>
 T.aD (z.add 3) [.bool (!y)] <|
 T.again 0 [aY b]))
 (T.bh a λg =>
 T.ah (g.add 3) [.bool] λh =>
 T.ret (.bool (!h)))
def gJ (a:Xac):bP Xaz [] Tryz.f28 [.pointer a]=ey a:=av
end Go.Sx
