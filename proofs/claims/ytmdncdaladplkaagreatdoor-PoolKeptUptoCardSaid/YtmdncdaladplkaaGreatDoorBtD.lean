/- Trees of functions. No condition. -/
import Derived.Test.YtmdncdaladplkaaGreatDoorSxF
import Derived.Test.YtmdncdaladplkaaGreatDoorProg
import Derived.KernelRfl
set_option linter.all false
set_option maxRecDepth 100000
set_option maxHeartbeats 4000000
namespace Go.Sx
open Go.Proofs
def vf (a:Xac) (b c:Nat):T :=
 T.new [.slice a b c] 67 λd =>
 T.ah d [.slice 116] λe f g =>
 cv 62 [.slice e f g] false [(false,[.map 9 3])] λh =>
 T.new [.map none] 105 λi =>
 T.aD i [.map h] <|
 dp (Instr.makeMap 152 none) false [(false,[.map 0 0])] λj =>
 T.new [.map none] 152 λk =>
 T.aD k [.map j] <|
 dp (Instr.makeMap 105 none) false [(false,[.map 0 0])] λl =>
 dp (Instr.makeMap 105 none) false [(false,[.map 0 0])] λm =>
 T.new [.map none] 105 λn =>
 T.new [.map none] 105 λo =>
 T.aD n [.map l] <|
 T.aD o [.map m] <|
 T.new [bm] 68 λp =>
 dp (Instr.makeMap 152 none) false [(false,[.map 0 0])] λq =>
 T.new [.map none] 152 λr =>
 T.aD r [.map q] <|
 T.new [.nilFunc] 194 λs =>
 T.aD s [.func (Fn.func 87) #[] #[.pointer (some n),.pointer (some o),.pointer (some p),.pointer (some r),.pointer (some d),.pointer (some i),.pointer (some k),.pointer (some s)]] <|
 T.ah d [.slice 116] λt u v =>
 T.loop [aS] [vI 0] λw =>
 bz w u
 (aR w u t λx =>
 T.ah (x.add (aK w 3)) [.string,.slice 64,.int .u32] λy z A B C =>
 T.new [bZ,bm,aE 0] 116 λD =>
 T.aD D [.string y,.slice z A B,aE C] <|
 T.ah n [.map 9 3] λE =>
 T.ah D [.string] λF =>
 dp (Instr.lookup 105 (.map E) (.string F) false) false [aS] λG =>
 cond (G==0)
 (T.ah s [.func #[9] #[] false] λ(H:Xab) =>
 T.ah D [.string] λI =>
 T.xk Xaz H [.string I] true [] <| T.again 0 [aY w])
 (T.again 0 [aY w]))
 (T.ah k [.map 9 4] λx =>
 T.ret (.map x))
def zd (a:Xac) (b c:Nat):bP Xaz [] Tryz.f61 [.slice a b c]=vf a b c:=av
def vq (a:Xac) (b c:Nat):T :=
 dp (Instr.makeMap 105 none) false [(false,[.map 0 0])] λd =>
 T.loop [aS] [vI 0] λe =>
 bz e b
 (aR e b a λf =>
 T.ah (f.add (aK e 3)) [.string,.slice 64,.int .u32] λg h i j k =>
 T.new [bZ,bm,aE 0] 116 λl =>
 T.aD l [.string g,.slice h i j,aE k] <|
 T.ah l [.string] λm =>
 T.fI Xaz (Instr.mapUpdate 105 (.map d) (.string m) (vI e)) <|
 T.again 0 [aY e])
 (T.ret (.map d))
def zb (a:Xac) (b c:Nat):bP Xaz [] Tryz.f62 [.slice a b c]=vq a b c:=av
def Ew (a:Xac) (b c:Nat) (d:Int) (e:Option Nat):T :=
 T.new [.slice a b c,aE d] 53 λf =>
 T.new [bm,aE 0] 53 λg =>
 dp (Instr.makeMap 196 none) false [(false,[.map 0 0])] λh =>
 T.ah (f.add 1) [.int .u32] λi =>
 T.ah f [.slice 64] λj k l =>
 T.loop [(false,[.int .u32]),aS] [aE i,vI 0] λm n =>
 bz n k
 (aR n k j λo =>
 T.ah (o.add (aK n 2)) [.string,.int .u32] λp q =>
 T.new [bZ,aE 0] 64 λr =>
 T.aD r [.string p,aE q] <|
 T.ah r [.string] λs =>
 dp (Instr.lookup 165 (.map e) (.string s) true) true [(true,(yL 64)),cH] λt u v w x =>
 T.new [bm,aE 0] 53 λy =>
 T.aD y [.slice t u v,aE w] <|
 cond (!x)
 (T.ah r [.string] λz =>
 dp (Instr.lookup 196 (.map h) (.string z) false) false [(false,[.int .u32])] λA =>
 T.ah (r.add 1) [.int .u32] λB =>
 T.fI Xaz (Instr.mapUpdate 196 (.map h) (.string z) (aE (IntKind.wrap .u32 (A+B)))) <|
 T.again 0 [aE m,aY n])
 (T.ah y [.slice 64] λz A B =>
 T.loop [aS] [vI 0] λC =>
 bz C A
 (aR C A z λD =>
 T.ah (D.add (aK C 2)) [.string,.int .u32] λE F =>
 T.new [bZ,aE 0] 64 λG =>
 T.aD G [.string E,aE F] <|
 T.ah G [.string] λH =>
 dp (Instr.lookup 196 (.map h) (.string H) false) false [(false,[.int .u32])] λI =>
 T.ah (r.add 1) [.int .u32] λJ =>
 T.ah (G.add 1) [.int .u32] λK =>
 T.fI Xaz (Instr.mapUpdate 196 (.map h) (.string H) (aE (IntKind.wrap .u32 (I+(IntKind.wrap .u32 (J*K)))))) <|
 T.again 1 [aY C])
 (T.ah (r.add 1) [.int .u32] λD =>
 T.ah (y.add 1) [.int .u32] λE =>
 T.again 0 [aE (IntKind.wrap .u32 (m+(IntKind.wrap .u32 (D*E)))),aY n])))
 (T.new [bm,aE 0] 53 λo =>
 T.aD o [bm,aE m] <|
 cv 90 [.map h] false [(false,[.func #[154] #[] false])] λ(p:Xab) =>
 cv 89 [p] false [(false,[.slice 9])] λq r s =>
 T.loop [aS] [vI 0] λt =>
 bz t r
 (aR t r q λu =>
 T.ah (u.add (aK t 1)) [.string] λv =>
 dp (Instr.lookup 196 (.map h) (.string v) false) false [(false,[.int .u32])] λw =>
 cond (w != 0)
 (T.ah o [.slice 64] λx y z =>
 dp (Instr.lookup 196 (.map h) (.string v) false) false [(false,[.int .u32])] λA =>
 bg (Instr.buildSlice 50 1 #[(0,.agg #[.string v,aE A])]) λB C D =>
 bg (Builtin.append_ #[50,50] 50 #[.slice x y z,.slice B C D]) λE F G =>
 T.aD o [.slice E F G] <|
 T.again 1 [aY t])
 (T.again 1 [aY t]))
 (T.ah o (yL 64) λu v w x =>
 T.aD g [.slice u v w,aE x] <|
 T.ah g (yL 64) λy z A B =>
 T.ret (.agg #[.slice y z A,aE B])))
def FP (a:Xac) (b c:Nat) (d:Int) (e:Option Nat):bP Xaz [] Tryz.f64 [.agg #[.slice a b c,.int .u32 d],.map e]=Ew a b c d e:=av
def zg (a:Xac) (b c:Nat):T :=
 T.new [.slice a b c] 67 λd =>
 T.ah d [.slice 116] λe f g =>
 cv 61 [.slice e f g] false [(false,[.map 9 4])] λh =>
 T.ah d [.slice 116] λi j k =>
 T.loop [fH,aS,aS,aS] [bm,vI 0,vI 0,vI 0] λl m n o p q =>
 bz q j
 (aR q j i λr =>
 T.ah (r.add (aK q 3)) [.string,.slice 64,.int .u32] λs t u v w =>
 T.new [bZ,bm,aE 0] 116 λx =>
 T.aD x [.string s,.slice t u v,aE w] <|
 T.ah x [.string] λy =>
 ja (Instr.lookup 152 (.map h) (.string y) false) λz =>
 cond z
 (bR #[bm,vI q,vI 24])
 (T.again 0 [.slice l m n,vI o,vI p,aY q]))
 (T.ah d [.slice 116] λr s t =>
 cv 62 [.slice r s t] false [(false,[.map 9 3])] λu =>
 T.new [.map none] 105 λv =>
 T.aD v [.map u] <|
 dp (Instr.makeMap 165 none) false [(false,[.map 0 0])] λw =>
 T.new [.map none] 165 λx =>
 T.aD x [.map w] <|
 T.new [.nilFunc] 166 λy =>
 T.aD y [.func (Fn.func 63) #[] #[.pointer (some x),.pointer (some d),.pointer (some v),.pointer (some y)]] <|
 T.ah d [.slice 116] λz A B =>
 T.loop [fH,aS] [bm,vI 0] λC D E F =>
 bz F A
 (aR F A z λG =>
 T.ah (G.add (aK F 3)) [.string,.slice 64,.int .u32] λH I J K L =>
 T.new [bZ,bm,aE 0] 116 λM =>
 T.aD M [.string H,.slice I J K,aE L] <|
 T.ah y [.func #[9] #[53] false] λ(N:Xab) =>
 T.ah M [.string] λO =>
 T.xk Xaz N [.string O] false [(true,(yL 64))] λP Q R S =>
 T.new [bm,aE 0] 53 λU =>
 T.aD U [.slice P Q R,aE S] <|
 T.ah M [.string] λV =>
 T.ah U [.slice 64] λW X Y =>
 T.ah (U.add 1) [.int .u32] λZ =>
 cv 65 [.slice W X Y] false [(false,[.slice 64])] λa0 a1 a2 =>
 T.bG [((U.add 1),[aE Z]),(M,[.string V])] <|
 bg (Instr.buildSlice 67 1 #[(0,.agg #[.string V,.slice a0 a1 a2,aE Z])]) λa3 a4 a5 =>
 T.bG [((U.add 1),[aE Z]),(U,[.slice W X Y]),(M,[.string V])] <|
 bg (Builtin.append_ #[67,67] 67 #[.slice C D E,.slice a3 a4 a5]) λa6 a7 a8 =>
 T.bG [((U.add 1),[aE Z]),(U,[.slice W X Y]),(M,[.string V])] <|
 T.again 1 [.slice a6 a7 a8,aY F])
 (bR #[.slice C D E,vI 0,vI 0]))
def CK (a:Xac) (b c:Nat):bP Xaz [] Tryz.f37 [.slice a b c]=zg a b c:=av
def Em (a:Xac) (b c:Nat) (d:Int) (e:Xac) (f g:Nat):T :=
 T.new [.slice a b c,aE d] 53 λh =>
 T.new [bm,aE 0] 53 λi =>
 dp (Instr.makeMap 165 none) false [(false,[.map 0 0])] λj =>
 T.loop [aS] [vI 0] λk =>
 bz k f
 (aR k f e λl =>
 T.ah (l.add (aK k 3)) [.string,.slice 64,.int .u32] λm n o p q =>
 T.new [bZ,bm,aE 0] 116 λr =>
 T.aD r [.string m,.slice n o p,aE q] <|
 T.ah r [.string] λs =>
 T.ah (r.add 1) (yL 64) λt u v w =>
 T.fI Xaz (Instr.mapUpdate 165 (.map j) (.string s) (.agg #[.slice t u v,aE w])) <|
 T.again 0 [aY k])
 (T.ah h (yL 64) λl m n o =>
 cv 64 [.agg #[.slice l m n,aE o],.map j] false [(true,(yL 64))] λp q r s =>
 cv 66 [.agg #[.slice p q r,aE s],.agg #[bm,aE 0]] false [(true,(yL 64))] λt u v w =>
 T.aD i [.slice t u v,aE w] <|
 T.ah i (yL 64) λx y z A =>
 T.ret (.agg #[.slice x y z,aE A]))
def FC (a:Xac) (b c:Nat) (d:Int) (e:Xac) (f g:Nat):bP Xaz [] Tryz.f38 [.agg #[.slice a b c,.int .u32 d],.slice e f g]=Em a b c d e f g:=av
def fm (a:Xac) (b c:Nat) (d:Xaa):T :=
 T.loop [aS,aS] [vI 0,vI 0] λe f =>
 bz f b
 (aR f b a λg =>
 T.ah (g.add (aK f 1)) [.string] λh =>
 cond ((ByteArray.toList d)==(ByteArray.toList h))
 (T.ret (vI f))
 (T.again 0 [vI e,aY f]))
 (T.ret (vI (-1)))
def iY (a:Xac) (b c:Nat) (d:Xaa):bP Xaz [] Tryz.f88 [.slice a b c,.string d]=fm a b c d:=av
def Hh (a:Option Nat) (s:Xaa) (j b:Xax) (c:Option Nat) (d:Int):T :=
 T.dP Xaz (Instr.lookup 105 (.map a) (.string s) false) false [(false,[.int .i64])] λe =>
 T.ah j [.map 9 3] λf =>
 T.ah b [.string] λg =>
 T.dP Xaz (Instr.lookup 105 (.map f) (.string g) false) false [(false,[.int .i64])] λh =>
 T.dP Xaz (Builtin.min_ #[3,3] 3 #[vI e,vI h]) false [(false,[.int .i64])] λi =>
 T.fI Xaz (Instr.mapUpdate 105 (.map c) (.string s) (vI i)) <|
 T.again 0 [vI (IntKind.wrap .i64 (d+1))]
def Lw (n e o p a:Xax) (s:Xaa) (b:Int):T :=
 T.ah n [.map 9 3] λf =>
 T.ah a [.string] λg =>
 dp (Instr.lookup 105 (.map f) (.string g) false) false [aS] λh =>
 cond (h==0)
 (T.ah p [.func #[9] #[] false] λ(i:Xab) =>
 T.ah a [.string] λc =>
 T.xk Xaz i [.string c] true [] <| T.ah e [.map 9 3] λj =>
 T.ah e [.map 9 3] λd =>
 Hh d s e a j b)
 (T.ah o [.map 9 4] λk =>
 T.ah a [.string] λc =>
 ja (Instr.lookup 152 (.map k) (.string c) false) λl =>
 cond l
 (T.ah e [.map 9 3] λd =>
 T.ah e [.map 9 3] λm =>
 Hh m s n a d b)
 (T.again 0 [aY b]))
def Xc (r q j:Xax) (f:Xac) (g k:Nat) (b:Int):T :=
 T.loop [aS] [vI 0] λc =>
 cond (decide (c<((((Int.toNat (g:Int))-(Int.toNat b)):Nat):Int)))
 (T.need ((0<=c)/\(c<((((Int.toNat (g:Int))-(Int.toNat b)):Nat):Int))) <|
 T.bh (if (k=(Int.toNat b)) then f else (Option.map (λa=>Addr.add a (aK b 1)) f)) λl =>
 T.ah (l.add (aK c 1)) [.string] λd =>
 T.ah r [.map 9 4] λm =>
 T.fI Xaz (Instr.mapUpdate 152 (.map m) (.string d) (.bool false)) <|
 T.ah q [.map 9 4] λh =>
 T.ah q [.map 9 4] λn =>
 ja (Instr.lookup 152 (.map n) (.string d) false) λo =>
 cond o
 (T.fI Xaz (Instr.mapUpdate 152 (.map h) (.string d) (.bool true)) <|
 T.again 1 [aY c])
 (T.ah j [.slice 9] λs p t =>
 T.fI Xaz (Instr.mapUpdate 152 (.map h) (.string d) (.bool (decide ((bY ((p:Int)-b))>1)))) <|
 T.again 1 [aY c]))
 (T.ah j [.slice 9] λi u e =>
 T.need (((0:Int)<=0)/\((0<=b)/\(b<=(e:Int)))) <|
 T.aD j [.slice (if (e=0) then i else (Option.map (λa=>Addr.add a 0) i)) ((Int.toNat b)-0) (e-0)] <|
 bR #[])
def j6 (a:Xaa) (b c d e f g h i:Xax):T :=
 T.ah b [.map 9 3] λj =>
 T.ah b [.map 9 3] λk =>
 dp (Builtin.len_ #[105] 3 #[.map k]) false [aS] λl =>
 T.fI Xaz (Instr.mapUpdate 105 (.map j) (.string a) (aY l)) <|
 T.ah c [.map 9 3] λm =>
 T.ah b [.map 9 3] λn =>
 dp (Instr.lookup 105 (.map n) (.string a) false) false [aS] λo =>
 T.fI Xaz (Instr.mapUpdate 105 (.map m) (.string a) (vI o)) <|
 T.ah d [.slice 9] λp q r =>
 bg (Instr.buildSlice 68 1 #[(0,.string a)]) λs t u =>
 bg (Builtin.append_ #[68,68] 68 #[.slice p q r,.slice s t u]) λv w x =>
 T.aD d [.slice v w x] <|
 T.ah e [.map 9 4] λy =>
 T.fI Xaz (Instr.mapUpdate 152 (.map y) (.string a) (.bool true)) <|
 T.ah f [.slice 116] λz A B =>
 T.ah g [.map 9 3] λC =>
 dp (Instr.lookup 105 (.map C) (.string a) false) false [aS] λD =>
 aR D A z λE =>
 T.ah ((E.add (aK D 3)).add 1) [.slice 64] λF G H =>
 T.loop [aS] [vI 0] λI =>
 bz I G
 (aR I G F λJ =>
 T.ah (J.add (aK I 2)) [.string,.int .u32] λK L =>
 T.new [bZ,aE 0] 64 λM =>
 T.aD M [.string K,aE L] <|
 T.ah g [.map 9 3] λN =>
 T.ah M [.string] λO =>
 dp (Instr.lookup 105 (.map N) (.string O) true) true [aS,cH] λP Q =>
 cond (!Q)
 (T.again 0 [aY I])
 (T.ah M [.string] λR =>
 cond ((ByteArray.toList R)==(ByteArray.toList a))
 (T.ah h [.map 9 4] λS =>
 T.fI Xaz (Instr.mapUpdate 152 (.map S) (.string a) (.bool true)) <|
 Lw b c e i M a I)
 (Lw b c e i M a I)))
 (T.ah c [.map 9 3] λJ =>
 dp (Instr.lookup 105 (.map J) (.string a) false) false [aS] λK =>
 T.ah b [.map 9 3] λL =>
 dp (Instr.lookup 105 (.map L) (.string a) false) false [aS] λM =>
 cond (decide (K<M))
 (bR #[])
 (T.ah d [.slice 9] λN O P =>
 cY 88 [.slice N O P,.string a] λQ =>
 T.ah d [.slice 9] λR S U =>
 T.need ((0<=Q)/\((Q<=(S:Int))/\((S:Int)<=(U:Int)))) <|
 Xc e h d R S U Q))
def oV (a:Xaa) (b c d e f g h i:Xax):bP Xaz [] Tryz.f87 [.string a,.pointer (some b),.pointer (some c),.pointer (some d),.pointer (some e),.pointer (some f),.pointer (some g),.pointer (some h),.pointer (some i)]=j6 a b c d e f g h i:=av
def lT (a:Xaa) (b c d e:Xax):T :=
 T.new [bm,aE 0] 53 λf =>
 T.ah b [.map 9 53] λg =>
 dp (Instr.lookup 165 (.map g) (.string a) true) true [(true,(yL 64)),cH] λh i j k l =>
 T.new [bm,aE 0] 53 λm =>
 T.aD m [.slice h i j,aE k] <|
 cond l
 (T.ah m (yL 64) λn o p q =>
 T.aD f [.slice n o p,aE q] <|
 T.ah f (yL 64) λr s t u =>
 T.ret (.agg #[.slice r s t,aE u]))
 (T.ah c [.slice 116] λn o p =>
 T.ah d [.map 9 3] λq =>
 dp (Instr.lookup 105 (.map q) (.string a) false) false [aS] λr =>
 aR r o n λs =>
 T.ah ((s.add (aK r 3)).add 1) (yL 64) λt u v w =>
 T.new [bm,aE 0] 53 λx =>
 T.aD x [.slice t u v,aE w] <|
 T.ah x [.slice 64] λy z A =>
 T.loop [aS] [vI 0] λB =>
 bz B z
 (aR B z y λC =>
 T.ah (C.add (aK B 2)) [.string,.int .u32] λD E =>
 T.new [bZ,aE 0] 64 λF =>
 T.aD F [.string D,aE E] <|
 T.ah d [.map 9 3] λG =>
 T.ah F [.string] λH =>
 dp (Instr.lookup 105 (.map G) (.string H) true) true [aS,cH] λI J =>
 cond J
 (T.ah e [.func #[9] #[53] false] λ(K:Xab) =>
 T.ah F [.string] λL =>
 T.xk Xaz K [.string L] false [(true,(yL 64))] λM N O P =>
 T.again 0 [aY B])
 (T.again 0 [aY B]))
 (T.ah x (yL 64) λC D E F =>
 T.ah b [.map 9 53] λG =>
 cv 64 [.agg #[.slice C D E,aE F],.map G] false [(true,(yL 64))] λH I J K =>
 T.aD x [.slice H I J,aE K] <|
 T.ah b [.map 9 53] λL =>
 T.ah x (yL 64) λM N O P =>
 T.fI Xaz (Instr.mapUpdate 165 (.map L) (.string a) (.agg #[.slice M N O,aE P])) <|
 T.ah x (yL 64) λQ R S U =>
 T.aD f [.slice Q R S,aE U] <|
 T.ah f (yL 64) λV W X Y =>
 T.ret (.agg #[.slice V W X,aE Y])))
def qW (a:Xaa) (b c d e:Xax):bP Xaz [] Tryz.f63 [.string a,.pointer (some b),.pointer (some c),.pointer (some d),.pointer (some e)]=lT a b c d e:=av
def ZP (c:Xac) (b d:Nat):T :=
 T.loop [aS] [vI 0] λa =>
 bz a b
 (aR a b c λe =>
 T.ah ((e.add (aK a 10)).add 7) [.slice 64] λf g h =>
 cv 65 [.slice f g h] false [(false,[.slice 64])] λi j k =>
 aR a b c λl =>
 T.aD ((l.add (aK a 10)).add 7) [.slice i j k] <|
 T.again 0 [aY a])
 (T.ret (.slice c b d))
def jX (a:Xac) (b c:Int):T :=
 cond (decide (b<0))
 (T.ret (bm))
 (T.bh a λd =>
 T.ah d [.slice 70] λe f g =>
 cond (decide (b>=(f:Int)))
 (T.ret (bm))
 (cond (decide (c<0))
 (T.ret (bm))
 (cond (decide (c>1))
 (T.ret (bm))
 (T.bh a λh =>
 T.ah h [.slice 70] λi j k =>
 aR b j i λl =>
 T.ah (l.add (aK b 4)) [.slice 55] λm n o =>
 cond (c==1)
 (T.bh a λp =>
 T.ah p [.slice 70] λq r s =>
 aR b r q λt =>
 T.ah ((t.add (aK b 4)).add 1) [.slice 55] λu v w =>
 cv 57 [.slice u v w] false [(false,[.slice 55])] λx y z =>
 ZP x y z)
 (cv 57 [.slice m n o] false [(false,[.slice 55])] λp q r =>
 ZP p q r)))))
def oA (a:Xac) (b c:Int):bP Xaz [] Tryz.f40 [.pointer a,vI b,vI c]=jX a b c:=av
def jU (a:Xac):T :=
 T.bh a λb =>
 T.ah b [.slice 70] λc d e =>
 T.ret (vI (d:Int))
def oL (a:Xac):bP Xaz [] Tryz.f39 [.pointer a]=jU a:=av
def eF (a:Xac) (b c:Nat):T :=
 cond (/-?Option.isSome.match_1-/ match a with
 | some val=>false
 | none=>true)
 (T.ret (bm))
 (bg (Instr.buildSlice 46 0 #[]) λd e f =>
 bg (Builtin.append_ #[46,46] 46 #[.slice d e f,.slice a b c]) λg h i =>
 T.ret (.slice g h i))
def gR (a:Xac) (b c:Nat):bP Xaz [] Tryz.f57 [.slice a b c]=eF a b c:=av
def eJ (a:Xac) (b c:Nat):T :=
 cond (/-?Option.isSome.match_1-/ match a with
 | some val=>false
 | none=>true)
 (T.ret (bm))
 (bg (Instr.buildSlice 50 0 #[]) λd e f =>
 bg (Builtin.append_ #[50,50] 50 #[.slice d e f,.slice a b c]) λg h i =>
 T.ret (.slice g h i))
def gQ (a:Xac) (b c:Nat):bP Xaz [] Tryz.f65 [.slice a b c]=eJ a b c:=av
def lN (a:Xac) (b:Int) (c:Xaa):T :=
 T.new [vI b,.string c] 121 λd =>
 T.bh a λe =>
 T.ah (e.add 2) [.map 121 3] λf =>
 T.ah d [.int .i64,.string] λg h =>
 dp (Instr.lookup 104 (.map f) (.agg #[vI g,.string h]) true) true [aS,cH] λi j =>
 T.bh a λk =>
 T.ah (k.add 3) [.map 121 3] λl =>
 T.ah d [.int .i64,.string] λm n =>
 dp (Instr.lookup 104 (.map l) (.agg #[vI m,.string n]) true) true [aS,cH] λo p =>
 cond j
 fR
 (T.ret (.bool p))
def ry (a:Xac) (b:Int) (c:Xaa):bP Xaz [] Tryz.f85 [.pointer a,.agg #[vI b,.string c]]=lN a b c:=av
def lZ (a:Xac) (b:Int) (c:Xaa):T :=
 T.new [vI 0,bZ] 121 λd =>
 T.new [vI 0,bZ] 121 λe =>
 T.aD e [vI b,.string c] <|
 T.ah e [.int .i64,.string] λf g =>
 bj 85 [.pointer a,.agg #[vI f,.string g]] λh =>
 cond h
 (T.ah e [.int .i64,.string] λi j =>
 T.aD d [vI i,.string j] <|
 T.ah d [.int .i64,.string] λk l =>
 bR #[.agg #[vI k,.string l],.bool true])
 (T.bh a λi =>
 T.ah (i.add 4) [.map 9 3] λj =>
 dp (Instr.lookup 105 (.map j) (.string c) true) true [aS,cH] λk l =>
 T.aD d [vI k,.string c] <|
 T.ah d [.int .i64,.string] λm n =>
 bR #[.agg #[vI m,.string n],.bool l])
def rq (a:Xac) (b:Int) (c:Xaa):bP Xaz [] Tryz.f58 [.pointer a,vI b,.string c]=lZ a b c:=av
def ly (a:Xac) (b:Int) (c:Xaa):T :=
 T.new [vI b,.string c] 121 λd =>
 T.bh a λe =>
 T.ah (e.add 2) [.map 121 3] λf =>
 T.ah d [.int .i64,.string] λg h =>
 dp (Instr.lookup 104 (.map f) (.agg #[vI g,.string h]) true) true [aS,cH] λi j =>
 cond j
 (fo 59 [vI i] λk =>
 T.need ((((1+k.size):Nat):Int)<=9223372036854775807) <|
 T.ret (.string (⟨#[76]⟩++k)))
 (T.bh a λk =>
 T.ah (k.add 3) [.map 121 3] λl =>
 T.ah d [.int .i64,.string] λm n =>
 dp (Instr.lookup 104 (.map l) (.agg #[vI m,.string n]) false) false [aS] λo =>
 fo 59 [vI o] λp =>
 T.bG [(d,[vI m,.string n]),((k.add 3),[.map l])] <|
 T.need ((((1+p.size):Nat):Int)<=9223372036854775807) <|
 T.ret (.string (⟨#[69]⟩++p)))
def pS (a:Xac) (b:Int) (c:Xaa):bP Xaz [] Tryz.f35 [.pointer a,.agg #[vI b,.string c]]=ly a b c:=av
def jI (a:Xac) (b:Int) (c:Xac) (d e:Nat) (f:Int):T :=
 T.new [.slice c d e,aE f] 53 λg =>
 T.new [bm,aE 0] 53 λh =>
 T.ah g [.slice 64] λi j k =>
 bg (Instr.makeSlice 67 (vI 0) (vI (j:Int))) λl m n =>
 T.ah g [.slice 64] λo p q =>
 T.loop [(false,[.string]),cH,fH,aS] [bZ,.bool false,.slice l m n,vI 0] λr s t u v w =>
 bz w p
 (aR w p o λx =>
 T.ah (x.add (aK w 2)) [.string,.int .u32] λy z =>
 T.new [bZ,aE 0] 64 λA =>
 T.aD A [.string y,aE z] <|
 T.ah A [.string] λB =>
 cv 58 [.pointer a,vI b,.string B] true [(true,[.int .i64,.string]),cH] λC D E =>
 T.new [vI 0,bZ] 121 λF =>
 T.aD F [vI C,.string D] <|
 cond (!E)
 (T.ah A [.string] λG =>
 T.aD h [bm,aE 0] <|
 T.bG [(A,[.string G])] <|
 T.ah h (yL 64) λH I J K =>
 bR #[.agg #[.slice H I J,aE K],.string G,.bool false])
 (T.ah A [.string] λG =>
 T.ah F [.int .i64,.string] λH I =>
 fo 35 [.pointer a,.agg #[vI H,.string I]] λJ =>
 T.bG [(A,[.string G])] <|
 bg (Instr.buildSlice 50 1 #[(0,.agg #[.string J,aE 1])]) λK L M =>
 T.bG [(F,[vI H,.string I]),(A,[.string G])] <|
 bg (Instr.buildSlice 67 1 #[(0,.agg #[.string G,.slice K L M,aE 0])]) λN O P =>
 T.bG [(F,[vI H,.string I]),(A,[.string G])] <|
 bg (Builtin.append_ #[67,67] 67 #[.slice t u v,.slice N O P]) λQ R S =>
 T.bG [(F,[vI H,.string I]),(A,[.string G])] <|
 T.again 0 [.string r,.bool s,.slice Q R S,aY w]))
 (T.ah g (yL 64) λx y z A =>
 cv 38 [.agg #[.slice x y z,aE A],.slice t u v] false [(true,(yL 64))] λB C D E =>
 T.aD h [.slice B C D,aE E] <|
 T.ah h (yL 64) λF G H I =>
 bR #[.agg #[.slice F G H,aE I],bZ,.bool true])
def nZ (a:Xac) (b:Int) (c:Xac) (d e:Nat) (f:Int):bP Xaz [] Tryz.f34 [.pointer a,vI b,.agg #[.slice c d e,.int .u32 f]]=jI a b c d e f:=av
def lu (a b:Xac) (c d:Nat):T :=
 T.new [vI 0,vI 0,bZ] 77 λe =>
 T.loop [cH,aS] [.bool false,vI 0] λf g =>
 bz g c
 (aR g c b λh =>
 T.ah (h.add (aK g 4)) (yU 55 116) λi j k l m n o p q r s t =>
 T.new [bm,bm,bm,bm] 70 λu =>
 T.aD u [.slice i j k,.slice l m n,.slice o p q,.slice r s t] <|
 T.ah (u.add 3) [.slice 9] λv w x =>
 T.loop [cH,aS] [.bool f,vI 0] λy z =>
 bz z w
 (aR z w v λA =>
 T.ah (A.add (aK z 1)) [.string] λB =>
 T.bh a λC =>
 T.ah (C.add 4) [.map 9 3] λD =>
 dp (Instr.lookup 105 (.map D) (.string B) true) true [aS,cH] λE F =>
 cond F
 (T.aD e [vI 22,vI g,.string B] <|
 T.ah e [.int .i64,.int .i64,.string] λG H I =>
 bR #[.agg #[vI G,vI H,.string I],.bool true])
 (T.again 1 [.bool y,aY z]))
 (T.ah (u.add 3) [.slice 9] λA B C =>
 T.loop [aS] [vI 0] λD =>
 bz D B
 (aR D B A λE =>
 T.ah (E.add (aK D 1)) [.string] λF =>
 T.bh a λG =>
 T.ah (G.add 4) [.map 9 3] λH =>
 T.fI Xaz (Instr.mapUpdate 105 (.map H) (.string F) (vI g)) <|
 T.again 2 [aY D])
 (T.again 0 [.bool y,aY g])))
 (T.aD e [vI 0,vI 0,bZ] <|
 T.ah e [.int .i64,.int .i64,.string] λh i j =>
 bR #[.agg #[vI h,vI i,.string j],.bool false])
def pu (a b:Xac) (c d:Nat):bP Xaz [] Tryz.f32 [.pointer a,.slice b c d]=lu a b c d:=av
def j1 (a b:Xac) (c d:Nat):T :=
 T.loop [aS] [vI 0] λe =>
 bz e c
 (aR e c b λf =>
 T.ah (f.add (aK e 4)) (yU 55 116) λg h i j k l m n o p q r =>
 T.new [bm,bm,bm,bm] 70 λs =>
 T.aD s [.slice g h i,.slice j k l,.slice m n o,.slice p q r] <|
 T.ah s [.slice 55] λt u v =>
 T.ah (s.add 1) [.slice 55] λw x y =>
 bg (Instr.buildSlice 43 2 #[(0,.slice t u v),(1,.slice w x y)]) λz A B =>
 T.loop [aS] [vI 0] λC =>
 bz C A
 (aR C A z λD =>
 T.ah (D.add (aK C 1)) [.slice 55] λE F G =>
 T.loop [aS] [vI 0] λH =>
 bz H F
 (aR H F E λI =>
 T.ah (I.add (aK H 10)) (yI 64) λJ K L M N O P Q R S U V =>
 T.new [vI 0,bZ,vI 0,vI 0,vI 0,.int .i32 0,vI 0,bm,aE 0,vI 0] 55 λW =>
 T.aD W [vI J,.string K,vI L,vI M,vI N,.int .i32 O,vI P,.slice Q R S,aE U,vI V] <|
 T.ah W [.int .i64] λX =>
 cond (X==1)
 (T.bh a λY =>
 T.ah (Y.add 2) [.map 121 3] λZ =>
 T.ah (W.add 1) [.string] λa0 =>
 T.bh a λa1 =>
 T.ah (a1.add 1) [.slice 157] λa2 a3 a4 =>
 T.fI Xaz (Instr.mapUpdate 104 (.map Z) (.agg #[vI e,.string a0]) (vI (a3:Int))) <|
 T.bh a λa5 =>
 T.ah (a5.add 1) [.slice 157] λa6 a7 a8 =>
 T.ah (W.add 1) [.string] λa9 =>
 bg (Instr.buildSlice 106 1 #[(0,.agg #[vI e,vI C,vI H,.string a9])]) λb0 b1 b2 =>
 T.bG [((W.add 1),[.string a9]),((a5.add 1),[.slice a6 a7 a8])] <|
 bg (Builtin.append_ #[106,106] 106 #[.slice a6 a7 a8,.slice b0 b1 b2]) λb3 b4 b5 =>
 T.bG [((W.add 1),[.string a9])] <|
 T.bh a λb6 =>
 T.aD (b6.add 1) [.slice b3 b4 b5] <|
 T.again 2 [aY H])
 (T.again 2 [aY H]))
 (T.again 1 [aY C]))
 (T.ah (s.add 2) [.slice 116] λD E F =>
 T.loop [aS] [vI 0] λG =>
 bz G E
 (aR G E D λH =>
 T.ah (H.add (aK G 3)) [.string,.slice 64,.int .u32] λI J K L M =>
 T.new [bZ,bm,aE 0] 116 λN =>
 T.aD N [.string I,.slice J K L,aE M] <|
 T.bh a λO =>
 T.ah (O.add 3) [.map 121 3] λP =>
 T.ah N [.string] λQ =>
 T.bh a λR =>
 T.ah (R.add 3) [.map 121 3] λS =>
 dp (Builtin.len_ #[104] 3 #[.map S]) false [aS] λU =>
 T.bG [(N,[.string Q]),((O.add 3),[.map P])] <|
 T.fI Xaz (Instr.mapUpdate 104 (.map P) (.agg #[vI e,.string Q]) (vI U)) <|
 T.again 2 [aY G])
 (T.again 0 [aY e])))
 (bR #[])
def oK (a b:Xac) (c d:Nat):bP Xaz [] Tryz.f31 [.pointer a,.slice b c d]=j1 a b c d:=av
def jR (a:Xac) (b:Int) (c:Xac) (d e:Nat):T :=
 cv 57 [.slice c d e] false [(false,[.slice 55])] λf g h =>
 T.loop [fH,(false,[.string]),cH,aS] [bm,bZ,.bool false,vI 0] λi j k l m n =>
 bz n d
 (aR n d c λo =>
 T.ah (o.add (aK n 10)) (yI 64) λp q r s t u v w x y z A =>
 T.new [vI 0,bZ,vI 0,vI 0,vI 0,.int .i32 0,vI 0,bm,aE 0,vI 0] 55 λB =>
 T.aD B [vI p,.string q,vI r,vI s,vI t,.int .i32 u,vI v,.slice w x y,aE z,vI A] <|
 T.ah (B.add 7) (yL 64) λC D E F =>
 cv 34 [.pointer a,vI b,.agg #[.slice C D E,aE F]] true [(true,(yL 64)),(false,[.string]),cH] λG H I J K L =>
 T.new [bm,aE 0] 53 λM =>
 T.aD M [.slice G H I,aE J] <|
 cond (!L)
 (bR #[bm,.string K,.bool false])
 (T.ah M (yL 64) λN O P Q =>
 aR n g f λR =>
 T.aD ((R.add (aK n 10)).add 7) [.slice N O P,aE Q] <|
 T.again 0 [.slice i j k,.string l,.bool m,aY n]))
 (bR #[.slice f g h,bZ,.bool true])
def oE (a:Xac) (b:Int) (c:Xac) (d e:Nat):bP Xaz [] Tryz.f33 [.pointer a,vI b,.slice c d e]=jR a b c d e:=av
def xM (a:Xac) (b c:Nat) (d:Xac) (e f:Nat) (g:Xac) (h i:Nat) (j:Xac) (k l:Nat):T :=
 T.new [.slice a b c,.slice d e f,.slice g h i,.slice j k l] 70 λm =>
 T.ah m (yU 55 116) λn o p q r s t u v w x y =>
 cY 30 [.agg #[.slice n o p,.slice q r s,.slice t u v,.slice w x y]] λz =>
 cond (z != 0)
 (T.ret (vI 0))
 (T.ah m [.slice 55] λA B C =>
 T.loop [aS,aS] [vI 0,vI 0] λD E =>
 bz E B
 (aR E B A λF =>
 T.ah (F.add (aK E 10)) (yI 64) λG H I J K L M N O P Q R =>
 T.new [vI 0,bZ,vI 0,vI 0,vI 0,.int .i32 0,vI 0,bm,aE 0,vI 0] 55 λS =>
 T.aD S [vI G,.string H,vI I,vI J,vI K,.int .i32 L,vI M,.slice N O P,aE Q,vI R] <|
 T.ah S [.int .i64] λU =>
 cond (U==2)
 (T.ah (S.add 2) [.int .i64] λV =>
 bj 60 [vI V] λW =>
 cond W
 (T.again 0 [aY D,aY E])
 (T.again 0 [vI D,aY E]))
 (T.again 0 [vI D,aY E]))
 (T.ret (vI D)))
def An (a:Xac) (b c:Nat) (d:Xac) (e f:Nat) (g:Xac) (h i:Nat) (j:Xac) (k l:Nat):bP Xaz [] Tryz.f36 [.agg #[.slice a b c,.slice d e f,.slice g h i,.slice j k l]]=xM a b c d e f g h i j k l:=av
end Go.Sx
