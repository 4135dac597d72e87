/- Trees of functions. No condition. -/
import Derived.Test.YthbffkdafjboiaaGreatDoorSxF
import Derived.Test.YthbffkdafjboiaaGreatDoorProg
import Derived.KernelRfl
set_option linter.all false
set_option maxRecDepth 100000
set_option maxHeartbeats 4000000
namespace Go.Sx
open Go.Proofs
def kf (a:ZC) (b:Int) (c:ZA):T :=
 T.new [vI b,.string c] 105 fun d =>
 T.bF a fun e =>
 T.ah (e.add 2) [.map 105 3] fun f =>
 T.ah d [.int .i64,.string] fun g h =>
 bR (Instr.lookup 88 (.map f) (.agg #[vI g,.string h]) true) true [aR,cg] fun i j =>
 T.bF a fun k =>
 T.ah (k.add 3) [.map 105 3] fun l =>
 T.ah d [.int .i64,.string] fun m n =>
 bR (Instr.lookup 88 (.map l) (.agg #[vI m,.string n]) true) true [aR,cg] fun o p =>
 cond j
 dL
 (T.ret (.bool p))
def pu (a:ZC) (b:Int) (c:ZA):bQ Tryz.prog [] Tryz.f89 [.pointer a,.agg #[vI b,.string c]]=kf a b c:=az
def kz (a:ZC) (b:Int) (c:ZA):T :=
 T.new [vI 0,bT] 105 fun d =>
 T.new [vI 0,bT] 105 fun e =>
 T.aE e [vI b,.string c] <|
 T.ah e [.int .i64,.string] fun f g =>
 aT 89 [.pointer a,.agg #[vI f,.string g]] fun h =>
 cond h
 (T.ah e [.int .i64,.string] fun i j =>
 T.aE d [vI i,.string j] <|
 T.ah d [.int .i64,.string] fun k l =>
 br #[.agg #[vI k,.string l],.bool true])
 (T.bF a fun i =>
 T.ah (i.add 4) [.map 9 3] fun j =>
 bR (Instr.lookup 89 (.map j) (.string c) true) true [aR,cg] fun k l =>
 T.aE d [vI k,.string c] <|
 T.ah d [.int .i64,.string] fun m n =>
 br #[.agg #[vI m,.string n],.bool l])
def pt (a:ZC) (b:Int) (c:ZA):bQ Tryz.prog [] Tryz.f62 [.pointer a,vI b,.string c]=kz a b c:=az
def jX (a:ZC) (b:Int) (c:ZA):T :=
 T.new [vI b,.string c] 105 fun d =>
 T.bF a fun e =>
 T.ah (e.add 2) [.map 105 3] fun f =>
 T.ah d [.int .i64,.string] fun g h =>
 bR (Instr.lookup 88 (.map f) (.agg #[vI g,.string h]) true) true [aR,cg] fun i j =>
 cond j
 (gF 40 [vI i] fun k =>
 T.need ((((1+k.size):Nat):Int)<=(9223372036854775807:Int)) <|
 T.ret (.string (⟨#[76]⟩++k)))
 (T.bF a fun k =>
 T.ah (k.add 3) [.map 105 3] fun l =>
 T.ah d [.int .i64,.string] fun m n =>
 bR (Instr.lookup 88 (.map l) (.agg #[vI m,.string n]) false) false [aR] fun o =>
 gF 40 [vI o] fun p =>
 T.bj [(d,[vI m,.string n]),((k.add 3),[.map l])] <|
 T.need ((((1+p.size):Nat):Int)<=(9223372036854775807:Int)) <|
 T.ret (.string (⟨#[69]⟩++p)))
def nN (a:ZC) (b:Int) (c:ZA):bQ Tryz.prog [] Tryz.f35 [.pointer a,.agg #[vI b,.string c]]=jX a b c:=az
def iM (a:ZC) (b:Int) (c:ZC) (d e:Nat) (f:Int):T :=
 T.new [.slice c d e,aH f] 69 fun g =>
 T.new [bi,aH 0] 69 fun h =>
 T.ah g [.slice 117] fun i j k =>
 bm (Instr.makeSlice 44 (vI 0) (vI (j:Int))) fun l m n =>
 T.ah g [.slice 117] fun o p q =>
 T.loop [(false,[.string]),cg,dh,aR] [bT,.bool false,.slice l m n,vI 0] fun r s t u v w =>
 bG w p
 (bf w p o fun x =>
 T.ah (x.add (aQ w 2)) [.string,.int .u32] fun y z =>
 T.new [bT,aH 0] 117 fun A =>
 T.aE A [.string y,aH z] <|
 T.ah A [.string] fun B =>
 bK 62 [.pointer a,vI b,.string B] true [(true,[.int .i64,.string]),cg] fun C D E =>
 T.new [vI 0,bT] 105 fun F =>
 T.aE F [vI C,.string D] <|
 cond (!E)
 (T.ah A [.string] fun G =>
 T.aE h [bi,aH 0] <|
 T.bj [(A,[.string G])] <|
 T.ah h (yL 117) fun H I J K =>
 br #[.agg #[.slice H I J,aH K],.string G,.bool false])
 (T.ah A [.string] fun G =>
 T.ah F [.int .i64,.string] fun H I =>
 gF 35 [.pointer a,.agg #[vI H,.string I]] fun J =>
 T.bj [(A,[.string G])] <|
 bm (Instr.buildSlice 66 1 #[(0,.agg #[.string J,aH 1])]) fun K L M =>
 T.bj [(F,[vI H,.string I]),(A,[.string G])] <|
 bm (Instr.buildSlice 44 1 #[(0,.agg #[.string G,.slice K L M,aH 0])]) fun N O P =>
 T.bj [(F,[vI H,.string I]),(A,[.string G])] <|
 bm (Builtin.append_ #[44,44] 44 #[.slice t u v,.slice N O P]) fun Q R S =>
 T.bj [(F,[vI H,.string I]),(A,[.string G])] <|
 T.again 0 [.string r,.bool s,.slice Q R S,bh w]))
 (T.ah g (yL 117) fun x y z A =>
 bK 38 [.agg #[.slice x y z,aH A],.slice t u v] false [(true,(yL 117))] fun B C D E =>
 T.aE h [.slice B C D,aH E] <|
 T.ah h (yL 117) fun F G H I =>
 br #[.agg #[.slice F G H,aH I],bT,.bool true])
def lZ (a:ZC) (b:Int) (c:ZC) (d e:Nat) (f:Int):bQ Tryz.prog [] Tryz.f34 [.pointer a,vI b,.agg #[.slice c d e,.int .u32 f]]=iM a b c d e f:=az
def jW (a:ZC) (b:ZC) (c d:Nat):T :=
 T.new [vI 0,vI 0,bT] 54 fun e =>
 T.loop [cg,aR] [.bool false,vI 0] fun f g =>
 bG g c
 (bf g c b fun h =>
 T.ah (h.add (aQ g 4)) (yU 71 100) fun i j k l m n o p q r s t =>
 T.new [bi,bi,bi,bi] 47 fun u =>
 T.aE u [.slice i j k,.slice l m n,.slice o p q,.slice r s t] <|
 T.ah (u.add 3) [.slice 9] fun v w x =>
 T.loop [cg,aR] [.bool f,vI 0] fun y z =>
 bG z w
 (bf z w v fun A =>
 T.ah (A.add (aQ z 1)) [.string] fun B =>
 T.bF a fun C =>
 T.ah (C.add 4) [.map 9 3] fun D =>
 bR (Instr.lookup 89 (.map D) (.string B) true) true [aR,cg] fun E F =>
 cond F
 (T.aE e [vI 22,vI g,.string B] <|
 T.ah e [.int .i64,.int .i64,.string] fun G H I =>
 br #[.agg #[vI G,vI H,.string I],.bool true])
 (T.again 1 [.bool y,bh z]))
 (T.ah (u.add 3) [.slice 9] fun A B C =>
 T.loop [aR] [vI 0] fun D =>
 bG D B
 (bf D B A fun E =>
 T.ah (E.add (aQ D 1)) [.string] fun F =>
 T.bF a fun G =>
 T.ah (G.add 4) [.map 9 3] fun H =>
 T.ei Tryz.prog (Instr.mapUpdate 89 (.map H) (.string F) (vI g)) <|
 T.again 2 [bh D])
 (T.again 0 [.bool y,bh g])))
 (T.aE e [vI 0,vI 0,bT] <|
 T.ah e [.int .i64,.int .i64,.string] fun h i j =>
 br #[.agg #[vI h,vI i,.string j],.bool false])
def nv (a:ZC) (b:ZC) (c d:Nat):bQ Tryz.prog [] Tryz.f32 [.pointer a,.slice b c d]=jW a b c d:=az
def jd (a:ZC) (b:ZC) (c d:Nat):T :=
 T.loop [aR] [vI 0] fun e =>
 bG e c
 (bf e c b fun f =>
 T.ah (f.add (aQ e 4)) (yU 71 100) fun g h i j k l m n o p q r =>
 T.new [bi,bi,bi,bi] 47 fun s =>
 T.aE s [.slice g h i,.slice j k l,.slice m n o,.slice p q r] <|
 T.ah s [.slice 71] fun t u v =>
 T.ah (s.add 1) [.slice 71] fun w x y =>
 bm (Instr.buildSlice 79 2 #[(0,.slice t u v),(1,.slice w x y)]) fun z A B =>
 T.loop [aR] [vI 0] fun C =>
 bG C A
 (bf C A z fun D =>
 T.ah (D.add (aQ C 1)) [.slice 71] fun E F G =>
 T.loop [aR] [vI 0] fun H =>
 bG H F
 (bf H F E fun I =>
 T.ah (I.add (aQ H 10)) (yI 117) fun J K L M N O P Q R S U V =>
 T.new [vI 0,bT,vI 0,vI 0,vI 0,.int .i32 0,vI 0,bi,aH 0,vI 0] 71 fun W =>
 T.aE W [vI J,.string K,vI L,vI M,vI N,.int .i32 O,vI P,.slice Q R S,aH U,vI V] <|
 T.ah W [.int .i64] fun X =>
 cond (X==(1:Int))
 (T.bF a fun Y =>
 T.ah (Y.add 2) [.map 105 3] fun Z =>
 T.ah (W.add 1) [.string] fun a0 =>
 T.bF a fun a1 =>
 T.ah (a1.add 1) [.slice 112] fun a2 a3 a4 =>
 T.ei Tryz.prog (Instr.mapUpdate 88 (.map Z) (.agg #[vI e,.string a0]) (vI (a3:Int))) <|
 T.bF a fun a5 =>
 T.ah (a5.add 1) [.slice 112] fun a6 a7 a8 =>
 T.ah (W.add 1) [.string] fun a9 =>
 bm (Instr.buildSlice 90 1 #[(0,.agg #[vI e,vI C,vI H,.string a9])]) fun b0 b1 b2 =>
 T.bj [((W.add 1),[.string a9]),((a5.add 1),[.slice a6 a7 a8])] <|
 bm (Builtin.append_ #[90,90] 90 #[.slice a6 a7 a8,.slice b0 b1 b2]) fun b3 b4 b5 =>
 T.bj [((W.add 1),[.string a9])] <|
 T.bF a fun b6 =>
 T.aE (b6.add 1) [.slice b3 b4 b5] <|
 T.again 2 [bh H])
 (T.again 2 [bh H]))
 (T.again 1 [bh C]))
 (T.ah (s.add 2) [.slice 100] fun D E F =>
 T.loop [aR] [vI 0] fun G =>
 bG G E
 (bf G E D fun H =>
 T.ah (H.add (aQ G 3)) [.string,.slice 117,.int .u32] fun I J K L M =>
 T.new [bT,bi,aH 0] 100 fun N =>
 T.aE N [.string I,.slice J K L,aH M] <|
 T.bF a fun O =>
 T.ah (O.add 3) [.map 105 3] fun P =>
 T.ah N [.string] fun Q =>
 T.bF a fun R =>
 T.ah (R.add 3) [.map 105 3] fun S =>
 bR (Builtin.len_ #[88] 3 #[.map S]) false [aR] fun U =>
 T.bj [(N,[.string Q]),((O.add 3),[.map P])] <|
 T.ei Tryz.prog (Instr.mapUpdate 88 (.map P) (.agg #[vI e,.string Q]) (vI U)) <|
 T.again 2 [bh G])
 (T.again 0 [bh e])))
 (br #[])
def mS (a:ZC) (b:ZC) (c d:Nat):bQ Tryz.prog [] Tryz.f31 [.pointer a,.slice b c d]=jd a b c d:=az
def iU (a:ZC) (b:Int) (c:ZC) (d e:Nat):T :=
 bK 41 [.slice c d e] false [(false,[.slice 71])] fun f g h =>
 T.loop [dh,(false,[.string]),cg,aR] [bi,bT,.bool false,vI 0] fun i j k l m n =>
 bG n d
 (bf n d c fun o =>
 T.ah (o.add (aQ n 10)) (yI 117) fun p q r s t u v w x y z A =>
 T.new [vI 0,bT,vI 0,vI 0,vI 0,.int .i32 0,vI 0,bi,aH 0,vI 0] 71 fun B =>
 T.aE B [vI p,.string q,vI r,vI s,vI t,.int .i32 u,vI v,.slice w x y,aH z,vI A] <|
 T.ah (B.add 7) (yL 117) fun C D E F =>
 bK 34 [.pointer a,vI b,.agg #[.slice C D E,aH F]] true [(true,(yL 117)),(false,[.string]),cg] fun G H I J K L =>
 T.new [bi,aH 0] 69 fun M =>
 T.aE M [.slice G H I,aH J] <|
 cond (!L)
 (br #[bi,.string K,.bool false])
 (T.ah M (yL 117) fun N O P Q =>
 bf n g f fun R =>
 T.aE ((R.add (aQ n 10)).add 7) [.slice N O P,aH Q] <|
 T.again 0 [.slice i j k,.string l,.bool m,bh n]))
 (br #[.slice f g h,bT,.bool true])
def mK (a:ZC) (b:Int) (c:ZC) (d e:Nat):bQ Tryz.prog [] Tryz.f33 [.pointer a,vI b,.slice c d e]=iU a b c d e:=az
def u7 (a:ZC) (b c:Nat) (d:ZC) (e f:Nat) (g:ZC) (h i:Nat) (j:ZC) (k l:Nat):T :=
 T.new [.slice a b c,.slice d e f,.slice g h i,.slice j k l] 47 fun m =>
 T.ah m (yU 71 100) fun n o p q r s t u v w x y =>
 cD 30 [.agg #[.slice n o p,.slice q r s,.slice t u v,.slice w x y]] fun z =>
 cond (z != (0:Int))
 (T.ret (vI 0))
 (T.ah m [.slice 71] fun A B C =>
 T.loop [aR,aR] [vI 0,vI 0] fun D E =>
 bG E B
 (bf E B A fun F =>
 T.ah (F.add (aQ E 10)) (yI 117) fun G H I J K L M N O P Q R =>
 T.new [vI 0,bT,vI 0,vI 0,vI 0,.int .i32 0,vI 0,bi,aH 0,vI 0] 71 fun S =>
 T.aE S [vI G,.string H,vI I,vI J,vI K,.int .i32 L,vI M,.slice N O P,aH Q,vI R] <|
 T.ah S [.int .i64] fun U =>
 cond (U==(2:Int))
 (T.ah (S.add 2) [.int .i64] fun V =>
 aT 45 [vI V] fun W =>
 cond W
 (T.again 0 [bh D,bh E])
 (T.again 0 [vI D,bh E]))
 (T.again 0 [vI D,bh E]))
 (T.ret (vI D)))
def ye (a:ZC) (b c:Nat) (d:ZC) (e f:Nat) (g:ZC) (h i:Nat) (j:ZC) (k l:Nat):bQ Tryz.prog [] Tryz.f36 [.agg #[.slice a b c,.slice d e f,.slice g h i,.slice j k l]]=u7 a b c d e f g h i j k l:=az
def iW (a:ZC) (b c:Nat):T :=
 bK 76 [.slice a b c] false [(false,[.slice 3])] fun d e f =>
 cond (decide ((e:Int)>(0:Int)))
 (T.need (iG 0 e) <|
 T.bF d fun g =>
 T.ah g [.int .i64] fun h =>
 T.bj [(g,[vI h])] <|
 br #[bi,vI h,vI 24])
 (bm (Instr.buildSlice 44 0 #[]) fun g h i =>
 bm (Builtin.append_ #[44,44] 44 #[.slice g h i,.slice a b c]) fun j k l =>
 T.loop [aR] [vI 0] fun m =>
 bG m b
 (T.loop [aR] [vI 0] fun n =>
 bG n k
 (bf n k j fun o =>
 T.ah ((o.add (aQ n 3)).add 1) (yL 117) fun p q r s =>
 bK 77 [.agg #[.slice p q r,aH s],.slice a b c] false [(true,(yL 117))] fun t u v w =>
 bf n k j fun x =>
 T.aE ((x.add (aQ n 3)).add 1) [.slice t u v,aH w] <|
 T.again 1 [bh n])
 (T.again 0 [bh m]))
 (br #[.slice j k l,vI 0,vI 0]))
def mX (a:ZC) (b c:Nat):bQ Tryz.prog [] Tryz.f52 [.slice a b c]=iW a b c:=az
def jV (a:ZC) (b c:Nat):T :=
 T.loop [dh,aR] [bi,vI 0] fun d e f g =>
 bG g b
 (aT 100 [.slice a b c,vI g,vI g] fun h =>
 cond h
 (bm (Instr.buildSlice 31 1 #[(0,vI g)]) fun i j k =>
 bm (Builtin.append_ #[31,31] 31 #[.slice d e f,.slice i j k]) fun l m n =>
 T.again 0 [.slice l m n,bh g])
 (T.again 0 [.slice d e f,bh g]))
 (T.ret (.slice d e f))
def oo (a:ZC) (b c:Nat):bQ Tryz.prog [] Tryz.f76 [.slice a b c]=jV a b c:=az
def kr (a:ZC) (b c:Nat) (d:Int) (e:ZC) (f g:Nat):T :=
 T.new [.slice a b c,aH d] 69 fun h =>
 T.new [bi,aH 0] 69 fun i =>
 T.ah (h.add 1) [.int .u32] fun j =>
 T.new [bi,aH 0] 69 fun k =>
 T.aE k [bi,aH j] <|
 T.loop [aR] [vI 0] fun l =>
 T.ah h [.slice 117] fun m n o =>
 bG l n
 (T.ah h [.slice 117] fun p q r =>
 bf l q p fun s =>
 T.ah (s.add (aQ l 2)) [.string] fun t =>
 cD 101 [.slice e f g,.string t] fun u =>
 T.ah h [.slice 117] fun v w x =>
 bf l w v fun y =>
 T.ah (y.add (aQ l 2)) [.string,.int .u32] fun z A =>
 bm (Instr.buildSlice 66 1 #[(0,.agg #[.string z,aH A])]) fun B C D =>
 T.new [bi,aH 0] 69 fun E =>
 T.aE E [.slice B C D,aH 0] <|
 cond (decide (u>=(0:Int)))
 (bf u f e fun F =>
 T.ah ((F.add (aQ u 3)).add 1) (yL 117) fun G H I J =>
 T.ah h [.slice 117] fun K L M =>
 bf l L K fun N =>
 T.ah ((N.add (aQ l 2)).add 1) [.int .u32] fun O =>
 bK 102 [.agg #[.slice G H I,aH J],aH O] false [(true,(yL 117))] fun P Q R S =>
 T.bj [(h,[.slice K L M])] <|
 T.aE E [.slice P Q R,aH S] <|
 T.ah k (yL 117) fun U V W X =>
 T.ah E (yL 117) fun Y Z a0 a1 =>
 bK 75 [.agg #[.slice U V W,aH X],.agg #[.slice Y Z a0,aH a1]] false [(true,(yL 117))] fun a2 a3 a4 a5 =>
 T.aE k [.slice a2 a3 a4,aH a5] <|
 T.again 0 [bh l])
 (T.ah k (yL 117) fun F G H I =>
 T.ah E (yL 117) fun J K L M =>
 bK 75 [.agg #[.slice F G H,aH I],.agg #[.slice J K L,aH M]] false [(true,(yL 117))] fun N O P Q =>
 T.aE k [.slice N O P,aH Q] <|
 T.again 0 [bh l]))
 (T.ah k (yL 117) fun p q r s =>
 T.aE i [.slice p q r,aH s] <|
 T.ah i (yL 117) fun t u v w =>
 T.ret (.agg #[.slice t u v,aH w]))
def ph (a:ZC) (b c:Nat) (d:Int) (e:ZC) (f g:Nat):bQ Tryz.prog [] Tryz.f77 [.agg #[.slice a b c,.int .u32 d],.slice e f g]=kr a b c d e f g:=az
def kB (a:ZC) (b c:Nat) (d:Int) (e:Int):T :=
 bm (Instr.makeSlice 223 (vI (b:Int)) (vI (b:Int))) fun f g h =>
 bm (Instr.buildSlice 31 1 #[(0,vI d)]) fun i j k =>
 T.loop [cg,dh] [.bool false,.slice i j k] fun l m n o =>
 cond (decide ((n:Int)>(0:Int)))
 (T.need (((0:Int)<=(bt ((n:Int)-(1:Int))))/\((bt ((n:Int)-(1:Int)))<(n:Int))) <|
 T.bF m fun p =>
 T.ah (p.add ((Int.toNat (bt ((n:Int)-(1:Int))))*1)) [.int .i64] fun q =>
 T.need (((0:Int)<=(0:Int))/\(((0:Int)<=(bt ((n:Int)-(1:Int))))/\((bt ((n:Int)-(1:Int)))<=(o:Int)))) <|
 T.loop [cg,dh,aR] [.bool l,.slice (if (o=0) then m else (Option.map (fun r=>Addr.add r 0) m)) ((Int.toNat (bt ((n:Int)-(1:Int))))-0) (o-0),vI 0] fun r s t u v =>
 bf q b a fun w =>
 T.ah ((w.add (aQ q 3)).add 1) [.slice 117] fun x y z =>
 bG v y
 (bf q b a fun A =>
 T.ah ((A.add (aQ q 3)).add 1) [.slice 117] fun B C D =>
 bf v C B fun E =>
 T.ah (E.add (aQ v 2)) [.string] fun F =>
 cD 101 [.slice a b c,.string F] fun G =>
 cond (G==e)
 dL
 (cond (decide (G>=(0:Int)))
 (bf G g f fun H =>
 T.ah (H.add (aQ G 1)) [.bool] fun I =>
 cond (!I)
 (bf G g f fun J =>
 T.aE (J.add (aQ G 1)) [.bool true] <|
 bm (Instr.buildSlice 31 1 #[(0,vI G)]) fun K L M =>
 bm (Builtin.append_ #[31,31] 31 #[.slice s t u,.slice K L M]) fun N O P =>
 T.again 1 [.bool r,.slice N O P,bh v])
 (T.again 1 [.bool r,.slice s t u,bh v]))
 (T.again 1 [.bool r,.slice s t u,bh v])))
 (T.again 0 [.bool r,.slice s t u]))
 bC
def oU (a:ZC) (b c:Nat) (d:Int) (e:Int):bQ Tryz.prog [] Tryz.f100 [.slice a b c,vI d,vI e]=kB a b c d e:=az
def jZ (a:ZC) (b c:Nat) (d:ZA):T :=
 T.loop [aR,aR] [vI 0,vI 0] fun e f =>
 bG f b
 (bf f b a fun g =>
 T.ah (g.add (aQ f 3)) [.string] fun h =>
 cond ((ByteArray.toList h)==(ByteArray.toList d))
 (T.ret (vI f))
 (T.again 0 [vI e,bh f]))
 (T.ret (vI (-1:Int)))
def nr (a:ZC) (b c:Nat) (d:ZA):bQ Tryz.prog [] Tryz.f101 [.slice a b c,.string d]=jZ a b c d:=az
end Go.Sx
