/- Trees of functions. No condition. -/
import Derived.Test.YthbffkdafjboiaaGreatDoorSxF
import Derived.Test.YthbffkdafjboiaaGreatDoorProg
import Derived.KernelRfl
set_option linter.all false
set_option maxRecDepth 100000
set_option maxHeartbeats 4000000
namespace Go.Sx
open Go.Proofs
def kI (a:Xac) (b:Int) (c:Xaa):T :=
 T.new [vI b,.string c] 105 fun d =>
 T.bi a fun e =>
 T.ah (e.add 2) [.map 105 3] fun f =>
 T.ah d [.int .i64,.string] fun g h =>
 bU (Instr.lookup 88 (.map f) (.agg #[vI g,.string h]) true) true [aP,bR] fun i j =>
 T.bi a fun k =>
 T.ah (k.add 3) [.map 105 3] fun l =>
 T.ah d [.int .i64,.string] fun m n =>
 bU (Instr.lookup 88 (.map l) (.agg #[vI m,.string n]) true) true [aP,bR] fun o p =>
 cond j
 dy
 (T.ret (.bool p))
def qd (a:Xac) (b:Int) (c:Xaa):bM Tryz.prog [] Tryz.f89 [.pointer a,.agg #[vI b,.string c]]=kI a b c:=az
def kU (a:Xac) (b:Int) (c:Xaa):T :=
 T.new [vI 0,bX] 105 fun d =>
 T.new [vI 0,bX] 105 fun e =>
 T.aC e [vI b,.string c] <|
 T.ah e [.int .i64,.string] fun f g =>
 aX 89 [.pointer a,.agg #[vI f,.string g]] fun h =>
 cond h
 (T.ah e [.int .i64,.string] fun i j =>
 T.aC d [vI i,.string j] <|
 T.ah d [.int .i64,.string] fun k l =>
 bn #[.agg #[vI k,.string l],.bool true])
 (T.bi a fun i =>
 T.ah (i.add 4) [.map 9 3] fun j =>
 bU (Instr.lookup 89 (.map j) (.string c) true) true [aP,bR] fun k l =>
 T.aC d [vI k,.string c] <|
 T.ah d [.int .i64,.string] fun m n =>
 bn #[.agg #[vI m,.string n],.bool l])
def qc (a:Xac) (b:Int) (c:Xaa):bM Tryz.prog [] Tryz.f62 [.pointer a,vI b,.string c]=kU a b c:=az
def kh (a:Xac) (b:Int) (c:Xaa):T :=
 T.new [vI b,.string c] 105 fun d =>
 T.bi a fun e =>
 T.ah (e.add 2) [.map 105 3] fun f =>
 T.ah d [.int .i64,.string] fun g h =>
 bU (Instr.lookup 88 (.map f) (.agg #[vI g,.string h]) true) true [aP,bR] fun i j =>
 cond j
 (gS 40 [vI i] fun k =>
 T.need ((((1+k.size):Nat):Int)<=(9223372036854775807:Int)) <|
 T.ret (.string (⟨#[76]⟩++k)))
 (T.bi a fun k =>
 T.ah (k.add 3) [.map 105 3] fun l =>
 T.ah d [.int .i64,.string] fun m n =>
 bU (Instr.lookup 88 (.map l) (.agg #[vI m,.string n]) false) false [aP] fun o =>
 gS 40 [vI o] fun p =>
 T.bj [(d,[vI m,.string n]),((k.add 3),[.map l])] <|
 T.need ((((1+p.size):Nat):Int)<=(9223372036854775807:Int)) <|
 T.ret (.string (⟨#[69]⟩++p)))
def oE (a:Xac) (b:Int) (c:Xaa):bM Tryz.prog [] Tryz.f35 [.pointer a,.agg #[vI b,.string c]]=kh a b c:=az
def iV (a:Xac) (b:Int) (c:Xac) (d e:Nat) (f:Int):T :=
 T.new [.slice c d e,aH f] 69 fun g =>
 T.new [bq,aH 0] 69 fun h =>
 T.ah g [.slice 117] fun i j k =>
 bt (Instr.makeSlice 44 (vI 0) (vI (j:Int))) fun l m n =>
 T.ah g [.slice 117] fun o p q =>
 T.loop [(false,[.string]),bR,dl,aP] [bX,.bool false,.slice l m n,vI 0] fun r s t u v w =>
 bz w p
 (bf w p o fun x =>
 T.ah (x.add (aK w 2)) [.string,.int .u32] fun y z =>
 T.new [bX,aH 0] 117 fun A =>
 T.aC A [.string y,aH z] <|
 T.ah A [.string] fun B =>
 bJ 62 [.pointer a,vI b,.string B] true [(true,[.int .i64,.string]),bR] fun C D E =>
 T.new [vI 0,bX] 105 fun F =>
 T.aC F [vI C,.string D] <|
 cond (!E)
 (T.ah A [.string] fun G =>
 T.aC h [bq,aH 0] <|
 T.bj [(A,[.string G])] <|
 T.ah h (yL 117) fun H I J K =>
 bn #[.agg #[.slice H I J,aH K],.string G,.bool false])
 (T.ah A [.string] fun G =>
 T.ah F [.int .i64,.string] fun H I =>
 gS 35 [.pointer a,.agg #[vI H,.string I]] fun J =>
 T.bj [(A,[.string G])] <|
 bt (Instr.buildSlice 66 1 #[(0,.agg #[.string J,aH 1])]) fun K L M =>
 T.bj [(F,[vI H,.string I]),(A,[.string G])] <|
 bt (Instr.buildSlice 44 1 #[(0,.agg #[.string G,.slice K L M,aH 0])]) fun N O P =>
 T.bj [(F,[vI H,.string I]),(A,[.string G])] <|
 bt (Builtin.append_ #[44,44] 44 #[.slice t u v,.slice N O P]) fun Q R S =>
 T.bj [(F,[vI H,.string I]),(A,[.string G])] <|
 T.again 0 [.string r,.bool s,.slice Q R S,bg w]))
 (T.ah g (yL 117) fun x y z A =>
 bJ 38 [.agg #[.slice x y z,aH A],.slice t u v] false [(true,(yL 117))] fun B C D E =>
 T.aC h [.slice B C D,aH E] <|
 T.ah h (yL 117) fun F G H I =>
 bn #[.agg #[.slice F G H,aH I],bX,.bool true])
def mQ (a:Xac) (b:Int) (c:Xac) (d e:Nat) (f:Int):bM Tryz.prog [] Tryz.f34 [.pointer a,vI b,.agg #[.slice c d e,.int .u32 f]]=iV a b c d e f:=az
def kg (a:Xac) (b:Xac) (c d:Nat):T :=
 T.new [vI 0,vI 0,bX] 54 fun e =>
 T.loop [bR,aP] [.bool false,vI 0] fun f g =>
 bz g c
 (bf g c b fun h =>
 T.ah (h.add (aK g 4)) (yU 71 100) fun i j k l m n o p q r s t =>
 T.new [bq,bq,bq,bq] 47 fun u =>
 T.aC u [.slice i j k,.slice l m n,.slice o p q,.slice r s t] <|
 T.ah (u.add 3) [.slice 9] fun v w x =>
 T.loop [bR,aP] [.bool f,vI 0] fun y z =>
 bz z w
 (bf z w v fun A =>
 T.ah (A.add (aK z 1)) [.string] fun B =>
 T.bi a fun C =>
 T.ah (C.add 4) [.map 9 3] fun D =>
 bU (Instr.lookup 89 (.map D) (.string B) true) true [aP,bR] fun E F =>
 cond F
 (T.aC e [vI 22,vI g,.string B] <|
 T.ah e [.int .i64,.int .i64,.string] fun G H I =>
 bn #[.agg #[vI G,vI H,.string I],.bool true])
 (T.again 1 [.bool y,bg z]))
 (T.ah (u.add 3) [.slice 9] fun A B C =>
 T.loop [aP] [vI 0] fun D =>
 bz D B
 (bf D B A fun E =>
 T.ah (E.add (aK D 1)) [.string] fun F =>
 T.bi a fun G =>
 T.ah (G.add 4) [.map 9 3] fun H =>
 T.ey Tryz.prog (Instr.mapUpdate 89 (.map H) (.string F) (vI g)) <|
 T.again 2 [bg D])
 (T.again 0 [.bool y,bg g])))
 (T.aC e [vI 0,vI 0,bX] <|
 T.ah e [.int .i64,.int .i64,.string] fun h i j =>
 bn #[.agg #[vI h,vI i,.string j],.bool false])
def om (a:Xac) (b:Xac) (c d:Nat):bM Tryz.prog [] Tryz.f32 [.pointer a,.slice b c d]=kg a b c d:=az
def jn (a:Xac) (b:Xac) (c d:Nat):T :=
 T.loop [aP] [vI 0] fun e =>
 bz e c
 (bf e c b fun f =>
 T.ah (f.add (aK e 4)) (yU 71 100) fun g h i j k l m n o p q r =>
 T.new [bq,bq,bq,bq] 47 fun s =>
 T.aC s [.slice g h i,.slice j k l,.slice m n o,.slice p q r] <|
 T.ah s [.slice 71] fun t u v =>
 T.ah (s.add 1) [.slice 71] fun w x y =>
 bt (Instr.buildSlice 79 2 #[(0,.slice t u v),(1,.slice w x y)]) fun z A B =>
 T.loop [aP] [vI 0] fun C =>
 bz C A
 (bf C A z fun D =>
 T.ah (D.add (aK C 1)) [.slice 71] fun E F G =>
 T.loop [aP] [vI 0] fun H =>
 bz H F
 (bf H F E fun I =>
 T.ah (I.add (aK H 10)) (yI 117) fun J K L M N O P Q R S U V =>
 T.new [vI 0,bX,vI 0,vI 0,vI 0,.int .i32 0,vI 0,bq,aH 0,vI 0] 71 fun W =>
 T.aC W [vI J,.string K,vI L,vI M,vI N,.int .i32 O,vI P,.slice Q R S,aH U,vI V] <|
 T.ah W [.int .i64] fun X =>
 cond (X==(1:Int))
 (T.bi a fun Y =>
 T.ah (Y.add 2) [.map 105 3] fun Z =>
 T.ah (W.add 1) [.string] fun a0 =>
 T.bi a fun a1 =>
 T.ah (a1.add 1) [.slice 112] fun a2 a3 a4 =>
 T.ey Tryz.prog (Instr.mapUpdate 88 (.map Z) (.agg #[vI e,.string a0]) (vI (a3:Int))) <|
 T.bi a fun a5 =>
 T.ah (a5.add 1) [.slice 112] fun a6 a7 a8 =>
 T.ah (W.add 1) [.string] fun a9 =>
 bt (Instr.buildSlice 90 1 #[(0,.agg #[vI e,vI C,vI H,.string a9])]) fun b0 b1 b2 =>
 T.bj [((W.add 1),[.string a9]),((a5.add 1),[.slice a6 a7 a8])] <|
 bt (Builtin.append_ #[90,90] 90 #[.slice a6 a7 a8,.slice b0 b1 b2]) fun b3 b4 b5 =>
 T.bj [((W.add 1),[.string a9])] <|
 T.bi a fun b6 =>
 T.aC (b6.add 1) [.slice b3 b4 b5] <|
 T.again 2 [bg H])
 (T.again 2 [bg H]))
 (T.again 1 [bg C]))
 (T.ah (s.add 2) [.slice 100] fun D E F =>
 T.loop [aP] [vI 0] fun G =>
 bz G E
 (bf G E D fun H =>
 T.ah (H.add (aK G 3)) [.string,.slice 117,.int .u32] fun I J K L M =>
 T.new [bX,bq,aH 0] 100 fun N =>
 T.aC N [.string I,.slice J K L,aH M] <|
 T.bi a fun O =>
 T.ah (O.add 3) [.map 105 3] fun P =>
 T.ah N [.string] fun Q =>
 T.bi a fun R =>
 T.ah (R.add 3) [.map 105 3] fun S =>
 bU (Builtin.len_ #[88] 3 #[.map S]) false [aP] fun U =>
 T.bj [(N,[.string Q]),((O.add 3),[.map P])] <|
 T.ey Tryz.prog (Instr.mapUpdate 88 (.map P) (.agg #[vI e,.string Q]) (vI U)) <|
 T.again 2 [bg G])
 (T.again 0 [bg e])))
 (bn #[])
def nK (a:Xac) (b:Xac) (c d:Nat):bM Tryz.prog [] Tryz.f31 [.pointer a,.slice b c d]=jn a b c d:=az
def jc (a:Xac) (b:Int) (c:Xac) (d e:Nat):T :=
 bJ 41 [.slice c d e] false [(false,[.slice 71])] fun f g h =>
 T.loop [dl,(false,[.string]),bR,aP] [bq,bX,.bool false,vI 0] fun i j k l m n =>
 bz n d
 (bf n d c fun o =>
 T.ah (o.add (aK n 10)) (yI 117) fun p q r s t u v w x y z A =>
 T.new [vI 0,bX,vI 0,vI 0,vI 0,.int .i32 0,vI 0,bq,aH 0,vI 0] 71 fun B =>
 T.aC B [vI p,.string q,vI r,vI s,vI t,.int .i32 u,vI v,.slice w x y,aH z,vI A] <|
 T.ah (B.add 7) (yL 117) fun C D E F =>
 bJ 34 [.pointer a,vI b,.agg #[.slice C D E,aH F]] true [(true,(yL 117)),(false,[.string]),bR] fun G H I J K L =>
 T.new [bq,aH 0] 69 fun M =>
 T.aC M [.slice G H I,aH J] <|
 cond (!L)
 (bn #[bq,.string K,.bool false])
 (T.ah M (yL 117) fun N O P Q =>
 bf n g f fun R =>
 T.aC ((R.add (aK n 10)).add 7) [.slice N O P,aH Q] <|
 T.again 0 [.slice i j k,.string l,.bool m,bg n]))
 (bn #[.slice f g h,bX,.bool true])
def nD (a:Xac) (b:Int) (c:Xac) (d e:Nat):bM Tryz.prog [] Tryz.f33 [.pointer a,vI b,.slice c d e]=jc a b c d e:=az
def wh (a:Xac) (b c:Nat) (d:Xac) (e f:Nat) (g:Xac) (h i:Nat) (j:Xac) (k l:Nat):T :=
 T.new [.slice a b c,.slice d e f,.slice g h i,.slice j k l] 47 fun m =>
 T.ah m (yU 71 100) fun n o p q r s t u v w x y =>
 ct 30 [.agg #[.slice n o p,.slice q r s,.slice t u v,.slice w x y]] fun z =>
 cond (z != (0:Int))
 (T.ret (vI 0))
 (T.ah m [.slice 71] fun A B C =>
 T.loop [aP,aP] [vI 0,vI 0] fun D E =>
 bz E B
 (bf E B A fun F =>
 T.ah (F.add (aK E 10)) (yI 117) fun G H I J K L M N O P Q R =>
 T.new [vI 0,bX,vI 0,vI 0,vI 0,.int .i32 0,vI 0,bq,aH 0,vI 0] 71 fun S =>
 T.aC S [vI G,.string H,vI I,vI J,vI K,.int .i32 L,vI M,.slice N O P,aH Q,vI R] <|
 T.ah S [.int .i64] fun U =>
 cond (U==(2:Int))
 (T.ah (S.add 2) [.int .i64] fun V =>
 aX 45 [vI V] fun W =>
 cond W
 (T.again 0 [bg D,bg E])
 (T.again 0 [vI D,bg E]))
 (T.again 0 [vI D,bg E]))
 (T.ret (vI D)))
def yR (a:Xac) (b c:Nat) (d:Xac) (e f:Nat) (g:Xac) (h i:Nat) (j:Xac) (k l:Nat):bM Tryz.prog [] Tryz.f36 [.agg #[.slice a b c,.slice d e f,.slice g h i,.slice j k l]]=wh a b c d e f g h i j k l:=az
def je (a:Xac) (b c:Nat):T :=
 bJ 76 [.slice a b c] false [(false,[.slice 3])] fun d e f =>
 cond (decide ((e:Int)>(0:Int)))
 (T.need (fA 0 e) <|
 T.bi d fun g =>
 T.ah g [.int .i64] fun h =>
 T.bj [(g,[vI h])] <|
 bn #[bq,vI h,vI 24])
 (bt (Instr.buildSlice 44 0 #[]) fun g h i =>
 bt (Builtin.append_ #[44,44] 44 #[.slice g h i,.slice a b c]) fun j k l =>
 T.loop [aP] [vI 0] fun m =>
 bz m b
 (T.loop [aP] [vI 0] fun n =>
 bz n k
 (bf n k j fun o =>
 T.ah ((o.add (aK n 3)).add 1) (yL 117) fun p q r s =>
 bJ 77 [.agg #[.slice p q r,aH s],.slice a b c] false [(true,(yL 117))] fun t u v w =>
 bf n k j fun x =>
 T.aC ((x.add (aK n 3)).add 1) [.slice t u v,aH w] <|
 T.again 1 [bg n])
 (T.again 0 [bg m]))
 (bn #[.slice j k l,vI 0,vI 0]))
def nP (a:Xac) (b c:Nat):bM Tryz.prog [] Tryz.f52 [.slice a b c]=je a b c:=az
def kb (a:Xac) (b c:Nat):T :=
 T.loop [dl,aP] [bq,vI 0] fun d e f g =>
 bz g b
 (aX 100 [.slice a b c,vI g,vI g] fun h =>
 cond h
 (bt (Instr.buildSlice 31 1 #[(0,vI g)]) fun i j k =>
 bt (Builtin.append_ #[31,31] 31 #[.slice d e f,.slice i j k]) fun l m n =>
 T.again 0 [.slice l m n,bg g])
 (T.again 0 [.slice d e f,bg g]))
 (T.ret (.slice d e f))
def o7 (a:Xac) (b c:Nat):bM Tryz.prog [] Tryz.f76 [.slice a b c]=kb a b c:=az
def kR (a:Xac) (b c:Nat) (d:Int) (e:Xac) (f g:Nat):T :=
 T.new [.slice a b c,aH d] 69 fun h =>
 T.new [bq,aH 0] 69 fun i =>
 T.ah (h.add 1) [.int .u32] fun j =>
 T.new [bq,aH 0] 69 fun k =>
 T.aC k [bq,aH j] <|
 T.loop [aP] [vI 0] fun l =>
 T.ah h [.slice 117] fun m n o =>
 bz l n
 (T.ah h [.slice 117] fun p q r =>
 bf l q p fun s =>
 T.ah (s.add (aK l 2)) [.string] fun t =>
 ct 101 [.slice e f g,.string t] fun u =>
 T.ah h [.slice 117] fun v w x =>
 bf l w v fun y =>
 T.ah (y.add (aK l 2)) [.string,.int .u32] fun z A =>
 bt (Instr.buildSlice 66 1 #[(0,.agg #[.string z,aH A])]) fun B C D =>
 T.new [bq,aH 0] 69 fun E =>
 T.aC E [.slice B C D,aH 0] <|
 cond (decide (u>=(0:Int)))
 (bf u f e fun F =>
 T.ah ((F.add (aK u 3)).add 1) (yL 117) fun G H I J =>
 T.ah h [.slice 117] fun K L M =>
 bf l L K fun N =>
 T.ah ((N.add (aK l 2)).add 1) [.int .u32] fun O =>
 bJ 102 [.agg #[.slice G H I,aH J],aH O] false [(true,(yL 117))] fun P Q R S =>
 T.bj [(h,[.slice K L M])] <|
 T.aC E [.slice P Q R,aH S] <|
 T.ah k (yL 117) fun U V W X =>
 T.ah E (yL 117) fun Y Z a0 a1 =>
 bJ 75 [.agg #[.slice U V W,aH X],.agg #[.slice Y Z a0,aH a1]] false [(true,(yL 117))] fun a2 a3 a4 a5 =>
 T.aC k [.slice a2 a3 a4,aH a5] <|
 T.again 0 [bg l])
 (T.ah k (yL 117) fun F G H I =>
 T.ah E (yL 117) fun J K L M =>
 bJ 75 [.agg #[.slice F G H,aH I],.agg #[.slice J K L,aH M]] false [(true,(yL 117))] fun N O P Q =>
 T.aC k [.slice N O P,aH Q] <|
 T.again 0 [bg l]))
 (T.ah k (yL 117) fun p q r s =>
 T.aC i [.slice p q r,aH s] <|
 T.ah i (yL 117) fun t u v w =>
 T.ret (.agg #[.slice t u v,aH w]))
def pZ (a:Xac) (b c:Nat) (d:Int) (e:Xac) (f g:Nat):bM Tryz.prog [] Tryz.f77 [.agg #[.slice a b c,.int .u32 d],.slice e f g]=kR a b c d e f g:=az
def kW (a:Xac) (b c:Nat) (d:Int) (e:Int):T :=
 bt (Instr.makeSlice 223 (vI (b:Int)) (vI (b:Int))) fun f g h =>
 bt (Instr.buildSlice 31 1 #[(0,vI d)]) fun i j k =>
 T.loop [bR,dl] [.bool false,.slice i j k] fun l m n o =>
 cond (decide ((n:Int)>(0:Int)))
 (T.need (((0:Int)<=(bm ((n:Int)-(1:Int))))/\((bm ((n:Int)-(1:Int)))<(n:Int))) <|
 T.bi m fun p =>
 T.ah (p.add ((Int.toNat (bm ((n:Int)-(1:Int))))*1)) [.int .i64] fun q =>
 T.need (((0:Int)<=(0:Int))/\(((0:Int)<=(bm ((n:Int)-(1:Int))))/\((bm ((n:Int)-(1:Int)))<=(o:Int)))) <|
 T.loop [bR,dl,aP] [.bool l,.slice (if (o=0) then m else (Option.map (fun r=>Addr.add r 0) m)) ((Int.toNat (bm ((n:Int)-(1:Int))))-0) (o-0),vI 0] fun r s t u v =>
 bf q b a fun w =>
 T.ah ((w.add (aK q 3)).add 1) [.slice 117] fun x y z =>
 bz v y
 (bf q b a fun A =>
 T.ah ((A.add (aK q 3)).add 1) [.slice 117] fun B C D =>
 bf v C B fun E =>
 T.ah (E.add (aK v 2)) [.string] fun F =>
 ct 101 [.slice a b c,.string F] fun G =>
 cond (G==e)
 dy
 (cond (decide (G>=(0:Int)))
 (bf G g f fun H =>
 T.ah (H.add (aK G 1)) [.bool] fun I =>
 cond (!I)
 (bf G g f fun J =>
 T.aC (J.add (aK G 1)) [.bool true] <|
 bt (Instr.buildSlice 31 1 #[(0,vI G)]) fun K L M =>
 bt (Builtin.append_ #[31,31] 31 #[.slice s t u,.slice K L M]) fun N O P =>
 T.again 1 [.bool r,.slice N O P,bg v])
 (T.again 1 [.bool r,.slice s t u,bg v]))
 (T.again 1 [.bool r,.slice s t u,bg v])))
 (T.again 0 [.bool r,.slice s t u]))
 bC
def pP (a:Xac) (b c:Nat) (d:Int) (e:Int):bM Tryz.prog [] Tryz.f100 [.slice a b c,vI d,vI e]=kW a b c d e:=az
def km (a:Xac) (b c:Nat) (d:Xaa):T :=
 T.loop [aP,aP] [vI 0,vI 0] fun e f =>
 bz f b
 (bf f b a fun g =>
 T.ah (g.add (aK f 3)) [.string] fun h =>
 cond ((ByteArray.toList h)==(ByteArray.toList d))
 (T.ret (vI f))
 (T.again 0 [vI e,bg f]))
 (T.ret (vI (-1:Int)))
def ob (a:Xac) (b c:Nat) (d:Xaa):bM Tryz.prog [] Tryz.f101 [.slice a b c,.string d]=km a b c d:=az
end Go.Sx
