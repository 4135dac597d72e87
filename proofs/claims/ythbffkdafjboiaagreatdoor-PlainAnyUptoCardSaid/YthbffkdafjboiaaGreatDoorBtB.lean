/- Trees of functions. No condition. -/
import Derived.Test.YthbffkdafjboiaaGreatDoorSxF
import Derived.Test.YthbffkdafjboiaaGreatDoorProg
import Derived.KernelRfl
set_option linter.all false
set_option maxRecDepth 100000
set_option maxHeartbeats 4000000
namespace Go.Sx
open Go.Proofs
def zC (a:Int):T :=
 T.new [bX,.int .u8 0,vI 0] 120 fun b =>
 cond (decide (a<(1:Int)))
 (T.aC b [bX,.int .u8 0,vI 0] <|
 T.ah b [.string,.int .u8,.int .i64] fun c d e =>
 bn #[.agg #[.string c,.int .u8 d,vI e],.bool false])
 (cond (decide (a>(43:Int)))
 (T.aC b [bX,.int .u8 0,vI 0] <|
 T.ah b [.string,.int .u8,.int .i64] fun c d e =>
 bn #[.agg #[.string c,.int .u8 d,vI e],.bool false])
 (T.need (((0:Int)<=(bm (a-(1:Int))))/\((bm (a-(1:Int)))<(43:Int))) <|
 T.ah ((⟨0,0,none⟩:Xax).add ((Int.toNat (bm (a-(1:Int))))*3)) [.string,.int .u8,.int .i64] fun c d e =>
 T.aC b [.string c,.int .u8 d,vI e] <|
 T.ah b [.string,.int .u8,.int .i64] fun f g h =>
 bn #[.agg #[.string f,.int .u8 g,vI h],.bool true]))
def yw (a:Int):bM Tryz.prog [] Tryz.f44 [vI a]=zC a:=az
def ye (a:Int):T :=
 bJ 44 [vI a] true [(true,[.string,.int .u8,.int .i64]),bR] fun b c d e =>
 T.new [bX,.int .u8 0,vI 0] 120 fun f =>
 T.aC f [.string b,.int .u8 c,vI d] <|
 T.ah (f.add 2) [.int .i64] fun g =>
 cond (g==(12:Int))
 dy
 (T.ah (f.add 2) [.int .i64] fun h =>
 T.ret (.bool (h==(13:Int))))
def zF (a:Int):bM Tryz.prog [] Tryz.f45 [vI a]=ye a:=az
def xL (a:Int) (b:Int):T :=
 cond (decide (a>=(0:Int)))
 (T.ret (.bool (decide (a<b))))
 bC
def AY (a:Int) (b:Int):bM Tryz.prog [] Tryz.f151 [vI a,vI b]=xL a b:=az
def tD (a:Int) (b:Int):T :=
 cond (b==(1:Int))
 (T.ret (.bool (a==(IntKind.wrap .i32 (IntKind.wrap .i8 a)))))
 (cond (b==(2:Int))
 (T.ret (.bool (a==(IntKind.wrap .i32 (IntKind.wrap .i16 a)))))
 (T.ret (.bool (b==(4:Int)))))
def xi (a:Int) (b:Int):bM Tryz.prog [] Tryz.f152 [.int .i32 a,vI b]=tD a b:=az
def ym (a:Int) (b:Int) (c:Int) (d:Int) (e:Int):T :=
 T.new [vI a,vI b,vI c,.int .i32 d,vI e] 65 fun f =>
 T.ah f [.int .i64] fun g =>
 bJ 44 [vI g] true [(true,[.string,.int .u8,.int .i64]),bR] fun h i j k =>
 T.new [bX,.int .u8 0,vI 0] 120 fun l =>
 T.aC l [.string h,.int .u8 i,vI j] <|
 cond (!k)
 (T.ret (vI 11))
 (T.ah f [.int .i64,.int .i64,.int .i64,.int .i32,.int .i64] fun m n o p q =>
 T.ah (l.add 2) [.int .i64] fun r =>
 aX 135 [.agg #[vI m,vI n,vI o,.int .i32 p,vI q],vI r] fun s =>
 cond (!s)
 (T.ret (vI 12))
 (T.ah f [.int .i64] fun t =>
 aX 45 [vI t] fun u =>
 cond (!u)
 (T.ah (f.add 4) [.int .i64] fun v =>
 cond (v != (0:Int))
 (T.ret (vI 13))
 (T.ah f [.int .i64,.int .i64,.int .i64,.int .i32,.int .i64] fun w x y z A =>
 T.ah (l.add 2) [.int .i64] fun B =>
 aX 136 [.agg #[vI w,vI x,vI y,.int .i32 z,vI A],vI B] fun C =>
 cond (!C)
 (T.ret (vI 13))
 (T.ret (vI 0))))
 (T.ah f [.int .i64,.int .i64,.int .i64,.int .i32,.int .i64] fun v w x y z =>
 T.ah (l.add 2) [.int .i64] fun A =>
 aX 136 [.agg #[vI v,vI w,vI x,.int .i32 y,vI z],vI A] fun B =>
 cond (!B)
 (T.ret (vI 13))
 (T.ret (vI 0)))))
def Ah (a:Int) (b:Int) (c:Int) (d:Int) (e:Int):bM Tryz.prog [] Tryz.f112 [.agg #[vI a,vI b,vI c,.int .i32 d,vI e]]=ym a b c d e:=az
def vS (a:Int):T :=
 cond (decide (a>=(1:Int)))
 (cond (decide (a<=(256:Int)))
 (T.ret (.bool ((bm (((BitVec.toNat ((BitVec.ofInt 64 a) &&& (BitVec.ofInt 64 (bm (a-(1:Int)))))):Nat):Int))==(0:Int))))
 bC)
 bC
def yO (a:Int):bM Tryz.prog [] Tryz.f85 [vI a]=vS a:=az
def mi (a:Int) (b:Xaa) (c:Int) (d:Int) (e:Int) (f:Int) (g:Int) (h:Xac) (i j:Nat) (k:Int) (l:Int):T :=
 T.new [vI a,.string b,vI c,vI d,vI e,.int .i32 f,vI g,.slice h i j,aH k,vI l] 71 fun m =>
 T.ah (m.add 2) [.int .i64] fun n =>
 bJ 44 [vI n] true [(true,[.string,.int .u8,.int .i64]),bR] fun o p q r =>
 T.new [bX,.int .u8 0,vI 0] 120 fun s =>
 T.aC s [.string o,.int .u8 p,vI q] <|
 cond (!r)
 bC
 (T.ah ((m.add 2).add 4) [.int .i64] fun t =>
 cond (t != (0:Int))
 bC
 (T.ah (m.add 2) [.int .i64,.int .i64,.int .i64,.int .i32,.int .i64] fun u v w x y =>
 T.new [vI 0,vI 0,vI 0,.int .i32 0,vI 0] 65 fun z =>
 T.aC z [vI u,vI v,vI w,.int .i32 x,vI y] <|
 T.ah (s.add 2) [.int .i64] fun A =>
 cond (A==(12:Int))
 (cond (A==(12:Int))
 (T.aC (z.add 4) [vI 1] <|
 T.ah ((m.add 2).add 3) [.int .i32] fun B =>
 cond (B==(0:Int))
 (T.ah z [.int .i64,.int .i64,.int .i64,.int .i32,.int .i64] fun C D E F G =>
 ct 112 [.agg #[vI C,vI D,vI E,.int .i32 F,vI G]] fun H =>
 cond (H==(0:Int))
 (T.ah (m.add 7) (yL 117) fun I J K L =>
 aX 61 [.agg #[.slice I J K,aH L]] fun M =>
 T.ret (.bool M))
 bC)
 bC)
 (cond (A==(10:Int))
 (cond (A==(10:Int))
 (T.ah ((m.add 2).add 3) [.int .i32] fun B =>
 cond (B==(0:Int))
 (T.ah z [.int .i64,.int .i64,.int .i64,.int .i32,.int .i64] fun C D E F G =>
 ct 112 [.agg #[vI C,vI D,vI E,.int .i32 F,vI G]] fun H =>
 cond (H==(0:Int))
 (T.ah (m.add 7) (yL 117) fun I J K L =>
 aX 61 [.agg #[.slice I J K,aH L]] fun M =>
 T.ret (.bool M))
 bC)
 bC)
 (T.ah z [.int .i64,.int .i64,.int .i64,.int .i32,.int .i64] fun B C D E F =>
 ct 112 [.agg #[vI B,vI C,vI D,.int .i32 E,vI F]] fun G =>
 cond (G==(0:Int))
 (T.ah (m.add 7) (yL 117) fun H I J K =>
 aX 86 [.agg #[.slice H I J,aH K],.agg #[bq,aH 0]] fun L =>
 T.ret (.bool L))
 bC))
 (cond (A==(11:Int))
 (T.ah ((m.add 2).add 3) [.int .i32] fun B =>
 cond (B==(0:Int))
 (T.ah z [.int .i64,.int .i64,.int .i64,.int .i32,.int .i64] fun C D E F G =>
 ct 112 [.agg #[vI C,vI D,vI E,.int .i32 F,vI G]] fun H =>
 cond (H==(0:Int))
 (T.ah (m.add 7) (yL 117) fun I J K L =>
 aX 61 [.agg #[.slice I J K,aH L]] fun M =>
 T.ret (.bool M))
 bC)
 bC)
 (T.ah z [.int .i64,.int .i64,.int .i64,.int .i32,.int .i64] fun B C D E F =>
 ct 112 [.agg #[vI B,vI C,vI D,.int .i32 E,vI F]] fun G =>
 cond (G==(0:Int))
 (T.ah (m.add 7) (yL 117) fun H I J K =>
 aX 86 [.agg #[.slice H I J,aH K],.agg #[bq,aH 0]] fun L =>
 T.ret (.bool L))
 bC))))
 (cond (A==(13:Int))
 (T.aC (z.add 4) [vI 1] <|
 T.ah ((m.add 2).add 3) [.int .i32] fun B =>
 cond (B==(0:Int))
 (T.ah z [.int .i64,.int .i64,.int .i64,.int .i32,.int .i64] fun C D E F G =>
 ct 112 [.agg #[vI C,vI D,vI E,.int .i32 F,vI G]] fun H =>
 cond (H==(0:Int))
 (T.ah (m.add 7) (yL 117) fun I J K L =>
 aX 61 [.agg #[.slice I J K,aH L]] fun M =>
 T.ret (.bool M))
 bC)
 bC)
 (cond (A==(10:Int))
 (cond (A==(10:Int))
 (T.ah ((m.add 2).add 3) [.int .i32] fun B =>
 cond (B==(0:Int))
 (T.ah z [.int .i64,.int .i64,.int .i64,.int .i32,.int .i64] fun C D E F G =>
 ct 112 [.agg #[vI C,vI D,vI E,.int .i32 F,vI G]] fun H =>
 cond (H==(0:Int))
 (T.ah (m.add 7) (yL 117) fun I J K L =>
 aX 61 [.agg #[.slice I J K,aH L]] fun M =>
 T.ret (.bool M))
 bC)
 bC)
 (T.ah z [.int .i64,.int .i64,.int .i64,.int .i32,.int .i64] fun B C D E F =>
 ct 112 [.agg #[vI B,vI C,vI D,.int .i32 E,vI F]] fun G =>
 cond (G==(0:Int))
 (T.ah (m.add 7) (yL 117) fun H I J K =>
 aX 86 [.agg #[.slice H I J,aH K],.agg #[bq,aH 0]] fun L =>
 T.ret (.bool L))
 bC))
 (cond (A==(11:Int))
 (T.ah ((m.add 2).add 3) [.int .i32] fun B =>
 cond (B==(0:Int))
 (T.ah z [.int .i64,.int .i64,.int .i64,.int .i32,.int .i64] fun C D E F G =>
 ct 112 [.agg #[vI C,vI D,vI E,.int .i32 F,vI G]] fun H =>
 cond (H==(0:Int))
 (T.ah (m.add 7) (yL 117) fun I J K L =>
 aX 61 [.agg #[.slice I J K,aH L]] fun M =>
 T.ret (.bool M))
 bC)
 bC)
 (T.ah z [.int .i64,.int .i64,.int .i64,.int .i32,.int .i64] fun B C D E F =>
 ct 112 [.agg #[vI B,vI C,vI D,.int .i32 E,vI F]] fun G =>
 cond (G==(0:Int))
 (T.ah (m.add 7) (yL 117) fun H I J K =>
 aX 86 [.agg #[.slice H I J,aH K],.agg #[bq,aH 0]] fun L =>
 T.ret (.bool L))
 bC))))))
def qD (a:Int) (b:Xaa) (c:Int) (d:Int) (e:Int) (f:Int) (g:Int) (h:Xac) (i j:Nat) (k:Int) (l:Int):bM Tryz.prog [] Tryz.f84 [.agg #[vI a,.string b,vI c,vI d,vI e,.int .i32 f,vI g,.slice h i j,.int .u32 k,vI l]]=mi a b c d e f g h i j k l:=az
def wy (a:Xac) (b c:Nat) (d:Xac) (e f:Nat) (g:Xac) (h i:Nat) (j:Xac) (k l:Nat):T :=
 T.new [.slice a b c,.slice d e f,.slice g h i,.slice j k l] 47 fun m =>
 T.ah m [.slice 71] fun n o p =>
 T.ah (m.add 1) [.slice 71] fun q r s =>
 cond (decide ((bm ((o:Int)+(r:Int)))>(8192:Int)))
 (T.ret (vI 4))
 (T.ah (m.add 2) [.slice 100] fun t u v =>
 cond (decide ((u:Int)>(8192:Int)))
 (T.ret (vI 4))
 (bU (Instr.makeMap 58 none) false [(false,[.map 0 0])] fun w =>
 T.ah m [.slice 71] fun x y z =>
 T.ah (m.add 1) [.slice 71] fun A B C =>
 bt (Instr.buildSlice 79 2 #[(0,.slice x y z),(1,.slice A B C)]) fun D E F =>
 T.loop [aP,aP] [vI 0,vI 0] fun G H =>
 bz H E
 (bf H E D fun I =>
 T.ah (I.add (aK H 1)) [.slice 71] fun J K L =>
 T.loop [aP,aP] [vI G,vI 0] fun M N =>
 bz N K
 (bf N K J fun O =>
 T.ah (O.add (aK N 10)) (yI 117) fun P Q R S U V W X Y Z a0 a1 =>
 T.new [vI 0,bX,vI 0,vI 0,vI 0,.int .i32 0,vI 0,bq,aH 0,vI 0] 71 fun a2 =>
 T.aC a2 [vI P,.string Q,vI R,vI S,vI U,.int .i32 V,vI W,.slice X Y Z,aH a0,vI a1] <|
 T.ah a2 (yI 117) fun a3 a4 a5 a6 a7 a8 a9 b0 b1 b2 b3 b4 =>
 ct 59 [.agg #[vI a3,.string a4,vI a5,vI a6,vI a7,.int .i32 a8,vI a9,.slice b0 b1 b2,aH b3,vI b4],vI H] fun b5 =>
 cond (b5 != (0:Int))
 (T.ret (vI 31))
 (T.ah a2 [.int .i64] fun b6 =>
 cond (b6==(1:Int))
 (T.ah (a2.add 1) [.string] fun b7 =>
 eA (Instr.lookup 58 (.map w) (.string b7) false) fun b8 =>
 cond b8
 (T.ret (vI 31))
 (T.ah a2 [.int .i64] fun b9 =>
 cond (b9==(1:Int))
 (T.ah (a2.add 1) [.string] fun c0 =>
 T.ey Tryz.prog (Instr.mapUpdate 58 (.map w) (.string c0) (.bool true)) <|
 T.again 1 [vI M,bg N])
 (T.again 1 [vI M,bg N])))
 (T.ah a2 [.int .i64] fun b7 =>
 cond (b7==(1:Int))
 (T.ah (a2.add 1) [.string] fun b8 =>
 T.ey Tryz.prog (Instr.mapUpdate 58 (.map w) (.string b8) (.bool true)) <|
 T.again 1 [vI M,bg N])
 (T.again 1 [vI M,bg N]))))
 (T.again 0 [vI M,bg H]))
 (T.ah (m.add 2) [.slice 100] fun I J K =>
 T.loop [aP,aP] [vI G,vI 0] fun L M =>
 bz M J
 (bf M J I fun N =>
 T.ah (N.add (aK M 3)) [.string,.slice 117,.int .u32] fun O P Q R S =>
 T.new [bX,bq,aH 0] 100 fun U =>
 T.aC U [.string O,.slice P Q R,aH S] <|
 T.ah U [.string] fun V =>
 eA (Instr.lookup 58 (.map w) (.string V) false) fun W =>
 cond W
 (T.ret (vI 31))
 (T.ah U [.string] fun X =>
 aX 60 [.string X] fun Y =>
 cond (!Y)
 (T.ret (vI 31))
 (T.ah (U.add 1) (yL 117) fun Z a0 a1 a2 =>
 aX 61 [.agg #[.slice Z a0 a1,aH a2]] fun a3 =>
 cond (!a3)
 (T.ret (vI 31))
 (T.ah U [.string] fun a4 =>
 T.ey Tryz.prog (Instr.mapUpdate 58 (.map w) (.string a4) (.bool true)) <|
 T.again 1 [vI L,bg M]))))
 (T.ah (m.add 3) [.slice 9] fun N O P =>
 T.loop [aP,aP] [vI L,vI 0] fun Q R =>
 bz R O
 (bf R O N fun S =>
 T.ah (S.add (aK R 1)) [.string] fun U =>
 eA (Instr.lookup 58 (.map w) (.string U) false) fun V =>
 cond (!V)
 (T.ret (vI 31))
 (cond (decide (R>(0:Int)))
 (T.ah (m.add 3) [.slice 9] fun W X Y =>
 T.need (((0:Int)<=(bm (R-(1:Int))))/\((bm (R-(1:Int)))<(X:Int))) <|
 T.bi W fun Z =>
 T.ah (Z.add ((Int.toNat (bm (R-(1:Int))))*1)) [.string] fun a0 =>
 cond ((Op.bytesLess (ByteArray.toList U) (ByteArray.toList a0)) || ((ByteArray.toList U)==(ByteArray.toList a0)))
 (T.ret (vI 31))
 (T.again 2 [vI Q,bg R]))
 (T.again 2 [vI Q,bg R])))
 (T.ret (vI 0))))))
def yV (a:Xac) (b c:Nat) (d:Xac) (e f:Nat) (g:Xac) (h i:Nat) (j:Xac) (k l:Nat):bM Tryz.prog [] Tryz.f30 [.agg #[.slice a b c,.slice d e f,.slice g h i,.slice j k l]]=wy a b c d e f g h i j k l:=az
end Go.Sx
