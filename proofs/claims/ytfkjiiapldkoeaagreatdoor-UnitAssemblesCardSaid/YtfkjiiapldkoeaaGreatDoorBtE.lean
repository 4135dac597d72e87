/- Trees of functions. No condition. -/
import Derived.Test.YtfkjiiapldkoeaaGreatDoorSxF
import Derived.Test.YtfkjiiapldkoeaaGreatDoorProg
import Derived.KernelRfl
set_option linter.all false
set_option maxRecDepth 100000
set_option maxHeartbeats 4000000
namespace Go.Sx
open Go.Proofs
def BT (a:Int):T :=
 T.new [bh,.int .u8 0,vI 0] 158 fun b =>
 cond (decide (a<(1:Int)))
 (T.ak b [bh,.int .u8 0,vI 0] <|
 T.ah b [.string,.int .u8,.int .i64] fun c d e =>
 aw #[.agg #[.string c,.int .u8 d,vI e],.bool false])
 (cond (decide (a>(43:Int)))
 (T.ak b [bh,.int .u8 0,vI 0] <|
 T.ah b [.string,.int .u8,.int .i64] fun c d e =>
 aw #[.agg #[.string c,.int .u8 d,vI e],.bool false])
 (T.need (((0:Int)<=(aH (a-(1:Int))))/\((aH (a-(1:Int)))<(43:Int))) <|
 T.ah ((⟨1,0,none⟩:XC).add ((Int.toNat (aH (a-(1:Int))))*3)) [.string,.int .u8,.int .i64] fun c d e =>
 T.ak b [.string c,.int .u8 d,vI e] <|
 T.ah b [.string,.int .u8,.int .i64] fun f g h =>
 aw #[.agg #[.string f,.int .u8 g,vI h],.bool true]))
def C8 (a:Int):bD Tryz.prog [] Tryz.f90 [vI a]=BT a:=aB
def vV (a:Int):T :=
 aS 90 [vI a] true [(true,[.string,.int .u8,.int .i64]),bZ] fun b c d e =>
 T.new [bh,.int .u8 0,vI 0] 158 fun f =>
 T.ak f [.string b,.int .u8 c,vI d] <|
 T.ah (f.add 2) [.int .i64] fun g =>
 cond (g==(12:Int))
 pj
 (T.ah (f.add 2) [.int .i64] fun h =>
 T.ret (.bool (h==(13:Int))))
def xB (a:Int):bD Tryz.prog [] Tryz.f51 [vI a]=vV a:=aB
def vK (a:Int) (b:Int):T :=
 cond (decide (a>=(0:Int)))
 (T.ret (.bool (decide (a<b))))
 bE
def yA (a:Int) (b:Int):bD Tryz.prog [] Tryz.f172 [vI a,vI b]=vK a b:=aB
def rW (a:Int) (b:Int):T :=
 cond (b==(1:Int))
 (T.ret (.bool (a==(IntKind.wrap .i32 (IntKind.wrap .i8 a)))))
 (cond (b==(2:Int))
 (T.ret (.bool (a==(IntKind.wrap .i32 (IntKind.wrap .i16 a)))))
 (T.ret (.bool (b==(4:Int)))))
def u' (a:Int) (b:Int):bD Tryz.prog [] Tryz.f173 [.int .i32 a,vI b]=rW a b:=aB
def wc (a:Int) (b:Int) (c:Int) (d:Int) (e:Int):T :=
 T.new [vI a,vI b,vI c,.int .i32 d,vI e] 90 fun f =>
 T.ah f [.int .i64] fun g =>
 aS 90 [vI g] true [(true,[.string,.int .u8,.int .i64]),bZ] fun h i j k =>
 T.new [bh,.int .u8 0,vI 0] 158 fun l =>
 T.ak l [.string h,.int .u8 i,vI j] <|
 cond (!k)
 (T.ret (vI 11))
 (T.ah f [.int .i64,.int .i64,.int .i64,.int .i32,.int .i64] fun m n o p q =>
 T.ah (l.add 2) [.int .i64] fun r =>
 aN 143 [.agg #[vI m,vI n,vI o,.int .i32 p,vI q],vI r] fun s =>
 cond (!s)
 (T.ret (vI 12))
 (T.ah f [.int .i64] fun t =>
 aN 51 [vI t] fun u =>
 cond (!u)
 (T.ah (f.add 4) [.int .i64] fun v =>
 cond (v != (0:Int))
 (T.ret (vI 13))
 (T.ah f [.int .i64,.int .i64,.int .i64,.int .i32,.int .i64] fun w x y z A =>
 T.ah (l.add 2) [.int .i64] fun B =>
 aN 144 [.agg #[vI w,vI x,vI y,.int .i32 z,vI A],vI B] fun C =>
 cond (!C)
 (T.ret (vI 13))
 (T.ret (vI 0))))
 (T.ah f [.int .i64,.int .i64,.int .i64,.int .i32,.int .i64] fun v w x y z =>
 T.ah (l.add 2) [.int .i64] fun A =>
 aN 144 [.agg #[vI v,vI w,vI x,.int .i32 y,vI z],vI A] fun B =>
 cond (!B)
 (T.ret (vI 13))
 (T.ret (vI 0)))))
def xZ (a:Int) (b:Int) (c:Int) (d:Int) (e:Int):bD Tryz.prog [] Tryz.f116 [.agg #[vI a,vI b,vI c,.int .i32 d,vI e]]=wc a b c d e:=aB
def ug (a:Int):T :=
 cond (decide (a>=(1:Int)))
 (cond (decide (a<=(256:Int)))
 (T.ret (.bool ((aH (((BitVec.toNat ((BitVec.ofInt 64 a) &&& (BitVec.ofInt 64 (aH (a-(1:Int)))))):Nat):Int))==(0:Int))))
 bE)
 bE
def wG (a:Int):bD Tryz.prog [] Tryz.f79 [vI a]=ug a:=aB
def kW (a:Int) (b:XA) (c:Int) (d:Int) (e:Int) (f:Int) (g:Int) (h:Option XC) (i j:Nat) (k:Int) (l:Int):T :=
 T.new [vI a,.string b,vI c,vI d,vI e,.int .i32 f,vI g,.slice h i j,av k,vI l] 96 fun m =>
 T.ah (m.add 2) [.int .i64] fun n =>
 aS 90 [vI n] true [(true,[.string,.int .u8,.int .i64]),bZ] fun o p q r =>
 T.new [bh,.int .u8 0,vI 0] 158 fun s =>
 T.ak s [.string o,.int .u8 p,vI q] <|
 cond (!r)
 bE
 (T.ah ((m.add 2).add 4) [.int .i64] fun t =>
 cond (t != (0:Int))
 bE
 (T.ah (m.add 2) [.int .i64,.int .i64,.int .i64,.int .i32,.int .i64] fun u v w x y =>
 T.new [vI 0,vI 0,vI 0,.int .i32 0,vI 0] 90 fun z =>
 T.ak z [vI u,vI v,vI w,.int .i32 x,vI y] <|
 T.ah (s.add 2) [.int .i64] fun A =>
 cond (A==(12:Int))
 (cond (A==(12:Int))
 (T.ak (z.add 4) [vI 1] <|
 T.ah ((m.add 2).add 3) [.int .i32] fun B =>
 cond (B==(0:Int))
 (T.ah z [.int .i64,.int .i64,.int .i64,.int .i32,.int .i64] fun C D E F G =>
 cU 116 [.agg #[vI C,vI D,vI E,.int .i32 F,vI G]] fun H =>
 cond (H==(0:Int))
 (T.ah (m.add 7) (yL 109) fun I J K L =>
 aN 46 [.agg #[.slice I J K,av L]] fun M =>
 T.ret (.bool M))
 bE)
 bE)
 (cond (A==(10:Int))
 (cond (A==(10:Int))
 (T.ah ((m.add 2).add 3) [.int .i32] fun B =>
 cond (B==(0:Int))
 (T.ah z [.int .i64,.int .i64,.int .i64,.int .i32,.int .i64] fun C D E F G =>
 cU 116 [.agg #[vI C,vI D,vI E,.int .i32 F,vI G]] fun H =>
 cond (H==(0:Int))
 (T.ah (m.add 7) (yL 109) fun I J K L =>
 aN 46 [.agg #[.slice I J K,av L]] fun M =>
 T.ret (.bool M))
 bE)
 bE)
 (T.ah z [.int .i64,.int .i64,.int .i64,.int .i32,.int .i64] fun B C D E F =>
 cU 116 [.agg #[vI B,vI C,vI D,.int .i32 E,vI F]] fun G =>
 cond (G==(0:Int))
 (T.ah (m.add 7) (yL 109) fun H I J K =>
 aN 80 [.agg #[.slice H I J,av K],.agg #[aI,av 0]] fun L =>
 T.ret (.bool L))
 bE))
 (cond (A==(11:Int))
 (T.ah ((m.add 2).add 3) [.int .i32] fun B =>
 cond (B==(0:Int))
 (T.ah z [.int .i64,.int .i64,.int .i64,.int .i32,.int .i64] fun C D E F G =>
 cU 116 [.agg #[vI C,vI D,vI E,.int .i32 F,vI G]] fun H =>
 cond (H==(0:Int))
 (T.ah (m.add 7) (yL 109) fun I J K L =>
 aN 46 [.agg #[.slice I J K,av L]] fun M =>
 T.ret (.bool M))
 bE)
 bE)
 (T.ah z [.int .i64,.int .i64,.int .i64,.int .i32,.int .i64] fun B C D E F =>
 cU 116 [.agg #[vI B,vI C,vI D,.int .i32 E,vI F]] fun G =>
 cond (G==(0:Int))
 (T.ah (m.add 7) (yL 109) fun H I J K =>
 aN 80 [.agg #[.slice H I J,av K],.agg #[aI,av 0]] fun L =>
 T.ret (.bool L))
 bE))))
 (cond (A==(13:Int))
 (T.ak (z.add 4) [vI 1] <|
 T.ah ((m.add 2).add 3) [.int .i32] fun B =>
 cond (B==(0:Int))
 (T.ah z [.int .i64,.int .i64,.int .i64,.int .i32,.int .i64] fun C D E F G =>
 cU 116 [.agg #[vI C,vI D,vI E,.int .i32 F,vI G]] fun H =>
 cond (H==(0:Int))
 (T.ah (m.add 7) (yL 109) fun I J K L =>
 aN 46 [.agg #[.slice I J K,av L]] fun M =>
 T.ret (.bool M))
 bE)
 bE)
 (cond (A==(10:Int))
 (cond (A==(10:Int))
 (T.ah ((m.add 2).add 3) [.int .i32] fun B =>
 cond (B==(0:Int))
 (T.ah z [.int .i64,.int .i64,.int .i64,.int .i32,.int .i64] fun C D E F G =>
 cU 116 [.agg #[vI C,vI D,vI E,.int .i32 F,vI G]] fun H =>
 cond (H==(0:Int))
 (T.ah (m.add 7) (yL 109) fun I J K L =>
 aN 46 [.agg #[.slice I J K,av L]] fun M =>
 T.ret (.bool M))
 bE)
 bE)
 (T.ah z [.int .i64,.int .i64,.int .i64,.int .i32,.int .i64] fun B C D E F =>
 cU 116 [.agg #[vI B,vI C,vI D,.int .i32 E,vI F]] fun G =>
 cond (G==(0:Int))
 (T.ah (m.add 7) (yL 109) fun H I J K =>
 aN 80 [.agg #[.slice H I J,av K],.agg #[aI,av 0]] fun L =>
 T.ret (.bool L))
 bE))
 (cond (A==(11:Int))
 (T.ah ((m.add 2).add 3) [.int .i32] fun B =>
 cond (B==(0:Int))
 (T.ah z [.int .i64,.int .i64,.int .i64,.int .i32,.int .i64] fun C D E F G =>
 cU 116 [.agg #[vI C,vI D,vI E,.int .i32 F,vI G]] fun H =>
 cond (H==(0:Int))
 (T.ah (m.add 7) (yL 109) fun I J K L =>
 aN 46 [.agg #[.slice I J K,av L]] fun M =>
 T.ret (.bool M))
 bE)
 bE)
 (T.ah z [.int .i64,.int .i64,.int .i64,.int .i32,.int .i64] fun B C D E F =>
 cU 116 [.agg #[vI B,vI C,vI D,.int .i32 E,vI F]] fun G =>
 cond (G==(0:Int))
 (T.ah (m.add 7) (yL 109) fun H I J K =>
 aN 80 [.agg #[.slice H I J,av K],.agg #[aI,av 0]] fun L =>
 T.ret (.bool L))
 bE))))))
def py (a:Int) (b:XA) (c:Int) (d:Int) (e:Int) (f:Int) (g:Int) (h:Option XC) (i j:Nat) (k:Int) (l:Int):bD Tryz.prog [] Tryz.f78 [.agg #[vI a,.string b,vI c,vI d,vI e,.int .i32 f,vI g,.slice h i j,.int .u32 k,vI l]]=kW a b c d e f g h i j k l:=aB
def uH (a:Option XC) (b c:Nat) (d:Option XC) (e f:Nat) (g:Option XC) (h i:Nat) (j:Option XC) (k l:Nat):T :=
 T.new [.slice a b c,.slice d e f,.slice g h i,.slice j k l] 27 fun m =>
 T.ah m [.slice 96] fun n o p =>
 T.ah (m.add 1) [.slice 96] fun q r s =>
 cond (decide ((aH ((o:Int)+(r:Int)))>(8192:Int)))
 (T.ret (vI 4))
 (T.ah (m.add 2) [.slice 99] fun t u v =>
 cond (decide ((u:Int)>(8192:Int)))
 (T.ret (vI 4))
 (dh (Instr.makeMap 70 none) false [(false,[.map 0 0])] fun w =>
 T.ah m [.slice 96] fun x y z =>
 T.ah (m.add 1) [.slice 96] fun A B C =>
 aR (Instr.buildSlice 100 2 #[(0,.slice x y z),(1,.slice A B C)]) fun D E F =>
 T.loop [aQ,aQ] [vI 0,vI 0] fun G H =>
 dH H E
 (cv H E D fun I =>
 T.ah (I.add (bW H 1)) [.slice 96] fun J K L =>
 T.loop [aQ,aQ] [vI G,vI 0] fun M N =>
 dH N K
 (cv N K J fun O =>
 T.ah (O.add (bW N 10)) (yI 109) fun P Q R S U V W X Y Z a0 a1 =>
 T.new [vI 0,bh,vI 0,vI 0,vI 0,.int .i32 0,vI 0,aI,av 0,vI 0] 96 fun a2 =>
 T.ak a2 [vI P,.string Q,vI R,vI S,vI U,.int .i32 V,vI W,.slice X Y Z,av a0,vI a1] <|
 T.ah a2 (yI 109) fun a3 a4 a5 a6 a7 a8 a9 b0 b1 b2 b3 b4 =>
 cU 44 [.agg #[vI a3,.string a4,vI a5,vI a6,vI a7,.int .i32 a8,vI a9,.slice b0 b1 b2,av b3,vI b4],vI H] fun b5 =>
 cond (b5 != (0:Int))
 (T.ret (vI 31))
 (T.ah a2 [.int .i64] fun b6 =>
 cond (b6==(1:Int))
 (T.ah (a2.add 1) [.string] fun b7 =>
 bR (Instr.lookup 70 (.map w) (.string b7) false) fun b8 =>
 cond b8
 (T.ret (vI 31))
 (T.ah a2 [.int .i64] fun b9 =>
 cond (b9==(1:Int))
 (T.ah (a2.add 1) [.string] fun c0 =>
 T.pB Tryz.prog (Instr.mapUpdate 70 (.map w) (.string c0) (.bool true)) <|
 T.again 1 [vI M,bN N])
 (T.again 1 [vI M,bN N])))
 (T.ah a2 [.int .i64] fun b7 =>
 cond (b7==(1:Int))
 (T.ah (a2.add 1) [.string] fun b8 =>
 T.pB Tryz.prog (Instr.mapUpdate 70 (.map w) (.string b8) (.bool true)) <|
 T.again 1 [vI M,bN N])
 (T.again 1 [vI M,bN N]))))
 (T.again 0 [vI M,bN H]))
 (T.ah (m.add 2) [.slice 99] fun I J K =>
 T.loop [aQ,aQ] [vI G,vI 0] fun L M =>
 dH M J
 (cv M J I fun N =>
 T.ah (N.add (bW M 3)) [.string,.slice 109,.int .u32] fun O P Q R S =>
 T.new [bh,aI,av 0] 99 fun U =>
 T.ak U [.string O,.slice P Q R,av S] <|
 T.ah U [.string] fun V =>
 bR (Instr.lookup 70 (.map w) (.string V) false) fun W =>
 cond W
 (T.ret (vI 31))
 (T.ah U [.string] fun X =>
 aN 45 [.string X] fun Y =>
 cond (!Y)
 (T.ret (vI 31))
 (T.ah (U.add 1) (yL 109) fun Z a0 a1 a2 =>
 aN 46 [.agg #[.slice Z a0 a1,av a2]] fun a3 =>
 cond (!a3)
 (T.ret (vI 31))
 (T.ah U [.string] fun a4 =>
 T.pB Tryz.prog (Instr.mapUpdate 70 (.map w) (.string a4) (.bool true)) <|
 T.again 1 [vI L,bN M]))))
 (T.ah (m.add 3) [.slice 9] fun N O P =>
 T.loop [aQ,aQ] [vI L,vI 0] fun Q R =>
 dH R O
 (cv R O N fun S =>
 T.ah (S.add (bW R 1)) [.string] fun U =>
 bR (Instr.lookup 70 (.map w) (.string U) false) fun V =>
 cond (!V)
 (T.ret (vI 31))
 (cond (decide (R>(0:Int)))
 (T.ah (m.add 3) [.slice 9] fun W X Y =>
 T.need (((0:Int)<=(aH (R-(1:Int))))/\((aH (R-(1:Int)))<(X:Int))) <|
 T.aA W fun Z =>
 T.ah (Z.add ((Int.toNat (aH (R-(1:Int))))*1)) [.string] fun a0 =>
 cond ((Op.bytesLess (ByteArray.toList U) (ByteArray.toList a0)) || ((ByteArray.toList U)==(ByteArray.toList a0)))
 (T.ret (vI 31))
 (T.again 2 [vI Q,bN R]))
 (T.again 2 [vI Q,bN R])))
 (T.ret (vI 0))))))
def wN (a:Option XC) (b c:Nat) (d:Option XC) (e f:Nat) (g:Option XC) (h i:Nat) (j:Option XC) (k l:Nat):bD Tryz.prog [] Tryz.f18 [.agg #[.slice a b c,.slice d e f,.slice g h i,.slice j k l]]=uH a b c d e f g h i j k l:=aB
end Go.Sx
