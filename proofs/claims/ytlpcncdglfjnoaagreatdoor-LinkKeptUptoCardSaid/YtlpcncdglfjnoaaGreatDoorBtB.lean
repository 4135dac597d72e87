/- Trees of functions. No condition. -/
import Derived.Test.YtlpcncdglfjnoaaGreatDoorSxF
import Derived.Test.YtlpcncdglfjnoaaGreatDoorProg
import Derived.KernelRfl
set_option linter.all false
set_option maxRecDepth 100000
set_option maxHeartbeats 4000000
namespace Go.Sx
open Go.Proofs
def FR (a:Int):T :=
 T.new [cm,.int .u8 0,vI 0] 165 fun b =>
 cond (decide (a<1))
 (T.ar b [cm,.int .u8 0,vI 0] <|
 T.af b [.string,.int .u8,.int .i64] fun c d e =>
 bK #[.agg #[.string c,.int .u8 d,vI e],.bool false])
 (cond (decide (a>43))
 (T.ar b [cm,.int .u8 0,vI 0] <|
 T.af b [.string,.int .u8,.int .i64] fun c d e =>
 bK #[.agg #[.string c,.int .u8 d,vI e],.bool false])
 (T.need ((0<=(bC (a-1)))/\((bC (a-1))<43)) <|
 T.af ((⟨0,0,none⟩:Xax).add ((Int.toNat (bC (a-1)))*3)) [.string,.int .u8,.int .i64] fun c d e =>
 T.ar b [.string c,.int .u8 d,vI e] <|
 T.af b [.string,.int .u8,.int .i64] fun f g h =>
 bK #[.agg #[.string f,.int .u8 g,vI h],.bool true]))
def Hk (a:Int):bS Xaz [] Tryz.f105 [vI a]=FR a:=aw
def zm (a:Int):T :=
 bz 105 [vI a] true [(true,[.string,.int .u8,.int .i64]),cr] fun b c d e =>
 T.new [cm,.int .u8 0,vI 0] 165 fun f =>
 T.ar f [.string b,.int .u8 c,vI d] <|
 T.af (f.add 2) [.int .i64] fun g =>
 cond (g==12)
 dZ
 (T.af (f.add 2) [.int .i64] fun h =>
 T.ret (.bool (h==13)))
def AL (a:Int):bS Xaz [] Tryz.f82 [vI a]=zm a:=aw
def yT (a b:Int):T :=
 cond (decide (a>=0))
 (T.ret (.bool (decide (a<b))))
 bH
def BS (a b:Int):bS Xaz [] Tryz.f142 [vI a,vI b]=yT a b:=aw
def uO (a b:Int):T :=
 cond (b==1)
 (T.ret (.bool (a==(IntKind.wrap .i32 (IntKind.wrap .i8 a)))))
 (cond (b==2)
 (T.ret (.bool (a==(IntKind.wrap .i32 (IntKind.wrap .i16 a)))))
 (T.ret (.bool (b==4))))
def yn (a b:Int):bS Xaz [] Tryz.f143 [.int .i32 a,vI b]=uO a b:=aw
def zu (a b c d e:Int):T :=
 T.new [vI a,vI b,vI c,.int .i32 d,vI e] 62 fun f =>
 T.af f [.int .i64] fun g =>
 bz 105 [vI g] true [(true,[.string,.int .u8,.int .i64]),cr] fun h i j k =>
 T.new [cm,.int .u8 0,vI 0] 165 fun l =>
 T.ar l [.string h,.int .u8 i,vI j] <|
 cond (!k)
 (T.ret (vI 11))
 (T.af f [.int .i64,.int .i64,.int .i64,.int .i32,.int .i64] fun m n o p q =>
 T.af (l.add 2) [.int .i64] fun r =>
 bd 127 [.agg #[vI m,vI n,vI o,.int .i32 p,vI q],vI r] fun s =>
 cond (!s)
 (T.ret (vI 12))
 (T.af f [.int .i64] fun t =>
 bd 82 [vI t] fun u =>
 cond (!u)
 (T.af (f.add 4) [.int .i64] fun v =>
 cond (v != 0)
 (T.ret (vI 13))
 (T.af f [.int .i64,.int .i64,.int .i64,.int .i32,.int .i64] fun w x y z A =>
 T.af (l.add 2) [.int .i64] fun B =>
 bd 128 [.agg #[vI w,vI x,vI y,.int .i32 z,vI A],vI B] fun C =>
 cond (!C)
 (T.ret (vI 13))
 (T.ret (vI 0))))
 (T.af f [.int .i64,.int .i64,.int .i64,.int .i32,.int .i64] fun v w x y z =>
 T.af (l.add 2) [.int .i64] fun A =>
 bd 128 [.agg #[vI v,vI w,vI x,.int .i32 y,vI z],vI A] fun B =>
 cond (!B)
 (T.ret (vI 13))
 (T.ret (vI 0)))))
def Bd (a b c d e:Int):bS Xaz [] Tryz.f118 [.agg #[vI a,vI b,vI c,.int .i32 d,vI e]]=zu a b c d e:=aw
def xh (a:Int):T :=
 cond (decide (a>=1))
 (cond (decide (a<=256))
 (T.ret (.bool ((bC (((BitVec.toNat ((BitVec.ofInt 64 a) &&& (BitVec.ofInt 64 (bC (a-1))))):Nat):Int))==0)))
 bH)
 bH
def zQ (a:Int):bS Xaz [] Tryz.f100 [vI a]=xh a:=aw
def ni (a:Int) (b:Xaa) (c d e f g:Int) (h:Xac) (i j:Nat) (k l:Int):T :=
 T.new [vI a,.string b,vI c,vI d,vI e,.int .i32 f,vI g,.slice h i j,ax k,vI l] 64 fun m =>
 T.af (m.add 2) [.int .i64] fun n =>
 bz 105 [vI n] true [(true,[.string,.int .u8,.int .i64]),cr] fun o p q r =>
 T.new [cm,.int .u8 0,vI 0] 165 fun s =>
 T.ar s [.string o,.int .u8 p,vI q] <|
 cond (!r)
 bH
 (T.af ((m.add 2).add 4) [.int .i64] fun t =>
 cond (t != 0)
 bH
 (T.af (m.add 2) [.int .i64,.int .i64,.int .i64,.int .i32,.int .i64] fun u v w x y =>
 T.new [vI 0,vI 0,vI 0,.int .i32 0,vI 0] 62 fun z =>
 T.ar z [vI u,vI v,vI w,.int .i32 x,vI y] <|
 T.af (s.add 2) [.int .i64] fun A =>
 cond (A==12)
 (cond (A==12)
 (T.ar (z.add 4) [vI 1] <|
 T.af ((m.add 2).add 3) [.int .i32] fun B =>
 cond (B==0)
 (T.af z [.int .i64,.int .i64,.int .i64,.int .i32,.int .i64] fun C D E F G =>
 dl 118 [.agg #[vI C,vI D,vI E,.int .i32 F,vI G]] fun H =>
 cond (H==0)
 (T.af (m.add 7) (yL 66) fun I J K L =>
 bd 80 [.agg #[.slice I J K,ax L]] fun M =>
 T.ret (.bool M))
 bH)
 bH)
 (cond (A==10)
 (cond (A==10)
 (T.af ((m.add 2).add 3) [.int .i32] fun B =>
 cond (B==0)
 (T.af z [.int .i64,.int .i64,.int .i64,.int .i32,.int .i64] fun C D E F G =>
 dl 118 [.agg #[vI C,vI D,vI E,.int .i32 F,vI G]] fun H =>
 cond (H==0)
 (T.af (m.add 7) (yL 66) fun I J K L =>
 bd 80 [.agg #[.slice I J K,ax L]] fun M =>
 T.ret (.bool M))
 bH)
 bH)
 (T.af z [.int .i64,.int .i64,.int .i64,.int .i32,.int .i64] fun B C D E F =>
 dl 118 [.agg #[vI B,vI C,vI D,.int .i32 E,vI F]] fun G =>
 cond (G==0)
 (T.af (m.add 7) (yL 66) fun H I J K =>
 bd 101 [.agg #[.slice H I J,ax K],.agg #[aS,ax 0]] fun L =>
 T.ret (.bool L))
 bH))
 (cond (A==11)
 (T.af ((m.add 2).add 3) [.int .i32] fun B =>
 cond (B==0)
 (T.af z [.int .i64,.int .i64,.int .i64,.int .i32,.int .i64] fun C D E F G =>
 dl 118 [.agg #[vI C,vI D,vI E,.int .i32 F,vI G]] fun H =>
 cond (H==0)
 (T.af (m.add 7) (yL 66) fun I J K L =>
 bd 80 [.agg #[.slice I J K,ax L]] fun M =>
 T.ret (.bool M))
 bH)
 bH)
 (T.af z [.int .i64,.int .i64,.int .i64,.int .i32,.int .i64] fun B C D E F =>
 dl 118 [.agg #[vI B,vI C,vI D,.int .i32 E,vI F]] fun G =>
 cond (G==0)
 (T.af (m.add 7) (yL 66) fun H I J K =>
 bd 101 [.agg #[.slice H I J,ax K],.agg #[aS,ax 0]] fun L =>
 T.ret (.bool L))
 bH))))
 (cond (A==13)
 (T.ar (z.add 4) [vI 1] <|
 T.af ((m.add 2).add 3) [.int .i32] fun B =>
 cond (B==0)
 (T.af z [.int .i64,.int .i64,.int .i64,.int .i32,.int .i64] fun C D E F G =>
 dl 118 [.agg #[vI C,vI D,vI E,.int .i32 F,vI G]] fun H =>
 cond (H==0)
 (T.af (m.add 7) (yL 66) fun I J K L =>
 bd 80 [.agg #[.slice I J K,ax L]] fun M =>
 T.ret (.bool M))
 bH)
 bH)
 (cond (A==10)
 (cond (A==10)
 (T.af ((m.add 2).add 3) [.int .i32] fun B =>
 cond (B==0)
 (T.af z [.int .i64,.int .i64,.int .i64,.int .i32,.int .i64] fun C D E F G =>
 dl 118 [.agg #[vI C,vI D,vI E,.int .i32 F,vI G]] fun H =>
 cond (H==0)
 (T.af (m.add 7) (yL 66) fun I J K L =>
 bd 80 [.agg #[.slice I J K,ax L]] fun M =>
 T.ret (.bool M))
 bH)
 bH)
 (T.af z [.int .i64,.int .i64,.int .i64,.int .i32,.int .i64] fun B C D E F =>
 dl 118 [.agg #[vI B,vI C,vI D,.int .i32 E,vI F]] fun G =>
 cond (G==0)
 (T.af (m.add 7) (yL 66) fun H I J K =>
 bd 101 [.agg #[.slice H I J,ax K],.agg #[aS,ax 0]] fun L =>
 T.ret (.bool L))
 bH))
 (cond (A==11)
 (T.af ((m.add 2).add 3) [.int .i32] fun B =>
 cond (B==0)
 (T.af z [.int .i64,.int .i64,.int .i64,.int .i32,.int .i64] fun C D E F G =>
 dl 118 [.agg #[vI C,vI D,vI E,.int .i32 F,vI G]] fun H =>
 cond (H==0)
 (T.af (m.add 7) (yL 66) fun I J K L =>
 bd 80 [.agg #[.slice I J K,ax L]] fun M =>
 T.ret (.bool M))
 bH)
 bH)
 (T.af z [.int .i64,.int .i64,.int .i64,.int .i32,.int .i64] fun B C D E F =>
 dl 118 [.agg #[vI B,vI C,vI D,.int .i32 E,vI F]] fun G =>
 cond (G==0)
 (T.af (m.add 7) (yL 66) fun H I J K =>
 bd 101 [.agg #[.slice H I J,ax K],.agg #[aS,ax 0]] fun L =>
 T.ret (.bool L))
 bH))))))
def rL (a:Int) (b:Xaa) (c d e f g:Int) (h:Xac) (i j:Nat) (k l:Int):bS Xaz [] Tryz.f99 [.agg #[vI a,.string b,vI c,vI d,vI e,.int .i32 f,vI g,.slice h i j,.int .u32 k,vI l]]=ni a b c d e f g h i j k l:=aw
def xJ (a:Xac) (b c:Nat) (d:Xac) (e f:Nat) (g:Xac) (h i:Nat) (j:Xac) (k l:Nat):T :=
 T.new [.slice a b c,.slice d e f,.slice g h i,.slice j k l] 30 fun m =>
 T.af m [.slice 64] fun n o p =>
 T.af (m.add 1) [.slice 64] fun q r s =>
 cond (decide ((bC ((o:Int)+(r:Int)))>8192))
 (T.ret (vI 4))
 (T.af (m.add 2) [.slice 88] fun t u v =>
 cond (decide ((u:Int)>8192))
 (T.ret (vI 4))
 (bX (Instr.makeMap 142 none) false [(false,[.map 0 0])] fun w =>
 T.af m [.slice 64] fun x y z =>
 T.af (m.add 1) [.slice 64] fun A B C =>
 aT (Instr.buildSlice 68 2 #[(0,.slice x y z),(1,.slice A B C)]) fun D E F =>
 T.loop [aK,aK] [vI 0,vI 0] fun G H =>
 bn H E
 (aY H E D fun I =>
 T.af (I.add (ay H 1)) [.slice 64] fun J K L =>
 T.loop [aK,aK] [vI G,vI 0] fun M N =>
 bn N K
 (aY N K J fun O =>
 T.af (O.add (ay N 10)) (yI 66) fun P Q R S U V W X Y Z a0 a1 =>
 T.new [vI 0,cm,vI 0,vI 0,vI 0,.int .i32 0,vI 0,aS,ax 0,vI 0] 64 fun a2 =>
 T.ar a2 [vI P,.string Q,vI R,vI S,vI U,.int .i32 V,vI W,.slice X Y Z,ax a0,vI a1] <|
 T.af a2 (yI 66) fun a3 a4 a5 a6 a7 a8 a9 b0 b1 b2 b3 b4 =>
 dl 78 [.agg #[vI a3,.string a4,vI a5,vI a6,vI a7,.int .i32 a8,vI a9,.slice b0 b1 b2,ax b3,vI b4],vI H] fun b5 =>
 cond (b5 != 0)
 (T.ret (vI 31))
 (T.af a2 [.int .i64] fun b6 =>
 cond (b6==1)
 (T.af (a2.add 1) [.string] fun b7 =>
 ei (Instr.lookup 142 (.map w) (.string b7) false) fun b8 =>
 cond b8
 (T.ret (vI 31))
 (T.af a2 [.int .i64] fun b9 =>
 cond (b9==1)
 (T.af (a2.add 1) [.string] fun c0 =>
 T.eV Xaz (Instr.mapUpdate 142 (.map w) (.string c0) (.bool true)) <|
 T.again 1 [vI M,bj N])
 (T.again 1 [vI M,bj N])))
 (T.af a2 [.int .i64] fun b7 =>
 cond (b7==1)
 (T.af (a2.add 1) [.string] fun b8 =>
 T.eV Xaz (Instr.mapUpdate 142 (.map w) (.string b8) (.bool true)) <|
 T.again 1 [vI M,bj N])
 (T.again 1 [vI M,bj N]))))
 (T.again 0 [vI M,bj H]))
 (T.af (m.add 2) [.slice 88] fun I J K =>
 T.loop [aK,aK] [vI G,vI 0] fun L M =>
 bn M J
 (aY M J I fun N =>
 T.af (N.add (ay M 3)) [.string,.slice 66,.int .u32] fun O P Q R S =>
 T.new [cm,aS,ax 0] 88 fun U =>
 T.ar U [.string O,.slice P Q R,ax S] <|
 T.af U [.string] fun V =>
 ei (Instr.lookup 142 (.map w) (.string V) false) fun W =>
 cond W
 (T.ret (vI 31))
 (T.af U [.string] fun X =>
 bd 79 [.string X] fun Y =>
 cond (!Y)
 (T.ret (vI 31))
 (T.af (U.add 1) (yL 66) fun Z a0 a1 a2 =>
 bd 80 [.agg #[.slice Z a0 a1,ax a2]] fun a3 =>
 cond (!a3)
 (T.ret (vI 31))
 (T.af U [.string] fun a4 =>
 T.eV Xaz (Instr.mapUpdate 142 (.map w) (.string a4) (.bool true)) <|
 T.again 1 [vI L,bj M]))))
 (T.af (m.add 3) [.slice 9] fun N O P =>
 T.loop [aK,aK] [vI L,vI 0] fun Q R =>
 bn R O
 (aY R O N fun S =>
 T.af (S.add (ay R 1)) [.string] fun U =>
 ei (Instr.lookup 142 (.map w) (.string U) false) fun V =>
 cond (!V)
 (T.ret (vI 31))
 (cond (decide (R>0))
 (T.af (m.add 3) [.slice 9] fun W X Y =>
 T.need ((0<=(bC (R-1)))/\((bC (R-1))<(X:Int))) <|
 T.aR W fun Z =>
 T.af (Z.add ((Int.toNat (bC (R-1)))*1)) [.string] fun a0 =>
 cond ((Op.bytesLess (ByteArray.toList U) (ByteArray.toList a0)) || ((ByteArray.toList U)==(ByteArray.toList a0)))
 (T.ret (vI 31))
 (T.again 2 [vI Q,bj R]))
 (T.again 2 [vI Q,bj R])))
 (T.ret (vI 0))))))
def zY (a:Xac) (b c:Nat) (d:Xac) (e f:Nat) (g:Xac) (h i:Nat) (j:Xac) (k l:Nat):bS Xaz [] Tryz.f42 [.agg #[.slice a b c,.slice d e f,.slice g h i,.slice j k l]]=xJ a b c d e f g h i j k l:=aw
end Go.Sx
