/- Trees of functions, each checked by the kernel against the code. No condition. -/
import Derived.Test.YtlpcncdglfjnoaaGreatDoorSxF
import Derived.Test.YtlpcncdglfjnoaaGreatDoorProg
import Derived.KernelRfl
set_option linter.all false
set_option maxRecDepth 100000
set_option maxHeartbeats 4000000
namespace Go.Sx
open Go.Proofs
def DZ (a:Int):T :=
 T.new [bS,.int .u8 0,vI 0] 165 fun b =>
 cond (decide (a<(1:Int)))
 (T.aC b [bS,.int .u8 0,vI 0] <|
 T.ah b [.string,.int .u8,.int .i64] fun c d e =>
 T.ret (.tuple #[.agg #[.string c,.int .u8 d,vI e],.bool false]))
 (cond (decide (a>(43:Int)))
 (T.aC b [bS,.int .u8 0,vI 0] <|
 T.ah b [.string,.int .u8,.int .i64] fun c d e =>
 T.ret (.tuple #[.agg #[.string c,.int .u8 d,vI e],.bool false]))
 (T.need (((0:Int)<=(bi (a-(1:Int))))/\((bi (a-(1:Int)))<(43:Int))) <|
 T.ah ((⟨0,0,none⟩:ZC).add ((Int.toNat (bi (a-(1:Int))))*3)) [.string,.int .u8,.int .i64] fun c d e =>
 T.aC b [.string c,.int .u8 d,vI e] <|
 T.ah b [.string,.int .u8,.int .i64] fun f g h =>
 T.ret (.tuple #[.agg #[.string f,.int .u8 g,vI h],.bool true])))
theorem Fh (a:Int):bI Tryz.prog [] Tryz.f105 [vI a]=DZ a:=ax
def xt (a:Int):T :=
 bG 105 [vI a] true [(true,[.string,.int .u8,.int .i64]),cd] fun b c d e =>
 T.new [bS,.int .u8 0,vI 0] 165 fun f =>
 T.aC f [.string b,.int .u8 c,vI d] <|
 T.ah (f.add 2) [.int .i64] fun g =>
 cond (g==(12:Int))
 dH
 (T.ah (f.add 2) [.int .i64] fun h =>
 T.ret (.bool (h==(13:Int))))
theorem yY (a:Int):bI Tryz.prog [] Tryz.f82 [vI a]=xt a:=ax
def xJ (a:Int) (b:Int):T :=
 cond (decide (a>=(0:Int)))
 (T.ret (.bool (decide (a<b))))
 bt
theorem Ag (a:Int) (b:Int):bI Tryz.prog [] Tryz.f142 [vI a,vI b]=xJ a b:=ax
def sP (a:Int) (b:Int):T :=
 cond (b==(1:Int))
 (T.ret (.bool (a==(IntKind.wrap .i32 (IntKind.wrap .i8 a)))))
 (cond (b==(2:Int))
 (T.ret (.bool (a==(IntKind.wrap .i32 (IntKind.wrap .i16 a)))))
 (T.ret (.bool (b==(4:Int)))))
theorem wU (a:Int) (b:Int):bI Tryz.prog [] Tryz.f143 [.int .i32 a,vI b]=sP a b:=ax
def xC (a:Int) (b:Int) (c:Int) (d:Int) (e:Int):T :=
 T.new [vI a,vI b,vI c,.int .i32 d,vI e] 62 fun f =>
 T.ah f [.int .i64] fun g =>
 bG 105 [vI g] true [(true,[.string,.int .u8,.int .i64]),cd] fun h i j k =>
 T.new [bS,.int .u8 0,vI 0] 165 fun l =>
 T.aC l [.string h,.int .u8 i,vI j] <|
 cond (!k)
 (T.ret (vI 11))
 (T.ah f [.int .i64,.int .i64,.int .i64,.int .i32,.int .i64] fun m n o p q =>
 T.ah (l.add 2) [.int .i64] fun r =>
 aU 127 [.agg #[vI m,vI n,vI o,.int .i32 p,vI q],vI r] fun s =>
 cond (!s)
 (T.ret (vI 12))
 (T.ah f [.int .i64] fun t =>
 aU 82 [vI t] fun u =>
 cond (!u)
 (T.ah (f.add 4) [.int .i64] fun v =>
 cond (v != (0:Int))
 (T.ret (vI 13))
 (T.ah f [.int .i64,.int .i64,.int .i64,.int .i32,.int .i64] fun w x y z A =>
 T.ah (l.add 2) [.int .i64] fun B =>
 aU 128 [.agg #[vI w,vI x,vI y,.int .i32 z,vI A],vI B] fun C =>
 cond (!C)
 (T.ret (vI 13))
 (T.ret (vI 0))))
 (T.ah f [.int .i64,.int .i64,.int .i64,.int .i32,.int .i64] fun v w x y z =>
 T.ah (l.add 2) [.int .i64] fun A =>
 aU 128 [.agg #[vI v,vI w,vI x,.int .i32 y,vI z],vI A] fun B =>
 cond (!B)
 (T.ret (vI 13))
 (T.ret (vI 0)))))
theorem yQ (a:Int) (b:Int) (c:Int) (d:Int) (e:Int):bI Tryz.prog [] Tryz.f118 [.agg #[vI a,vI b,vI c,.int .i32 d,vI e]]=xC a b c d e:=ax
def tU (a:Int):T :=
 cond (decide (a>=(1:Int)))
 (cond (decide (a<=(256:Int)))
 (T.ret (.bool ((bi (((BitVec.toNat ((BitVec.ofInt 64 a) &&& (BitVec.ofInt 64 (bi (a-(1:Int)))))):Nat):Int))==(0:Int))))
 bt)
 bt
theorem yb (a:Int):bI Tryz.prog [] Tryz.f100 [vI a]=tU a:=ax
def kB (a:Int) (b:ZA) (c:Int) (d:Int) (e:Int) (f:Int) (g:Int) (h:Option ZC) (i j:Nat) (k:Int) (l:Int):T :=
 T.new [vI a,.string b,vI c,vI d,vI e,.int .i32 f,vI g,.slice h i j,.int .u32 k,vI l] 64 fun m =>
 T.ah (m.add 2) [.int .i64] fun n =>
 bG 105 [vI n] true [(true,[.string,.int .u8,.int .i64]),cd] fun o p q r =>
 T.new [bS,.int .u8 0,vI 0] 165 fun s =>
 T.aC s [.string o,.int .u8 p,vI q] <|
 cond (!r)
 bt
 (T.ah ((m.add 2).add 4) [.int .i64] fun t =>
 cond (t != (0:Int))
 bt
 (T.ah (m.add 2) [.int .i64,.int .i64,.int .i64,.int .i32,.int .i64] fun u v w x y =>
 T.new [vI 0,vI 0,vI 0,.int .i32 0,vI 0] 62 fun z =>
 T.aC z [vI u,vI v,vI w,.int .i32 x,vI y] <|
 T.ah (s.add 2) [.int .i64] fun A =>
 cond (A==(12:Int))
 (cond (A==(12:Int))
 (T.aC (z.add 4) [vI 1] <|
 T.ah ((m.add 2).add 3) [.int .i32] fun B =>
 cond (B==(0:Int))
 (T.ah z [.int .i64,.int .i64,.int .i64,.int .i32,.int .i64] fun C D E F G =>
 cD 118 [.agg #[vI C,vI D,vI E,.int .i32 F,vI G]] fun H =>
 cond (H==(0:Int))
 (T.ah (m.add 7) [.slice 66,.int .u32] fun I J K L =>
 aU 80 [.agg #[.slice I J K,.int .u32 L]] fun M =>
 T.ret (.bool M))
 bt)
 bt)
 (cond (A==(10:Int))
 (cond (A==(10:Int))
 (T.ah ((m.add 2).add 3) [.int .i32] fun B =>
 cond (B==(0:Int))
 (T.ah z [.int .i64,.int .i64,.int .i64,.int .i32,.int .i64] fun C D E F G =>
 cD 118 [.agg #[vI C,vI D,vI E,.int .i32 F,vI G]] fun H =>
 cond (H==(0:Int))
 (T.ah (m.add 7) [.slice 66,.int .u32] fun I J K L =>
 aU 80 [.agg #[.slice I J K,.int .u32 L]] fun M =>
 T.ret (.bool M))
 bt)
 bt)
 (T.ah z [.int .i64,.int .i64,.int .i64,.int .i32,.int .i64] fun B C D E F =>
 cD 118 [.agg #[vI B,vI C,vI D,.int .i32 E,vI F]] fun G =>
 cond (G==(0:Int))
 (T.ah (m.add 7) [.slice 66,.int .u32] fun H I J K =>
 aU 101 [.agg #[.slice H I J,.int .u32 K],.agg #[bd,.int .u32 0]] fun L =>
 T.ret (.bool L))
 bt))
 (cond (A==(11:Int))
 (T.ah ((m.add 2).add 3) [.int .i32] fun B =>
 cond (B==(0:Int))
 (T.ah z [.int .i64,.int .i64,.int .i64,.int .i32,.int .i64] fun C D E F G =>
 cD 118 [.agg #[vI C,vI D,vI E,.int .i32 F,vI G]] fun H =>
 cond (H==(0:Int))
 (T.ah (m.add 7) [.slice 66,.int .u32] fun I J K L =>
 aU 80 [.agg #[.slice I J K,.int .u32 L]] fun M =>
 T.ret (.bool M))
 bt)
 bt)
 (T.ah z [.int .i64,.int .i64,.int .i64,.int .i32,.int .i64] fun B C D E F =>
 cD 118 [.agg #[vI B,vI C,vI D,.int .i32 E,vI F]] fun G =>
 cond (G==(0:Int))
 (T.ah (m.add 7) [.slice 66,.int .u32] fun H I J K =>
 aU 101 [.agg #[.slice H I J,.int .u32 K],.agg #[bd,.int .u32 0]] fun L =>
 T.ret (.bool L))
 bt))))
 (cond (A==(13:Int))
 (T.aC (z.add 4) [vI 1] <|
 T.ah ((m.add 2).add 3) [.int .i32] fun B =>
 cond (B==(0:Int))
 (T.ah z [.int .i64,.int .i64,.int .i64,.int .i32,.int .i64] fun C D E F G =>
 cD 118 [.agg #[vI C,vI D,vI E,.int .i32 F,vI G]] fun H =>
 cond (H==(0:Int))
 (T.ah (m.add 7) [.slice 66,.int .u32] fun I J K L =>
 aU 80 [.agg #[.slice I J K,.int .u32 L]] fun M =>
 T.ret (.bool M))
 bt)
 bt)
 (cond (A==(10:Int))
 (cond (A==(10:Int))
 (T.ah ((m.add 2).add 3) [.int .i32] fun B =>
 cond (B==(0:Int))
 (T.ah z [.int .i64,.int .i64,.int .i64,.int .i32,.int .i64] fun C D E F G =>
 cD 118 [.agg #[vI C,vI D,vI E,.int .i32 F,vI G]] fun H =>
 cond (H==(0:Int))
 (T.ah (m.add 7) [.slice 66,.int .u32] fun I J K L =>
 aU 80 [.agg #[.slice I J K,.int .u32 L]] fun M =>
 T.ret (.bool M))
 bt)
 bt)
 (T.ah z [.int .i64,.int .i64,.int .i64,.int .i32,.int .i64] fun B C D E F =>
 cD 118 [.agg #[vI B,vI C,vI D,.int .i32 E,vI F]] fun G =>
 cond (G==(0:Int))
 (T.ah (m.add 7) [.slice 66,.int .u32] fun H I J K =>
 aU 101 [.agg #[.slice H I J,.int .u32 K],.agg #[bd,.int .u32 0]] fun L =>
 T.ret (.bool L))
 bt))
 (cond (A==(11:Int))
 (T.ah ((m.add 2).add 3) [.int .i32] fun B =>
 cond (B==(0:Int))
 (T.ah z [.int .i64,.int .i64,.int .i64,.int .i32,.int .i64] fun C D E F G =>
 cD 118 [.agg #[vI C,vI D,vI E,.int .i32 F,vI G]] fun H =>
 cond (H==(0:Int))
 (T.ah (m.add 7) [.slice 66,.int .u32] fun I J K L =>
 aU 80 [.agg #[.slice I J K,.int .u32 L]] fun M =>
 T.ret (.bool M))
 bt)
 bt)
 (T.ah z [.int .i64,.int .i64,.int .i64,.int .i32,.int .i64] fun B C D E F =>
 cD 118 [.agg #[vI B,vI C,vI D,.int .i32 E,vI F]] fun G =>
 cond (G==(0:Int))
 (T.ah (m.add 7) [.slice 66,.int .u32] fun H I J K =>
 aU 101 [.agg #[.slice H I J,.int .u32 K],.agg #[bd,.int .u32 0]] fun L =>
 T.ret (.bool L))
 bt))))))
theorem qc (a:Int) (b:ZA) (c:Int) (d:Int) (e:Int) (f:Int) (g:Int) (h:Option ZC) (i j:Nat) (k:Int) (l:Int):bI Tryz.prog [] Tryz.f99 [.agg #[vI a,.string b,vI c,vI d,vI e,.int .i32 f,vI g,.slice h i j,.int .u32 k,vI l]]=kB a b c d e f g h i j k l:=ax
def vB (a:Option ZC) (b c:Nat) (d:Option ZC) (e f:Nat) (g:Option ZC) (h i:Nat) (j:Option ZC) (k l:Nat):T :=
 T.new [.slice a b c,.slice d e f,.slice g h i,.slice j k l] 30 fun m =>
 T.ah m [.slice 64] fun n o p =>
 T.ah (m.add 1) [.slice 64] fun q r s =>
 cond (decide ((bi ((o:Int)+(r:Int)))>(8192:Int)))
 (T.ret (vI 4))
 (T.ah (m.add 2) [.slice 88] fun t u v =>
 cond (decide ((u:Int)>(8192:Int)))
 (T.ret (vI 4))
 (bK (Instr.makeMap 142 none) false [(false,[.map 0 0])] fun w =>
 T.ah m [.slice 64] fun x y z =>
 T.ah (m.add 1) [.slice 64] fun A B C =>
 bh (Instr.buildSlice 68 2 #[(0,.slice x y z),(1,.slice A B C)]) fun D E F =>
 T.loop [aM,aM] [vI 0,vI 0] fun G H =>
 bq H E
 (aZ H E D fun I =>
 T.ah (I.add (aK H 1)) [.slice 64] fun J K L =>
 T.loop [aM,aM] [vI G,vI 0] fun M N =>
 bq N K
 (aZ N K J fun O =>
 T.ah (O.add (aK N 10)) [.int .i64,.string,.int .i64,.int .i64,.int .i64,.int .i32,.int .i64,.slice 66,.int .u32,.int .i64] fun P Q R S U V W X Y Z a0 a1 =>
 T.new [vI 0,bS,vI 0,vI 0,vI 0,.int .i32 0,vI 0,bd,.int .u32 0,vI 0] 64 fun a2 =>
 T.aC a2 [vI P,.string Q,vI R,vI S,vI U,.int .i32 V,vI W,.slice X Y Z,.int .u32 a0,vI a1] <|
 T.ah a2 [.int .i64,.string,.int .i64,.int .i64,.int .i64,.int .i32,.int .i64,.slice 66,.int .u32,.int .i64] fun a3 a4 a5 a6 a7 a8 a9 b0 b1 b2 b3 b4 =>
 cD 78 [.agg #[vI a3,.string a4,vI a5,vI a6,vI a7,.int .i32 a8,vI a9,.slice b0 b1 b2,.int .u32 b3,vI b4],vI H] fun b5 =>
 cond (b5 != (0:Int))
 (T.ret (vI 31))
 (T.ah a2 [.int .i64] fun b6 =>
 cond (b6==(1:Int))
 (T.ah (a2.add 1) [.string] fun b7 =>
 dQ (Instr.lookup 142 (.map w) (.string b7) false) fun b8 =>
 cond b8
 (T.ret (vI 31))
 (T.ah a2 [.int .i64] fun b9 =>
 cond (b9==(1:Int))
 (T.ah (a2.add 1) [.string] fun c0 =>
 T.ec Tryz.prog (Instr.mapUpdate 142 (.map w) (.string c0) (.bool true)) <|
 T.again 1 [vI M,bg N])
 (T.again 1 [vI M,bg N])))
 (T.ah a2 [.int .i64] fun b7 =>
 cond (b7==(1:Int))
 (T.ah (a2.add 1) [.string] fun b8 =>
 T.ec Tryz.prog (Instr.mapUpdate 142 (.map w) (.string b8) (.bool true)) <|
 T.again 1 [vI M,bg N])
 (T.again 1 [vI M,bg N]))))
 (T.again 0 [vI M,bg H]))
 (T.ah (m.add 2) [.slice 88] fun I J K =>
 T.loop [aM,aM] [vI G,vI 0] fun L M =>
 bq M J
 (aZ M J I fun N =>
 T.ah (N.add (aK M 3)) [.string,.slice 66,.int .u32] fun O P Q R S =>
 T.new [bS,bd,.int .u32 0] 88 fun U =>
 T.aC U [.string O,.slice P Q R,.int .u32 S] <|
 T.ah U [.string] fun V =>
 dQ (Instr.lookup 142 (.map w) (.string V) false) fun W =>
 cond W
 (T.ret (vI 31))
 (T.ah U [.string] fun X =>
 aU 79 [.string X] fun Y =>
 cond (!Y)
 (T.ret (vI 31))
 (T.ah (U.add 1) [.slice 66,.int .u32] fun Z a0 a1 a2 =>
 aU 80 [.agg #[.slice Z a0 a1,.int .u32 a2]] fun a3 =>
 cond (!a3)
 (T.ret (vI 31))
 (T.ah U [.string] fun a4 =>
 T.ec Tryz.prog (Instr.mapUpdate 142 (.map w) (.string a4) (.bool true)) <|
 T.again 1 [vI L,bg M]))))
 (T.ah (m.add 3) [.slice 9] fun N O P =>
 T.loop [aM,aM] [vI L,vI 0] fun Q R =>
 bq R O
 (aZ R O N fun S =>
 T.ah (S.add (aK R 1)) [.string] fun U =>
 dQ (Instr.lookup 142 (.map w) (.string U) false) fun V =>
 cond (!V)
 (T.ret (vI 31))
 (cond (decide (R>(0:Int)))
 (T.ah (m.add 3) [.slice 9] fun W X Y =>
 T.need (((0:Int)<=(bi (R-(1:Int))))/\((bi (R-(1:Int)))<(X:Int))) <|
 T.bk W fun Z =>
 T.ah (Z.add ((Int.toNat (bi (R-(1:Int))))*1)) [.string] fun a0 =>
 cond ((Op.bytesLess (ByteArray.toList U) (ByteArray.toList a0)) || ((ByteArray.toList U)==(ByteArray.toList a0)))
 (T.ret (vI 31))
 (T.again 2 [vI Q,bg R]))
 (T.again 2 [vI Q,bg R])))
 (T.ret (vI 0))))))
theorem xU (a:Option ZC) (b c:Nat) (d:Option ZC) (e f:Nat) (g:Option ZC) (h i:Nat) (j:Option ZC) (k l:Nat):bI Tryz.prog [] Tryz.f42 [.agg #[.slice a b c,.slice d e f,.slice g h i,.slice j k l]]=vB a b c d e f g h i j k l:=ax
end Go.Sx
