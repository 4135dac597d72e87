/- Trees of functions. No condition. -/
import Derived.Test.YtmdncdaladplkaaGreatDoorSxF
import Derived.Test.YtmdncdaladplkaaGreatDoorProg
import Derived.KernelRfl
set_option linter.all false
set_option maxRecDepth 100000
set_option maxHeartbeats 4000000
namespace Go.Sx
open Go.Proofs
def Gk (a:Int):T :=
 T.new [cm,.int .u8 0,vI 0] 171 fun b =>
 cond (decide (a<1))
 (T.aD b [cm,.int .u8 0,vI 0] <|
 T.af b [.string,.int .u8,.int .i64] fun c d e =>
 bG #[.agg #[.string c,.int .u8 d,vI e],.bool false])
 (cond (decide (a>43))
 (T.aD b [cm,.int .u8 0,vI 0] <|
 T.af b [.string,.int .u8,.int .i64] fun c d e =>
 bG #[.agg #[.string c,.int .u8 d,vI e],.bool false])
 (T.need ((0<=(bq (a-1)))/\((bq (a-1))<43)) <|
 T.af ((⟨0,0,none⟩:Xax).add ((Int.toNat (bq (a-1)))*3)) [.string,.int .u8,.int .i64] fun c d e =>
 T.aD b [.string c,.int .u8 d,vI e] <|
 T.af b [.string,.int .u8,.int .i64] fun f g h =>
 bG #[.agg #[.string f,.int .u8 g,vI h],.bool true]))
def HO (a:Int):bZ Xaz [] Tryz.f67 [vI a]=Gk a:=ax
def zk (a:Int):T :=
 bP 67 [vI a] true [(true,[.string,.int .u8,.int .i64]),cn] fun b c d e =>
 T.new [cm,.int .u8 0,vI 0] 171 fun f =>
 T.aD f [.string b,.int .u8 c,vI d] <|
 T.af (f.add 2) [.int .i64] fun g =>
 cond (g==12)
 ez
 (T.af (f.add 2) [.int .i64] fun h =>
 T.ret (.bool (h==13)))
def AY (a:Int):bZ Xaz [] Tryz.f60 [vI a]=zk a:=ax
def yQ (a b:Int):T :=
 cond (decide (a>=0))
 (T.ret (.bool (decide (a<b))))
 bz
def B' (a b:Int):bZ Xaz [] Tryz.f155 [vI a,vI b]=yQ a b:=ax
def ur (a b:Int):T :=
 cond (b==1)
 (T.ret (.bool (a==(IntKind.wrap .i32 (IntKind.wrap .i8 a)))))
 (cond (b==2)
 (T.ret (.bool (a==(IntKind.wrap .i32 (IntKind.wrap .i16 a)))))
 (T.ret (.bool (b==4))))
def yj (a b:Int):bZ Xaz [] Tryz.f156 [.int .i32 a,vI b]=ur a b:=ax
def zu (a b c d e:Int):T :=
 T.new [vI a,vI b,vI c,.int .i32 d,vI e] 49 fun f =>
 T.af f [.int .i64] fun g =>
 bP 67 [vI g] true [(true,[.string,.int .u8,.int .i64]),cn] fun h i j k =>
 T.new [cm,.int .u8 0,vI 0] 171 fun l =>
 T.aD l [.string h,.int .u8 i,vI j] <|
 cond (!k)
 (T.ret (vI 11))
 (T.af f [.int .i64,.int .i64,.int .i64,.int .i32,.int .i64] fun m n o p q =>
 T.af (l.add 2) [.int .i64] fun r =>
 aZ 137 [.agg #[vI m,vI n,vI o,.int .i32 p,vI q],vI r] fun s =>
 cond (!s)
 (T.ret (vI 12))
 (T.af f [.int .i64] fun t =>
 aZ 60 [vI t] fun u =>
 cond (!u)
 (T.af (f.add 4) [.int .i64] fun v =>
 cond (v != 0)
 (T.ret (vI 13))
 (T.af f [.int .i64,.int .i64,.int .i64,.int .i32,.int .i64] fun w x y z A =>
 T.af (l.add 2) [.int .i64] fun B =>
 aZ 138 [.agg #[vI w,vI x,vI y,.int .i32 z,vI A],vI B] fun C =>
 cond (!C)
 (T.ret (vI 13))
 (T.ret (vI 0))))
 (T.af f [.int .i64,.int .i64,.int .i64,.int .i32,.int .i64] fun v w x y z =>
 T.af (l.add 2) [.int .i64] fun A =>
 aZ 138 [.agg #[vI v,vI w,vI x,.int .i32 y,vI z],vI A] fun B =>
 cond (!B)
 (T.ret (vI 13))
 (T.ret (vI 0)))))
def Bq (a b c d e:Int):bZ Xaz [] Tryz.f111 [.agg #[vI a,vI b,vI c,.int .i32 d,vI e]]=zu a b c d e:=ax
def wT (a:Int):T :=
 cond (decide (a>=1))
 (cond (decide (a<=256))
 (T.ret (.bool ((bq (((BitVec.toNat ((BitVec.ofInt 64 a) &&& (BitVec.ofInt 64 (bq (a-1))))):Nat):Int))==0)))
 bz)
 bz
def zW (a:Int):bZ Xaz [] Tryz.f81 [vI a]=wT a:=ax
def mS (a:Int) (b:Xaa) (c d e f g:Int) (h:Xac) (i j:Nat) (k l:Int):T :=
 T.new [vI a,.string b,vI c,vI d,vI e,.int .i32 f,vI g,.slice h i j,aF k,vI l] 55 fun m =>
 T.af (m.add 2) [.int .i64] fun n =>
 bP 67 [vI n] true [(true,[.string,.int .u8,.int .i64]),cn] fun o p q r =>
 T.new [cm,.int .u8 0,vI 0] 171 fun s =>
 T.aD s [.string o,.int .u8 p,vI q] <|
 cond (!r)
 bz
 (T.af ((m.add 2).add 4) [.int .i64] fun t =>
 cond (t != 0)
 bz
 (T.af (m.add 2) [.int .i64,.int .i64,.int .i64,.int .i32,.int .i64] fun u v w x y =>
 T.new [vI 0,vI 0,vI 0,.int .i32 0,vI 0] 49 fun z =>
 T.aD z [vI u,vI v,vI w,.int .i32 x,vI y] <|
 T.af (s.add 2) [.int .i64] fun A =>
 cond (A==12)
 (cond (A==12)
 (T.aD (z.add 4) [vI 1] <|
 T.af ((m.add 2).add 3) [.int .i32] fun B =>
 cond (B==0)
 (T.af z [.int .i64,.int .i64,.int .i64,.int .i32,.int .i64] fun C D E F G =>
 cQ 111 [.agg #[vI C,vI D,vI E,.int .i32 F,vI G]] fun H =>
 cond (H==0)
 (T.af (m.add 7) (yL 64) fun I J K L =>
 aZ 56 [.agg #[.slice I J K,aF L]] fun M =>
 T.ret (.bool M))
 bz)
 bz)
 (cond (A==10)
 (cond (A==10)
 (T.af ((m.add 2).add 3) [.int .i32] fun B =>
 cond (B==0)
 (T.af z [.int .i64,.int .i64,.int .i64,.int .i32,.int .i64] fun C D E F G =>
 cQ 111 [.agg #[vI C,vI D,vI E,.int .i32 F,vI G]] fun H =>
 cond (H==0)
 (T.af (m.add 7) (yL 64) fun I J K L =>
 aZ 56 [.agg #[.slice I J K,aF L]] fun M =>
 T.ret (.bool M))
 bz)
 bz)
 (T.af z [.int .i64,.int .i64,.int .i64,.int .i32,.int .i64] fun B C D E F =>
 cQ 111 [.agg #[vI B,vI C,vI D,.int .i32 E,vI F]] fun G =>
 cond (G==0)
 (T.af (m.add 7) (yL 64) fun H I J K =>
 aZ 82 [.agg #[.slice H I J,aF K],.agg #[bg,aF 0]] fun L =>
 T.ret (.bool L))
 bz))
 (cond (A==11)
 (T.af ((m.add 2).add 3) [.int .i32] fun B =>
 cond (B==0)
 (T.af z [.int .i64,.int .i64,.int .i64,.int .i32,.int .i64] fun C D E F G =>
 cQ 111 [.agg #[vI C,vI D,vI E,.int .i32 F,vI G]] fun H =>
 cond (H==0)
 (T.af (m.add 7) (yL 64) fun I J K L =>
 aZ 56 [.agg #[.slice I J K,aF L]] fun M =>
 T.ret (.bool M))
 bz)
 bz)
 (T.af z [.int .i64,.int .i64,.int .i64,.int .i32,.int .i64] fun B C D E F =>
 cQ 111 [.agg #[vI B,vI C,vI D,.int .i32 E,vI F]] fun G =>
 cond (G==0)
 (T.af (m.add 7) (yL 64) fun H I J K =>
 aZ 82 [.agg #[.slice H I J,aF K],.agg #[bg,aF 0]] fun L =>
 T.ret (.bool L))
 bz))))
 (cond (A==13)
 (T.aD (z.add 4) [vI 1] <|
 T.af ((m.add 2).add 3) [.int .i32] fun B =>
 cond (B==0)
 (T.af z [.int .i64,.int .i64,.int .i64,.int .i32,.int .i64] fun C D E F G =>
 cQ 111 [.agg #[vI C,vI D,vI E,.int .i32 F,vI G]] fun H =>
 cond (H==0)
 (T.af (m.add 7) (yL 64) fun I J K L =>
 aZ 56 [.agg #[.slice I J K,aF L]] fun M =>
 T.ret (.bool M))
 bz)
 bz)
 (cond (A==10)
 (cond (A==10)
 (T.af ((m.add 2).add 3) [.int .i32] fun B =>
 cond (B==0)
 (T.af z [.int .i64,.int .i64,.int .i64,.int .i32,.int .i64] fun C D E F G =>
 cQ 111 [.agg #[vI C,vI D,vI E,.int .i32 F,vI G]] fun H =>
 cond (H==0)
 (T.af (m.add 7) (yL 64) fun I J K L =>
 aZ 56 [.agg #[.slice I J K,aF L]] fun M =>
 T.ret (.bool M))
 bz)
 bz)
 (T.af z [.int .i64,.int .i64,.int .i64,.int .i32,.int .i64] fun B C D E F =>
 cQ 111 [.agg #[vI B,vI C,vI D,.int .i32 E,vI F]] fun G =>
 cond (G==0)
 (T.af (m.add 7) (yL 64) fun H I J K =>
 aZ 82 [.agg #[.slice H I J,aF K],.agg #[bg,aF 0]] fun L =>
 T.ret (.bool L))
 bz))
 (cond (A==11)
 (T.af ((m.add 2).add 3) [.int .i32] fun B =>
 cond (B==0)
 (T.af z [.int .i64,.int .i64,.int .i64,.int .i32,.int .i64] fun C D E F G =>
 cQ 111 [.agg #[vI C,vI D,vI E,.int .i32 F,vI G]] fun H =>
 cond (H==0)
 (T.af (m.add 7) (yL 64) fun I J K L =>
 aZ 56 [.agg #[.slice I J K,aF L]] fun M =>
 T.ret (.bool M))
 bz)
 bz)
 (T.af z [.int .i64,.int .i64,.int .i64,.int .i32,.int .i64] fun B C D E F =>
 cQ 111 [.agg #[vI B,vI C,vI D,.int .i32 E,vI F]] fun G =>
 cond (G==0)
 (T.af (m.add 7) (yL 64) fun H I J K =>
 aZ 82 [.agg #[.slice H I J,aF K],.agg #[bg,aF 0]] fun L =>
 T.ret (.bool L))
 bz))))))
def rA (a:Int) (b:Xaa) (c d e f g:Int) (h:Xac) (i j:Nat) (k l:Int):bZ Xaz [] Tryz.f80 [.agg #[vI a,.string b,vI c,vI d,vI e,.int .i32 f,vI g,.slice h i j,.int .u32 k,vI l]]=mS a b c d e f g h i j k l:=ax
def xy (a:Xac) (b c:Nat) (d:Xac) (e f:Nat) (g:Xac) (h i:Nat) (j:Xac) (k l:Nat):T :=
 T.new [.slice a b c,.slice d e f,.slice g h i,.slice j k l] 70 fun m =>
 T.af m [.slice 55] fun n o p =>
 T.af (m.add 1) [.slice 55] fun q r s =>
 cond (decide ((bq ((o:Int)+(r:Int)))>8192))
 (T.ret (vI 4))
 (T.af (m.add 2) [.slice 116] fun t u v =>
 cond (decide ((u:Int)>8192))
 (T.ret (vI 4))
 (bQ (Instr.makeMap 152 none) false [(false,[.map 0 0])] fun w =>
 T.af m [.slice 55] fun x y z =>
 T.af (m.add 1) [.slice 55] fun A B C =>
 bn (Instr.buildSlice 43 2 #[(0,.slice x y z),(1,.slice A B C)]) fun D E F =>
 T.loop [aQ,aQ] [vI 0,vI 0] fun G H =>
 bt H E
 (aY H E D fun I =>
 T.af (I.add (aI H 1)) [.slice 55] fun J K L =>
 T.loop [aQ,aQ] [vI G,vI 0] fun M N =>
 bt N K
 (aY N K J fun O =>
 T.af (O.add (aI N 10)) (yI 64) fun P Q R S U V W X Y Z a0 a1 =>
 T.new [vI 0,cm,vI 0,vI 0,vI 0,.int .i32 0,vI 0,bg,aF 0,vI 0] 55 fun a2 =>
 T.aD a2 [vI P,.string Q,vI R,vI S,vI U,.int .i32 V,vI W,.slice X Y Z,aF a0,vI a1] <|
 T.af a2 (yI 64) fun a3 a4 a5 a6 a7 a8 a9 b0 b1 b2 b3 b4 =>
 cQ 54 [.agg #[vI a3,.string a4,vI a5,vI a6,vI a7,.int .i32 a8,vI a9,.slice b0 b1 b2,aF b3,vI b4],vI H] fun b5 =>
 cond (b5 != 0)
 (T.ret (vI 31))
 (T.af a2 [.int .i64] fun b6 =>
 cond (b6==1)
 (T.af (a2.add 1) [.string] fun b7 =>
 fh (Instr.lookup 152 (.map w) (.string b7) false) fun b8 =>
 cond b8
 (T.ret (vI 31))
 (T.af a2 [.int .i64] fun b9 =>
 cond (b9==1)
 (T.af (a2.add 1) [.string] fun c0 =>
 T.dX Xaz (Instr.mapUpdate 152 (.map w) (.string c0) (.bool true)) <|
 T.again 1 [vI M,bh N])
 (T.again 1 [vI M,bh N])))
 (T.af a2 [.int .i64] fun b7 =>
 cond (b7==1)
 (T.af (a2.add 1) [.string] fun b8 =>
 T.dX Xaz (Instr.mapUpdate 152 (.map w) (.string b8) (.bool true)) <|
 T.again 1 [vI M,bh N])
 (T.again 1 [vI M,bh N]))))
 (T.again 0 [vI M,bh H]))
 (T.af (m.add 2) [.slice 116] fun I J K =>
 T.loop [aQ,aQ] [vI G,vI 0] fun L M =>
 bt M J
 (aY M J I fun N =>
 T.af (N.add (aI M 3)) [.string,.slice 64,.int .u32] fun O P Q R S =>
 T.new [cm,bg,aF 0] 116 fun U =>
 T.aD U [.string O,.slice P Q R,aF S] <|
 T.af U [.string] fun V =>
 fh (Instr.lookup 152 (.map w) (.string V) false) fun W =>
 cond W
 (T.ret (vI 31))
 (T.af U [.string] fun X =>
 aZ 55 [.string X] fun Y =>
 cond (!Y)
 (T.ret (vI 31))
 (T.af (U.add 1) (yL 64) fun Z a0 a1 a2 =>
 aZ 56 [.agg #[.slice Z a0 a1,aF a2]] fun a3 =>
 cond (!a3)
 (T.ret (vI 31))
 (T.af U [.string] fun a4 =>
 T.dX Xaz (Instr.mapUpdate 152 (.map w) (.string a4) (.bool true)) <|
 T.again 1 [vI L,bh M]))))
 (T.af (m.add 3) [.slice 9] fun N O P =>
 T.loop [aQ,aQ] [vI L,vI 0] fun Q R =>
 bt R O
 (aY R O N fun S =>
 T.af (S.add (aI R 1)) [.string] fun U =>
 fh (Instr.lookup 152 (.map w) (.string U) false) fun V =>
 cond (!V)
 (T.ret (vI 31))
 (cond (decide (R>0))
 (T.af (m.add 3) [.slice 9] fun W X Y =>
 T.need ((0<=(bq (R-1)))/\((bq (R-1))<(X:Int))) <|
 T.bf W fun Z =>
 T.af (Z.add ((Int.toNat (bq (R-1)))*1)) [.string] fun a0 =>
 cond ((Op.bytesLess (ByteArray.toList U) (ByteArray.toList a0)) || ((ByteArray.toList U)==(ByteArray.toList a0)))
 (T.ret (vI 31))
 (T.again 2 [vI Q,bh R]))
 (T.again 2 [vI Q,bh R])))
 (T.ret (vI 0))))))
def Ad (a:Xac) (b c:Nat) (d:Xac) (e f:Nat) (g:Xac) (h i:Nat) (j:Xac) (k l:Nat):bZ Xaz [] Tryz.f30 [.agg #[.slice a b c,.slice d e f,.slice g h i,.slice j k l]]=xy a b c d e f g h i j k l:=ax
end Go.Sx
