/- Trees of functions, each checked by the kernel against the code. No condition. -/
import Derived.Test.YtfkjiiapldkoeaaGreatDoorSxF
import Derived.Test.YtfkjiiapldkoeaaGreatDoorProg
import Derived.KernelRfl
set_option linter.unusedVariables false
set_option linter.unusedSimpArgs false
set_option linter.deprecated false
set_option maxRecDepth 100000
namespace Go.Sx
open Go.Proofs
def Ac (a:Int):T :=
 T.new [.string ⟨#[]⟩,.int .u8 0,vI 0] 158 fun b =>
 cond (decide (a<(1:Int)))
 (T.ap b [.string ⟨#[]⟩,.int .u8 0,vI 0] <|
 T.ae b [.string,.int .u8,.int .i64] fun c d e =>
 T.ret (.tuple #[.agg #[.string c,.int .u8 d,vI e],.bool false]))
 (cond (decide (a>(43:Int)))
 (T.ap b [.string ⟨#[]⟩,.int .u8 0,vI 0] <|
 T.ae b [.string,.int .u8,.int .i64] fun c d e =>
 T.ret (.tuple #[.agg #[.string c,.int .u8 d,vI e],.bool false]))
 (T.need (((0:Int)≤(IntKind.wrap .i64 (a-(1:Int))))∧((IntKind.wrap .i64 (a-(1:Int)))<(43:Int))) <|
 T.ae ((⟨1,0,none⟩:Addr).add ((Int.toNat (IntKind.wrap .i64 (a-(1:Int))))*3)) [.string,.int .u8,.int .i64] fun c d e =>
 T.ap b [.string c,.int .u8 d,vI e] <|
 T.ae b [.string,.int .u8,.int .i64] fun f g h =>
 T.ret (.tuple #[.agg #[.string f,.int .u8 g,vI h],.bool true])))
theorem zM (a:Int):aX Tryz.prog [] Tryz.f90 [vI a]=Ac a:=by kernel_rfl
def sT (a:Int):T :=
 T.call Tryz.prog 90 [vI a] true [(true,[.string,.int .u8,.int .i64]),(false,[.bool])] fun b c d e =>
 T.new [.string ⟨#[]⟩,.int .u8 0,vI 0] 158 fun f =>
 T.ap f [.string b,.int .u8 c,vI d] <|
 T.ae (f.add 2) [.int .i64] fun g =>
 cond (g==(12:Int))
 (T.ret (.bool true))
 (T.ae (f.add 2) [.int .i64] fun h =>
 T.ret (.bool (h==(13:Int))))
theorem uN (a:Int):aX Tryz.prog [] Tryz.f51 [vI a]=sT a:=by kernel_rfl
def td (a:Int) (b:Int):T :=
 cond (decide (a≥(0:Int)))
 (T.ret (.bool (decide (a<b))))
 (T.ret (.bool false))
theorem uF (a:Int) (b:Int):aX Tryz.prog [] Tryz.f172 [vI a,vI b]=td a b:=by kernel_rfl
def pn (a:Int) (b:Int):T :=
 cond (b==(1:Int))
 (T.ret (.bool (a==(IntKind.wrap .i32 (IntKind.wrap .i8 a)))))
 (cond (b==(2:Int))
 (T.ret (.bool (a==(IntKind.wrap .i32 (IntKind.wrap .i16 a)))))
 (T.ret (.bool (b==(4:Int)))))
theorem sB (a:Int) (b:Int):aX Tryz.prog [] Tryz.f173 [.int .i32 a,vI b]=pn a b:=by kernel_rfl
def th (a:Int) (b:Int) (c:Int) (d:Int) (e:Int):T :=
 T.new [vI a,vI b,vI c,.int .i32 d,vI e] 90 fun f =>
 T.ae f [.int .i64] fun g =>
 T.call Tryz.prog 90 [vI g] true [(true,[.string,.int .u8,.int .i64]),(false,[.bool])] fun h i j k =>
 T.new [.string ⟨#[]⟩,.int .u8 0,vI 0] 158 fun l =>
 T.ap l [.string h,.int .u8 i,vI j] <|
 cond (!k)
 (T.ret (vI 11))
 (T.ae f [.int .i64,.int .i64,.int .i64,.int .i32,.int .i64] fun m n o p q =>
 T.ae (l.add 2) [.int .i64] fun r =>
 T.call Tryz.prog 143 [.agg #[vI m,vI n,vI o,.int .i32 p,vI q],vI r] false [(false,[.bool])] fun s =>
 cond (!s)
 (T.ret (vI 12))
 (T.ae f [.int .i64] fun t =>
 T.call Tryz.prog 51 [vI t] false [(false,[.bool])] fun u =>
 cond (!u)
 (T.ae (f.add 4) [.int .i64] fun v =>
 cond (v != (0:Int))
 (T.ret (vI 13))
 (T.ae f [.int .i64,.int .i64,.int .i64,.int .i32,.int .i64] fun w x y z A =>
 T.ae (l.add 2) [.int .i64] fun B =>
 T.call Tryz.prog 144 [.agg #[vI w,vI x,vI y,.int .i32 z,vI A],vI B] false [(false,[.bool])] fun C =>
 cond (!C)
 (T.ret (vI 13))
 (T.ret (vI 0))))
 (T.ae f [.int .i64,.int .i64,.int .i64,.int .i32,.int .i64] fun v w x y z =>
 T.ae (l.add 2) [.int .i64] fun A =>
 T.call Tryz.prog 144 [.agg #[vI v,vI w,vI x,.int .i32 y,vI z],vI A] false [(false,[.bool])] fun B =>
 cond (!B)
 (T.ret (vI 13))
 (T.ret (vI 0)))))
theorem vB (a:Int) (b:Int) (c:Int) (d:Int) (e:Int):aX Tryz.prog [] Tryz.f116 [.agg #[vI a,vI b,vI c,.int .i32 d,vI e]]=th a b c d e:=by kernel_rfl
def rM (a:Int):T :=
 cond (decide (a≥(1:Int)))
 (cond (decide (a≤(256:Int)))
 (T.ret (.bool ((IntKind.wrap .i64 (((BitVec.toNat ((BitVec.ofInt 64 a) &&& (BitVec.ofInt 64 (IntKind.wrap .i64 (a-(1:Int)))))):Nat):Int))==(0:Int))))
 (T.ret (.bool false)))
 (T.ret (.bool false))
theorem tL (a:Int):aX Tryz.prog [] Tryz.f79 [vI a]=rM a:=by kernel_rfl
def jC (a:Int) (b:ByteArray) (c:Int) (d:Int) (e:Int) (f:Int) (g:Int) (h:Option Addr) (i j:Nat) (k:Int) (l:Int):T :=
 T.new [vI a,.string b,vI c,vI d,vI e,.int .i32 f,vI g,.slice h i j,.int .u32 k,vI l] 96 fun m =>
 T.ae (m.add 2) [.int .i64] fun n =>
 T.call Tryz.prog 90 [vI n] true [(true,[.string,.int .u8,.int .i64]),(false,[.bool])] fun o p q r =>
 T.new [.string ⟨#[]⟩,.int .u8 0,vI 0] 158 fun s =>
 T.ap s [.string o,.int .u8 p,vI q] <|
 cond (!r)
 (T.ret (.bool false))
 (T.ae ((m.add 2).add 4) [.int .i64] fun t =>
 cond (t != (0:Int))
 (T.ret (.bool false))
 (T.ae (m.add 2) [.int .i64,.int .i64,.int .i64,.int .i32,.int .i64] fun u v w x y =>
 T.new [vI 0,vI 0,vI 0,.int .i32 0,vI 0] 90 fun z =>
 T.ap z [vI u,vI v,vI w,.int .i32 x,vI y] <|
 T.ae (s.add 2) [.int .i64] fun A =>
 cond (A==(12:Int))
 (cond (A==(12:Int))
 (T.ap (z.add 4) [vI 1] <|
 T.ae ((m.add 2).add 3) [.int .i32] fun B =>
 cond (B==(0:Int))
 (T.ae z [.int .i64,.int .i64,.int .i64,.int .i32,.int .i64] fun C D E F G =>
 T.call Tryz.prog 116 [.agg #[vI C,vI D,vI E,.int .i32 F,vI G]] false [(false,[.int .i64])] fun H =>
 cond (H==(0:Int))
 (T.ae (m.add 7) [.slice 109,.int .u32] fun I J K L =>
 T.call Tryz.prog 46 [.agg #[.slice I J K,.int .u32 L]] false [(false,[.bool])] fun M =>
 T.ret (.bool M))
 (T.ret (.bool false)))
 (T.ret (.bool false)))
 (cond (A==(10:Int))
 (cond (A==(10:Int))
 (T.ae ((m.add 2).add 3) [.int .i32] fun B =>
 cond (B==(0:Int))
 (T.ae z [.int .i64,.int .i64,.int .i64,.int .i32,.int .i64] fun C D E F G =>
 T.call Tryz.prog 116 [.agg #[vI C,vI D,vI E,.int .i32 F,vI G]] false [(false,[.int .i64])] fun H =>
 cond (H==(0:Int))
 (T.ae (m.add 7) [.slice 109,.int .u32] fun I J K L =>
 T.call Tryz.prog 46 [.agg #[.slice I J K,.int .u32 L]] false [(false,[.bool])] fun M =>
 T.ret (.bool M))
 (T.ret (.bool false)))
 (T.ret (.bool false)))
 (T.ae z [.int .i64,.int .i64,.int .i64,.int .i32,.int .i64] fun B C D E F =>
 T.call Tryz.prog 116 [.agg #[vI B,vI C,vI D,.int .i32 E,vI F]] false [(false,[.int .i64])] fun G =>
 cond (G==(0:Int))
 (T.ae (m.add 7) [.slice 109,.int .u32] fun H I J K =>
 T.call Tryz.prog 80 [.agg #[.slice H I J,.int .u32 K],.agg #[.slice none 0 0,.int .u32 0]] false [(false,[.bool])] fun L =>
 T.ret (.bool L))
 (T.ret (.bool false))))
 (cond (A==(11:Int))
 (T.ae ((m.add 2).add 3) [.int .i32] fun B =>
 cond (B==(0:Int))
 (T.ae z [.int .i64,.int .i64,.int .i64,.int .i32,.int .i64] fun C D E F G =>
 T.call Tryz.prog 116 [.agg #[vI C,vI D,vI E,.int .i32 F,vI G]] false [(false,[.int .i64])] fun H =>
 cond (H==(0:Int))
 (T.ae (m.add 7) [.slice 109,.int .u32] fun I J K L =>
 T.call Tryz.prog 46 [.agg #[.slice I J K,.int .u32 L]] false [(false,[.bool])] fun M =>
 T.ret (.bool M))
 (T.ret (.bool false)))
 (T.ret (.bool false)))
 (T.ae z [.int .i64,.int .i64,.int .i64,.int .i32,.int .i64] fun B C D E F =>
 T.call Tryz.prog 116 [.agg #[vI B,vI C,vI D,.int .i32 E,vI F]] false [(false,[.int .i64])] fun G =>
 cond (G==(0:Int))
 (T.ae (m.add 7) [.slice 109,.int .u32] fun H I J K =>
 T.call Tryz.prog 80 [.agg #[.slice H I J,.int .u32 K],.agg #[.slice none 0 0,.int .u32 0]] false [(false,[.bool])] fun L =>
 T.ret (.bool L))
 (T.ret (.bool false))))))
 (cond (A==(13:Int))
 (T.ap (z.add 4) [vI 1] <|
 T.ae ((m.add 2).add 3) [.int .i32] fun B =>
 cond (B==(0:Int))
 (T.ae z [.int .i64,.int .i64,.int .i64,.int .i32,.int .i64] fun C D E F G =>
 T.call Tryz.prog 116 [.agg #[vI C,vI D,vI E,.int .i32 F,vI G]] false [(false,[.int .i64])] fun H =>
 cond (H==(0:Int))
 (T.ae (m.add 7) [.slice 109,.int .u32] fun I J K L =>
 T.call Tryz.prog 46 [.agg #[.slice I J K,.int .u32 L]] false [(false,[.bool])] fun M =>
 T.ret (.bool M))
 (T.ret (.bool false)))
 (T.ret (.bool false)))
 (cond (A==(10:Int))
 (cond (A==(10:Int))
 (T.ae ((m.add 2).add 3) [.int .i32] fun B =>
 cond (B==(0:Int))
 (T.ae z [.int .i64,.int .i64,.int .i64,.int .i32,.int .i64] fun C D E F G =>
 T.call Tryz.prog 116 [.agg #[vI C,vI D,vI E,.int .i32 F,vI G]] false [(false,[.int .i64])] fun H =>
 cond (H==(0:Int))
 (T.ae (m.add 7) [.slice 109,.int .u32] fun I J K L =>
 T.call Tryz.prog 46 [.agg #[.slice I J K,.int .u32 L]] false [(false,[.bool])] fun M =>
 T.ret (.bool M))
 (T.ret (.bool false)))
 (T.ret (.bool false)))
 (T.ae z [.int .i64,.int .i64,.int .i64,.int .i32,.int .i64] fun B C D E F =>
 T.call Tryz.prog 116 [.agg #[vI B,vI C,vI D,.int .i32 E,vI F]] false [(false,[.int .i64])] fun G =>
 cond (G==(0:Int))
 (T.ae (m.add 7) [.slice 109,.int .u32] fun H I J K =>
 T.call Tryz.prog 80 [.agg #[.slice H I J,.int .u32 K],.agg #[.slice none 0 0,.int .u32 0]] false [(false,[.bool])] fun L =>
 T.ret (.bool L))
 (T.ret (.bool false))))
 (cond (A==(11:Int))
 (T.ae ((m.add 2).add 3) [.int .i32] fun B =>
 cond (B==(0:Int))
 (T.ae z [.int .i64,.int .i64,.int .i64,.int .i32,.int .i64] fun C D E F G =>
 T.call Tryz.prog 116 [.agg #[vI C,vI D,vI E,.int .i32 F,vI G]] false [(false,[.int .i64])] fun H =>
 cond (H==(0:Int))
 (T.ae (m.add 7) [.slice 109,.int .u32] fun I J K L =>
 T.call Tryz.prog 46 [.agg #[.slice I J K,.int .u32 L]] false [(false,[.bool])] fun M =>
 T.ret (.bool M))
 (T.ret (.bool false)))
 (T.ret (.bool false)))
 (T.ae z [.int .i64,.int .i64,.int .i64,.int .i32,.int .i64] fun B C D E F =>
 T.call Tryz.prog 116 [.agg #[vI B,vI C,vI D,.int .i32 E,vI F]] false [(false,[.int .i64])] fun G =>
 cond (G==(0:Int))
 (T.ae (m.add 7) [.slice 109,.int .u32] fun H I J K =>
 T.call Tryz.prog 80 [.agg #[.slice H I J,.int .u32 K],.agg #[.slice none 0 0,.int .u32 0]] false [(false,[.bool])] fun L =>
 T.ret (.bool L))
 (T.ret (.bool false))))))))
theorem mh (a:Int) (b:ByteArray) (c:Int) (d:Int) (e:Int) (f:Int) (g:Int) (h:Option Addr) (i j:Nat) (k:Int) (l:Int):aX Tryz.prog [] Tryz.f78 [.agg #[vI a,.string b,vI c,vI d,vI e,.int .i32 f,vI g,.slice h i j,.int .u32 k,vI l]]=jC a b c d e f g h i j k l:=by kernel_rfl
def qD (a:Option Addr) (b c:Nat) (d:Option Addr) (e f:Nat) (g:Option Addr) (h i:Nat) (j:Option Addr) (k l:Nat):T :=
 T.new [.slice a b c,.slice d e f,.slice g h i,.slice j k l] 27 fun m =>
 T.ae m [.slice 96] fun n o p =>
 T.ae (m.add 1) [.slice 96] fun q r s =>
 cond (decide ((IntKind.wrap .i64 ((o:Int)+(r:Int)))>(8192:Int)))
 (T.ret (vI 4))
 (T.ae (m.add 2) [.slice 99] fun t u v =>
 cond (decide ((u:Int)>(8192:Int)))
 (T.ret (vI 4))
 (T.aY Tryz.prog (Instr.makeMap 70 none) false [(false,[.map 0 0])] fun w =>
 T.ae m [.slice 96] fun x y z =>
 T.ae (m.add 1) [.slice 96] fun A B C =>
 T.aY Tryz.prog (Instr.buildSlice 100 2 #[(0,.slice x y z),(1,.slice A B C)]) false [(false,[.slice 0])] fun D E F =>
 T.loop [(false,[.int .i64]),(false,[.int .i64])] [vI 0,vI 0] fun G H =>
 cond (decide (H<(E:Int)))
 (T.need (((0:Int)≤H)∧(H<(E:Int))) <|
 T.au D fun I =>
 T.ae (I.add ((Int.toNat H)*1)) [.slice 96] fun J K L =>
 T.loop [(false,[.int .i64]),(false,[.int .i64])] [vI G,vI 0] fun M N =>
 cond (decide (N<(K:Int)))
 (T.need (((0:Int)≤N)∧(N<(K:Int))) <|
 T.au J fun O =>
 T.ae (O.add ((Int.toNat N)*10)) yI fun P Q R S U V W X Y Z a0 a1 =>
 T.new [vI 0,.string ⟨#[]⟩,vI 0,vI 0,vI 0,.int .i32 0,vI 0,.slice none 0 0,.int .u32 0,vI 0] 96 fun a2 =>
 T.ap a2 [vI P,.string Q,vI R,vI S,vI U,.int .i32 V,vI W,.slice X Y Z,.int .u32 a0,vI a1] <|
 T.ae a2 yI fun a3 a4 a5 a6 a7 a8 a9 b0 b1 b2 b3 b4 =>
 T.call Tryz.prog 44 [.agg #[vI a3,.string a4,vI a5,vI a6,vI a7,.int .i32 a8,vI a9,.slice b0 b1 b2,.int .u32 b3,vI b4],vI H] false [(false,[.int .i64])] fun b5 =>
 cond (b5 != (0:Int))
 (T.ret (vI 31))
 (T.ae a2 [.int .i64] fun b6 =>
 cond (b6==(1:Int))
 (T.ae (a2.add 1) [.string] fun b7 =>
 T.aY Tryz.prog (Instr.lookup 70 (.map w) (.string b7) false) false [(false,[.bool])] fun b8 =>
 cond b8
 (T.ret (vI 31))
 (T.ae a2 [.int .i64] fun b9 =>
 cond (b9==(1:Int))
 (T.ae (a2.add 1) [.string] fun c0 =>
 T.mC Tryz.prog (Instr.mapUpdate 70 (.map w) (.string c0) (.bool true)) <|
 T.again 1 [vI M,vI (IntKind.wrap .i64 (N+(1:Int)))])
 (T.again 1 [vI M,vI (IntKind.wrap .i64 (N+(1:Int)))])))
 (T.ae a2 [.int .i64] fun b7 =>
 cond (b7==(1:Int))
 (T.ae (a2.add 1) [.string] fun b8 =>
 T.mC Tryz.prog (Instr.mapUpdate 70 (.map w) (.string b8) (.bool true)) <|
 T.again 1 [vI M,vI (IntKind.wrap .i64 (N+(1:Int)))])
 (T.again 1 [vI M,vI (IntKind.wrap .i64 (N+(1:Int)))]))))
 (T.again 0 [vI M,vI (IntKind.wrap .i64 (H+(1:Int)))]))
 (T.ae (m.add 2) [.slice 99] fun I J K =>
 T.loop [(false,[.int .i64]),(false,[.int .i64])] [vI G,vI 0] fun L M =>
 cond (decide (M<(J:Int)))
 (T.need (((0:Int)≤M)∧(M<(J:Int))) <|
 T.au I fun N =>
 T.ae (N.add ((Int.toNat M)*3)) [.string,.slice 109,.int .u32] fun O P Q R S =>
 T.new [.string ⟨#[]⟩,.slice none 0 0,.int .u32 0] 99 fun U =>
 T.ap U [.string O,.slice P Q R,.int .u32 S] <|
 T.ae U [.string] fun V =>
 T.aY Tryz.prog (Instr.lookup 70 (.map w) (.string V) false) false [(false,[.bool])] fun W =>
 cond W
 (T.ret (vI 31))
 (T.ae U [.string] fun X =>
 T.call Tryz.prog 45 [.string X] false [(false,[.bool])] fun Y =>
 cond (!Y)
 (T.ret (vI 31))
 (T.ae (U.add 1) [.slice 109,.int .u32] fun Z a0 a1 a2 =>
 T.call Tryz.prog 46 [.agg #[.slice Z a0 a1,.int .u32 a2]] false [(false,[.bool])] fun a3 =>
 cond (!a3)
 (T.ret (vI 31))
 (T.ae U [.string] fun a4 =>
 T.mC Tryz.prog (Instr.mapUpdate 70 (.map w) (.string a4) (.bool true)) <|
 T.again 1 [vI L,vI (IntKind.wrap .i64 (M+(1:Int)))]))))
 (T.ae (m.add 3) [.slice 9] fun N O P =>
 T.loop [(false,[.int .i64]),(false,[.int .i64])] [vI L,vI 0] fun Q R =>
 cond (decide (R<(O:Int)))
 (T.need (((0:Int)≤R)∧(R<(O:Int))) <|
 T.au N fun S =>
 T.ae (S.add ((Int.toNat R)*1)) [.string] fun U =>
 T.aY Tryz.prog (Instr.lookup 70 (.map w) (.string U) false) false [(false,[.bool])] fun V =>
 cond (!V)
 (T.ret (vI 31))
 (cond (decide (R>(0:Int)))
 (T.ae (m.add 3) [.slice 9] fun W X Y =>
 T.need (((0:Int)≤(IntKind.wrap .i64 (R-(1:Int))))∧((IntKind.wrap .i64 (R-(1:Int)))<(X:Int))) <|
 T.au W fun Z =>
 T.ae (Z.add ((Int.toNat (IntKind.wrap .i64 (R-(1:Int))))*1)) [.string] fun a0 =>
 cond ((Op.bytesLess (ByteArray.toList U) (ByteArray.toList a0)) || ((ByteArray.toList U)==(ByteArray.toList a0)))
 (T.ret (vI 31))
 (T.again 2 [vI Q,vI (IntKind.wrap .i64 (R+(1:Int)))]))
 (T.again 2 [vI Q,vI (IntKind.wrap .i64 (R+(1:Int)))])))
 (T.ret (vI 0))))))
theorem ub (a:Option Addr) (b c:Nat) (d:Option Addr) (e f:Nat) (g:Option Addr) (h i:Nat) (j:Option Addr) (k l:Nat):aX Tryz.prog [] Tryz.f18 [.agg #[.slice a b c,.slice d e f,.slice g h i,.slice j k l]]=qD a b c d e f g h i j k l:=by kernel_rfl
end Go.Sx
